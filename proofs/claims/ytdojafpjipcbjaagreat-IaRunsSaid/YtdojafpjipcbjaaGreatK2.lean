/- -/
import Derived.Deep.AppendLies
import Derived.Deep.Onto
import Derived.Deep.DeepMust
import Derived.Test.YtdojafpjipcbjaaGreatK1
open Go.Proofs.Tryz
open Go.Lib (hid)
set_option maxHeartbeats 1000000
namespace Go.Proofs.YtdojafpjipcbjaaGreat
open Go.RowKit
set_option linter.unusedVariables false
set_option linter.unusedSimpArgs false
theorem B1c{p:Prop}(h:p:=by
 go_wp2_with fail
 refine(C4.out _).mono ?_;rintro e w2 ⟨v2,rfl,hr2,hb2⟩;have HR1:=hid (RowI.below (HR0.out _) hb2);clear HR0;obtain⟨a2,c2,rfl⟩:=hr2.shape;have hi2:=hr2.ints (by rw[A3];decide);have hl2:=A3 i 4;have HL2:=hid hl2;have hsz:w.heap.size+1≤w2.heap.size:=by have:=hb2.size;simpa using this
 have HB2:=hid (A6 hb2);obtain⟨b2,q2,ea,_⟩:=hi2.row (by rw[hl2];decide);subst ea;rw[hl2]at hi2;have HN2:=hid hi2.newsK;clear hr2 hi2 hl2 hb2;rw[HL2.out];go_wp2_with(at_builtin;refine wpList_append_own_at _ rfl _ _ 24 rfl w.heap.size 5 i0 (.int .u8 0) 1 1 underlying24 hi0 hz0 hz1 hz2 rfl (by decide) _ 1 _ rfl HR1.out ⟨b2,q2,none⟩ 4 c2 ((leB i 4).map (Value.int .u8)) rfl ?c0 HN2.out ?c2 ?c3 ?c4 ?c5 ?_)
 case c0=>rw[List.length_map,HL2.out]
 case c2=>intro u hu;obtain⟨x,_,rfl⟩:=List.mem_map.1 hu;rfl
 case c3=>unfold maxLen;decide
 case c4=>decide
 case c5=>omega
 intro v' w3 hown' hgrow _ _;have HO:=hid hown';have HG:=hid hgrow;clear hown' hgrow;go_wp2_with fail
 go_ret;refine⟨_,rfl,RowI.app (xs:=[_]) (ys:=leB i 4) HO.out (by rw[HL2.out];rfl) (by unfold mmB;simp only[List.cons_append,List.nil_append,List.cons.injEq,and_true];unfold wrap64;omega),(HB2.out).grown HG.out (by omega) (j8 HR1.out)⟩
 ):p:=h
theorem RowI.lit(w:World)(cs:Array Value)(xs:List Int)(k:IntKind)(e:TypeId)(base n:Nat)(hb:base≤w.heap.size)(hc:cs.toList=xs.map (Value.int k))(hn:n=xs.length)(hm:xs.length≤maxLen):
  RowI (w.alloc (.cells cs e)) base e k (.slice (some ⟨w.heap.size,0,none⟩) n n) xs:=by
 subst hn;have h:=World.ownsRow_lit (base:=base) (e:=e) (size:=1) w cs xs.length hb hm (by rw[←Array.length_toList,hc,List.length_map,Nat.mul_one]);unfold RowI;rw[←hc];exact h
theorem A4h(r m i:Int)(w:World)(hi:I64 i):Calls prog 168 #[.int .i64 r,.int .i64 m,.int .i64 i] w fun e w'=>∃v,e= .returned v∧RowI w' w.heap.size 5 .u8 v (mmB r m i)∧Below w.heap.size w w':=by
 obtain⟨i0,hi0,hz0,hz1,hz2⟩:=info_parts G4;have HI:=hid hi;clear hi;have HR0:Hid (∀x,RowI (w.alloc (.cells #[.int .u8 x] 5)) w.heap.size 5 .u8 (.slice (some ⟨w.heap.size,0,none⟩) 1 1) [x]):=fun x=>RowI.lit w #[.int .u8 x] [x] .u8 5 w.heap.size 1 (Nat.le_refl _) rfl rfl (by unfold maxLen;simp)
 have C4:Hid (∀w,Calls prog 75 #[.int .i64 i,.int .i64 4] w fun e w'=>∃v,e= .returned v∧RowI w' w.heap.size 5 .u8 v (leB i 4)∧Below w.heap.size w w'):=fun w=>G7 i 4 w HI.out (by decide)
 go_enter func168,ntmps168;exact B1c
theorem X4(r m i:Int)(w:World)(hi:I64 i):Calls prog 159 #[.int .i64 r,.int .i64 m,.int .i64 i] w fun e w'=>∃v,e= .returned v∧RowI w' w.heap.size 5 .u8 v (mmB r m i)∧Below w.heap.size w w':=by
 obtain⟨i0,hi0,hz0,hz1,hz2⟩:=info_parts G4;have HI:=hid hi;clear hi;have HR0:Hid (∀x,RowI (w.alloc (.cells #[.int .u8 x] 5)) w.heap.size 5 .u8 (.slice (some ⟨w.heap.size,0,none⟩) 1 1) [x]):=fun x=>RowI.lit w #[.int .u8 x] [x] .u8 5 w.heap.size 1 (Nat.le_refl _) rfl rfl (by unfold maxLen;simp)
 have C4:Hid (∀w,Calls prog 112 #[.int .i64 i,.int .i64 4] w fun e w'=>∃v,e= .returned v∧RowI w' w.heap.size 5 .u8 v (leB i 4)∧Below w.heap.size w w'):=fun w=>J6 i 4 w HI.out (by decide)
 go_enter func159,ntmps159;exact B1c
theorem t6(o:Int)(w:World)(h:0≤o∧o≤36):Calls prog 154 #[.int .i64 o] w fun e w'=>e= .returned (.int .u8 (N7 o))∧w=w':=by
 rcases(show o=0∨o=1∨o=2∨o=3∨o=4∨o=5∨o=6∨o=7∨o=8∨o=9∨o=10∨o=11∨o=12∨o=13∨o=14∨o=15∨o=16∨o=17∨o=18∨o=19∨o=20∨o=21∨o=22∨o=23∨o=24∨o=25∨o=26∨o=27∨o=28∨o=29∨o=30∨o=31∨o=32∨o=33∨o=34∨o=35∨o=36 by omega)with rfl|rfl|rfl|rfl|rfl|rfl|rfl|rfl|rfl|rfl|rfl|rfl|rfl|rfl|rfl|rfl|rfl|rfl|rfl|rfl|rfl|rfl|rfl|rfl|rfl|rfl|rfl|rfl|rfl|rfl|rfl|rfl|rfl|rfl|rfl|rfl|rfl
 all_goals
  go_enter func154,ntmps154
  go_wp2
  go_ret;exact⟨rfl,rfl⟩
theorem M6(o:Int)(w:World)(h:0≤o∧o≤36):Calls prog 155 #[.int .i64 o] w fun e w'=>e= .returned (.int .i64 (M7 o))∧w=w':=by
 rcases(show o=0∨o=1∨o=2∨o=3∨o=4∨o=5∨o=6∨o=7∨o=8∨o=9∨o=10∨o=11∨o=12∨o=13∨o=14∨o=15∨o=16∨o=17∨o=18∨o=19∨o=20∨o=21∨o=22∨o=23∨o=24∨o=25∨o=26∨o=27∨o=28∨o=29∨o=30∨o=31∨o=32∨o=33∨o=34∨o=35∨o=36 by omega)with rfl|rfl|rfl|rfl|rfl|rfl|rfl|rfl|rfl|rfl|rfl|rfl|rfl|rfl|rfl|rfl|rfl|rfl|rfl|rfl|rfl|rfl|rfl|rfl|rfl|rfl|rfl|rfl|rfl|rfl|rfl|rfl|rfl|rfl|rfl|rfl|rfl
 all_goals
  go_enter func155,ntmps155
  go_wp2
  go_ret;exact⟨rfl,rfl⟩
theorem E3(n z:Int)(w:World)(hn:I64 n)(h0: -9223372036854775808+4294967296≤n)(hz:z=8∨z=16∨z=32):Calls prog 105 #[.int .i64 n,.int .i64 z] w fun e w'=>e= .returned (.int .i64 (sgB n z))∧w=w':=by
 obtain⟨h1,h2⟩:=hn;rcases hz with rfl|rfl|rfl
 ·have e:sgB n 8=if 128≤n then n-256 else n:=rfl
  rw[e];by_cases c:128≤n
  ·rw[if_pos c];clear e;go_enter func105,ntmps105
   go_wp2
   go_ret;exact⟨rfl,rfl⟩
  ·rw[if_neg c];clear e;go_enter func105,ntmps105
   go_wp2
   go_ret;exact⟨rfl,rfl⟩
 ·have e:sgB n 16=if 32768≤n then n-65536 else n:=rfl
  rw[e];by_cases c:32768≤n
  ·rw[if_pos c];clear e;go_enter func105,ntmps105
   go_wp2
   go_ret;exact⟨rfl,rfl⟩
  ·rw[if_neg c];clear e;go_enter func105,ntmps105
   go_wp2
   go_ret;exact⟨rfl,rfl⟩
 ·have e:sgB n 32=if 2147483648≤n then n-4294967296 else n:=rfl
  rw[e];by_cases c:2147483648≤n
  ·rw[if_pos c];clear e;go_enter func105,ntmps105
   go_wp2
   go_ret;exact⟨rfl,rfl⟩
  ·rw[if_neg c];clear e;go_enter func105,ntmps105
   go_wp2
   go_ret;exact⟨rfl,rfl⟩
theorem A3A{p:Prop}(h:p:=by
 go_wp2_with fail
 go_quiet((first|(go_at_call 120;exact B8 (C0.out _))|(go_at_call 121;exact B8 (C1.out _))))
 go_wp2_with fail
 go_ret;exact⟨rfl,A9 HB.out _⟩
 ):p:=h
theorem A8x{p:Prop}(h:p:=by
 go_enter func178,ntmps178;go_wp2_with(first|((with_reducible refine(C0.out _).mono ?_);rintro e w1 ⟨rfl,hb⟩;have q3:w1.cell? ⟨w.heap.size,3,none⟩=some (.int .i64 8):=A0 hb 3;have q4:w1.cell? ⟨w.heap.size,4,none⟩=some (.int .i64 i):=A0 hb 4)|((with_reducible first|refine(C1.out _).mono ?_|refine(C2.out _).mono ?_);rintro e w' ⟨rfl,rfl⟩))
 go_ret;exact⟨rfl,HB.out.trans (hb.mono (by simp))⟩
 ):p:=h
theorem A8w{p:Prop}(h:p:=by
 go_enter func178,ntmps178;go_wp2_with(first|((with_reducible refine(C0.out _).mono ?_);rintro e w1 ⟨rfl,hb⟩;have q3:w1.cell? ⟨w.heap.size,3,none⟩=some (.int .i64 8):=A0 hb 3;have q4:w1.cell? ⟨w.heap.size,4,none⟩=some (.int .i64 i):=A0 hb 4)|((with_reducible first|refine(C1.out _).mono ?_|refine(C2.out _).mono ?_);rintro e w' ⟨rfl,rfl⟩))
 go_ret;exact⟨rfl,HB.out.trans (hb.mono (by simp))⟩
 ):p:=h
theorem A2y{p:Prop}(h:p:=by
 go_wp2_with((with_reducible first|refine(C0.out _).mono ?_|refine(C1.out _).mono ?_);rintro e w' ⟨rfl,rfl⟩)
 go_ret;exact⟨rfl,HB.out⟩
 ):p:=h
theorem A8u{p:Prop}(h:p:=by
 go_enter func164,ntmps164;go_wp2_with((with_reducible first|refine(C0.out _).mono ?_|refine(C1.out _).mono ?_|refine(C2.out _).mono ?_);rintro e w' ⟨rfl,rfl⟩)
 go_ret;exact⟨rfl,HB.out⟩
 ):p:=h
theorem A8t{p:Prop}(h:p:=by
 go_enter func169,ntmps169;go_wp2_with((with_reducible first|refine(C0.out _).mono ?_|refine(C1.out _).mono ?_|refine(C2.out _).mono ?_);rintro e w' ⟨rfl,rfl⟩)
 go_ret;exact⟨rfl,HB.out⟩
 ):p:=h
theorem A8s{p:Prop}(h:p:=by
 go_enter func169,ntmps169;go_wp2_with((with_reducible first|refine(C0.out _).mono ?_|refine(C1.out _).mono ?_|refine(C2.out _).mono ?_);rintro e w' ⟨rfl,rfl⟩)
 go_ret;exact⟨rfl,HB.out⟩
 ):p:=h
theorem A8n{p:Prop}(h:p:=by
 go_enter func138,ntmps138;go_wp2_with((with_reducible first|refine(C0.out _).mono ?_|refine(C1.out _).mono ?_|refine(C2.out _).mono ?_);rintro e w' ⟨rfl,rfl⟩)
 go_ret;exact⟨rfl,HB.out⟩
 ):p:=h
theorem B1S{p:Prop}(h:p:=by
 rw[h1]at C0;clear h1;go_enter func178,ntmps178;go_wp2_with(first|((with_reducible refine(C0.out _).mono ?_);rintro e w1 ⟨rfl,hb⟩;have q3:w1.cell? ⟨w.heap.size,3,none⟩=some (.int .i64 32):=A0 hb 3;have q4:w1.cell? ⟨w.heap.size,4,none⟩=some (.int .i64 i):=A0 hb 4)|((with_reducible first|refine(C1.out _).mono ?_|refine(C2.out _).mono ?_);rintro e w' ⟨rfl,rfl⟩))
 go_ret;exact⟨rfl,HB.out.trans (hb.mono (by simp))⟩
 ):p:=h
theorem B1R{p:Prop}(h:p:=by
 rw[h1]at C0;clear h1;go_enter func178,ntmps178;go_wp2_with(first|((with_reducible refine(C0.out _).mono ?_);rintro e w1 ⟨rfl,hb⟩;have q3:w1.cell? ⟨w.heap.size,3,none⟩=some (.int .i64 32):=A0 hb 3;have q4:w1.cell? ⟨w.heap.size,4,none⟩=some (.int .i64 i):=A0 hb 4)|((with_reducible first|refine(C1.out _).mono ?_|refine(C2.out _).mono ?_);rintro e w' ⟨rfl,rfl⟩))
 go_ret;exact⟨rfl,HB.out.trans (hb.mono (by simp))⟩
 ):p:=h
theorem A8i{p:Prop}(h:p:=by
 go_enter func133,ntmps133;go_wp2_with((with_reducible first|refine(C0.out _).mono ?_|refine(C1.out _).mono ?_);rintro e w' ⟨rfl,rfl⟩)
 go_ret;exact⟨rfl,HB.out⟩
 ):p:=h
theorem A8h{p:Prop}(h:p:=by
 go_enter func136,ntmps136;go_wp2_with((with_reducible first|refine(C0.out _).mono ?_|refine(C1.out _).mono ?_);rintro e w' ⟨rfl,rfl⟩)
 go_ret;exact⟨rfl,HB.out⟩
 ):p:=h
theorem A8g{p:Prop}(h:p:=by
 go_enter func174,ntmps174;go_wp2_with((with_reducible refine(C0.out _).mono ?_);rintro e w' ⟨rfl,rfl⟩)
 go_ret;exact⟨rfl,HB.out⟩
 ):p:=h
theorem A7R{p:Prop}(h:p:=by
 cases h0:isR d
 ·rw[h0]at C0;clear h0;go_enter func171,ntmps171;exact A3A
 ·rw[h0]at C0;clear h0;cases h1:(s==0)
  ·go_enter func171,ntmps171;exact A3A
  ·go_enter func171,ntmps171;exact A3A
 ):p:=h
theorem A7Q{p:Prop}(h:p:=by
 cases h0:isR d
 ·rw[h0]at C0;clear h0;go_enter func119,ntmps119;exact A3A
 ·rw[h0]at C0;clear h0;cases h1:(s==0)
  ·go_enter func119,ntmps119;exact A3A
  ·go_enter func119,ntmps119;exact A3A
 ):p:=h
def D5(x:Ins):Value:=.agg #[.int .i64 x.o,.int .i64 x.d,.int .i64 x.s,.int .i64 x.z,.int .i64 x.i]
theorem A1B(o d s z i:Int)(w:World):Calls prog 162 #[.agg #[.int .i64 o,.int .i64 d,.int .i64 s,.int .i64 z,.int .i64 i]] w fun e w'=>e= .returned (.bool ((isR d)&&((isR s)&&(i==0))))∧Below w.heap.size w w':=by
 have HB:=hid ((Below.refl w.heap.size w).alloc (Nat.le_refl _) (.cells #[.int .i64 o,.int .i64 d,.int .i64 s,.int .i64 z,.int .i64 i] 61));have C0:=hid (fun w=>G8 d w);have C1:=hid (fun w=>G8 s w);cases h0:(isR d)
 ·rw[h0]at C0;clear h0;go_enter func162,ntmps162;exact A2y
 ·rw[h0]at C0;clear h0;cases h1:(isR s)
  ·rw[h1]at C1;clear h1;go_enter func162,ntmps162;exact A2y
  ·rw[h1]at C1;clear h1;go_enter func162,ntmps162;exact A2y
theorem A6Y(o d s z i:Int)(w:World):Calls prog 128 #[.agg #[.int .i64 o,.int .i64 d,.int .i64 s,.int .i64 z,.int .i64 i]] w fun e w'=>e= .returned (.bool ((isR d)&&((isR s)&&(i==0))))∧Below w.heap.size w w':=by
 have HB:=hid ((Below.refl w.heap.size w).alloc (Nat.le_refl _) (.cells #[.int .i64 o,.int .i64 d,.int .i64 s,.int .i64 z,.int .i64 i] 61));have C0:=hid (fun w=>G8 d w);have C1:=hid (fun w=>G8 s w);cases h0:(isR d)
 ·rw[h0]at C0;clear h0;go_enter func128,ntmps128;exact A2y
 ·rw[h0]at C0;clear h0;cases h1:(isR s)
  ·rw[h1]at C1;clear h1;go_enter func128,ntmps128;exact A2y
  ·rw[h1]at C1;clear h1;go_enter func128,ntmps128;exact A2y
theorem l6(o d s z i:Int)(w:World):Calls prog 164 #[.agg #[.int .i64 o,.int .i64 d,.int .i64 s,.int .i64 z,.int .i64 i]] w fun e w'=>e= .returned (.bool ((isR d)&&((isM s)&&(C9 i))))∧Below w.heap.size w w':=by
 have HB:=hid ((Below.refl w.heap.size w).alloc (Nat.le_refl _) (.cells #[.int .i64 o,.int .i64 d,.int .i64 s,.int .i64 z,.int .i64 i] 61));have C0:=hid (fun w=>G8 d w);have C1:=hid (fun w=>R2 s w);have C2:=hid (fun w=>K9 i w);cases h0:(isR d)
 ·rw[h0]at C0;clear h0;exact A8u
 ·rw[h0]at C0;clear h0;cases h1:(isM s)
  ·rw[h1]at C1;clear h1;exact A8u
  ·rw[h1]at C1;clear h1;exact A8u
theorem V5(o d s z i:Int)(w:World):Calls prog 174 #[.agg #[.int .i64 o,.int .i64 d,.int .i64 s,.int .i64 z,.int .i64 i]] w fun e w'=>e= .returned (.bool ((isR d)&&((s==0)&&(i==0))))∧Below w.heap.size w w':=by
 have HB:=hid ((Below.refl w.heap.size w).alloc (Nat.le_refl _) (.cells #[.int .i64 o,.int .i64 d,.int .i64 s,.int .i64 z,.int .i64 i] 61));have C0:=hid (fun w=>G8 d w);cases h0:(isR d)
 ·rw[h0]at C0;clear h0;exact A8g
 ·rw[h0]at C0;clear h0;cases h1:(s==0)
  ·skip
   exact A8g
  ·skip
   exact A8g
theorem Y6(o d s z i:Int)(w:World):Calls prog 176 #[.agg #[.int .i64 o,.int .i64 d,.int .i64 s,.int .i64 z,.int .i64 i]] w fun e w'=>e= .returned (.bool ((d==0)&&((s==0)&&(i==0))))∧Below w.heap.size w w':=by
 have HB:=hid ((Below.refl w.heap.size w).alloc (Nat.le_refl _) (.cells #[.int .i64 o,.int .i64 d,.int .i64 s,.int .i64 z,.int .i64 i] 61));cases h0:(d==0)
 ·skip
  go_enter func176,ntmps176;go_wp2_with fail
  go_ret;exact⟨rfl,HB.out⟩
 ·skip
  cases h1:(s==0)
  ·skip
   go_enter func176,ntmps176;go_wp2_with fail
   go_ret;exact⟨rfl,HB.out⟩
  ·skip
   go_enter func176,ntmps176;go_wp2_with fail
   go_ret;exact⟨rfl,HB.out⟩
theorem A6W(o d s z i:Int)(w:World):Calls prog 133 #[.agg #[.int .i64 o,.int .i64 d,.int .i64 s,.int .i64 z,.int .i64 i]] w fun e w'=>e= .returned (.bool ((isL d)&&((isC s)&&(i==0))))∧Below w.heap.size w w':=by
 have HB:=hid ((Below.refl w.heap.size w).alloc (Nat.le_refl _) (.cells #[.int .i64 o,.int .i64 d,.int .i64 s,.int .i64 z,.int .i64 i] 61));have C0:=hid (fun w=>b5 d w);have C1:=hid (fun w=>V4 s w);cases h0:(isL d)
 ·rw[h0]at C0;clear h0;exact A8i
 ·rw[h0]at C0;clear h0;cases h1:(isC s)
  ·rw[h1]at C1;clear h1;exact A8i
  ·rw[h1]at C1;clear h1;exact A8i
theorem A4v(o d s z i:Int)(w:World):Calls prog 136 #[.agg #[.int .i64 o,.int .i64 d,.int .i64 s,.int .i64 z,.int .i64 i]] w fun e w'=>e= .returned (.bool ((isR d)&&((isL s)&&(i==0))))∧Below w.heap.size w w':=by
 have HB:=hid ((Below.refl w.heap.size w).alloc (Nat.le_refl _) (.cells #[.int .i64 o,.int .i64 d,.int .i64 s,.int .i64 z,.int .i64 i] 61));have C0:=hid (fun w=>G8 d w);have C1:=hid (fun w=>b5 s w);cases h0:(isR d)
 ·rw[h0]at C0;clear h0;exact A8h
 ·rw[h0]at C0;clear h0;cases h1:(isL s)
  ·rw[h1]at C1;clear h1;exact A8h
  ·rw[h1]at C1;clear h1;exact A8h
theorem A4w(o d s z i:Int)(w:World):Calls prog 138 #[.agg #[.int .i64 o,.int .i64 d,.int .i64 s,.int .i64 z,.int .i64 i]] w fun e w'=>e= .returned (.bool ((isR d)&&((isR s)&&(isC i))))∧Below w.heap.size w w':=by
 have HB:=hid ((Below.refl w.heap.size w).alloc (Nat.le_refl _) (.cells #[.int .i64 o,.int .i64 d,.int .i64 s,.int .i64 z,.int .i64 i] 61));have C0:=hid (fun w=>G8 d w);have C1:=hid (fun w=>G8 s w);have C2:=hid (fun w=>V4 i w);cases h0:(isR d)
 ·rw[h0]at C0;clear h0;exact A8n
 ·rw[h0]at C0;clear h0;cases h1:(isR s)
  ·rw[h1]at C1;clear h1;exact A8n
  ·rw[h1]at C1;clear h1;exact A8n
theorem A2Y(o d s z i:Int)(w:World):Calls prog 143 #[.agg #[.int .i64 o,.int .i64 d,.int .i64 s,.int .i64 z,.int .i64 i]] w fun e w'=>e= .returned (.bool (isC s))∧Below w.heap.size w w':=by
 have HB:=hid ((Below.refl w.heap.size w).alloc (Nat.le_refl _) (.cells #[.int .i64 o,.int .i64 d,.int .i64 s,.int .i64 z,.int .i64 i] 61));have C0:=hid (fun w=>V4 s w);go_enter func143,ntmps143;go_wp2_with((with_reducible refine(C0.out _).mono ?_);rintro e w' ⟨rfl,rfl⟩)
 go_ret;exact⟨rfl,HB.out⟩
theorem A2X(o d s z i:Int)(w:World):Calls prog 146 #[.agg #[.int .i64 o,.int .i64 d,.int .i64 s,.int .i64 z,.int .i64 i]] w fun e w'=>e= .returned (.bool (s==0))∧Below w.heap.size w w':=by
 have HB:=hid ((Below.refl w.heap.size w).alloc (Nat.le_refl _) (.cells #[.int .i64 o,.int .i64 d,.int .i64 s,.int .i64 z,.int .i64 i] 61));go_enter func146,ntmps146;go_wp2_with fail
 go_ret;exact⟨rfl,HB.out⟩
theorem A1p(o d s z i:Int)(b:Nat)(w:World)(hc:w.cell? ⟨b,0,none⟩=some (.func (.func 120) #[] #[])):Calls prog 169 #[.agg #[.int .i64 o,.int .i64 d,.int .i64 s,.int .i64 z,.int .i64 i],.pointer (some ⟨b,0,none⟩)] w fun e w'=>e= .returned (.bool ((isM d)&&((isR s)&&(C9 i))))∧Below w.heap.size w w':=by
 have HB:=hid ((Below.refl w.heap.size w).alloc (Nat.le_refl _) (.cells #[.int .i64 o,.int .i64 d,.int .i64 s,.int .i64 z,.int .i64 i] 61));have C0:=hid (fun w=>R2 d w);have C1:=hid (fun w=>G8 s w);have C2:=hid (fun w=>K9 i w);have hl:=F0 hc;have hn:¬b=w.heap.size:=by omega
 cases h0:(isM d)
 ·rw[h0]at C0;clear h0;exact A8t
 ·rw[h0]at C0;clear h0;cases h1:(isR s)
  ·rw[h1]at C1;clear h1;exact A8t
  ·rw[h1]at C1;clear h1;exact A8t
theorem A1q(o d s z i:Int)(b:Nat)(w:World)(hc:w.cell? ⟨b,0,none⟩=some (.func (.func 126) #[] #[])):Calls prog 169 #[.agg #[.int .i64 o,.int .i64 d,.int .i64 s,.int .i64 z,.int .i64 i],.pointer (some ⟨b,0,none⟩)] w fun e w'=>e= .returned (.bool ((isM d)&&((isL s)&&(C9 i))))∧Below w.heap.size w w':=by
 have HB:=hid ((Below.refl w.heap.size w).alloc (Nat.le_refl _) (.cells #[.int .i64 o,.int .i64 d,.int .i64 s,.int .i64 z,.int .i64 i] 61));have C0:=hid (fun w=>R2 d w);have C1:=hid (fun w=>b5 s w);have C2:=hid (fun w=>K9 i w);have hl:=F0 hc;have hn:¬b=w.heap.size:=by omega
 cases h0:(isM d)
 ·rw[h0]at C0;clear h0;exact A8s
 ·rw[h0]at C0;clear h0;cases h1:(isL s)
  ·rw[h1]at C1;clear h1;exact A8s
  ·rw[h1]at C1;clear h1;exact A8s
theorem A1r(o d s i:Int)(w:World):Calls prog 171 #[.agg #[.int .i64 o,.int .i64 d,.int .i64 s,.int .i64 32,.int .i64 i]] w fun e w'=>e= .returned (.bool (isR d&&((s==0)&&inZ i 32)))∧Below w.heap.size w w':=by
 have HB:=hid ((Below.refl w.heap.size w).alloc (Nat.le_refl _) (.cells #[.int .i64 o,.int .i64 d,.int .i64 s,.int .i64 32,.int .i64 i] 61));have C0:=hid (fun w=>G8 d w);have C1:Hid (∀w,Calls prog 121 #[.int .i64 i,.int .i64 0,.int .i64 4294967295] w fun e w'=>e= .returned (.bool (inZ i 32))∧w=w'):=fun w=>I4 i 0 4294967295 w
 generalize inZ i 32=q at*
 exact A7R
theorem A1s(o d s i:Int)(w:World):Calls prog 171 #[.agg #[.int .i64 o,.int .i64 d,.int .i64 s,.int .i64 16,.int .i64 i]] w fun e w'=>e= .returned (.bool (isR d&&((s==0)&&inZ i 16)))∧Below w.heap.size w w':=by
 have HB:=hid ((Below.refl w.heap.size w).alloc (Nat.le_refl _) (.cells #[.int .i64 o,.int .i64 d,.int .i64 s,.int .i64 16,.int .i64 i] 61));have C0:=hid (fun w=>G8 d w);have C1:Hid (∀w,Calls prog 121 #[.int .i64 i,.int .i64 0,.int .i64 65535] w fun e w'=>e= .returned (.bool (inZ i 16))∧w=w'):=fun w=>I4 i 0 65535 w
 generalize inZ i 16=q at*
 exact A7R
theorem A1C(o d s i:Int)(w:World):Calls prog 119 #[.agg #[.int .i64 o,.int .i64 d,.int .i64 s,.int .i64 32,.int .i64 i]] w fun e w'=>e= .returned (.bool (isR d&&((s==0)&&inZ i 32)))∧Below w.heap.size w w':=by
 have HB:=hid ((Below.refl w.heap.size w).alloc (Nat.le_refl _) (.cells #[.int .i64 o,.int .i64 d,.int .i64 s,.int .i64 32,.int .i64 i] 61));have C0:=hid (fun w=>G8 d w);have C1:Hid (∀w,Calls prog 121 #[.int .i64 i,.int .i64 0,.int .i64 4294967295] w fun e w'=>e= .returned (.bool (inZ i 32))∧w=w'):=fun w=>I4 i 0 4294967295 w
 generalize inZ i 32=q at*
 exact A7Q
theorem A1D(o d s i:Int)(w:World):Calls prog 119 #[.agg #[.int .i64 o,.int .i64 d,.int .i64 s,.int .i64 16,.int .i64 i]] w fun e w'=>e= .returned (.bool (isR d&&((s==0)&&inZ i 16)))∧Below w.heap.size w w':=by
 have HB:=hid ((Below.refl w.heap.size w).alloc (Nat.le_refl _) (.cells #[.int .i64 o,.int .i64 d,.int .i64 s,.int .i64 16,.int .i64 i] 61));have C0:=hid (fun w=>G8 d w);have C1:Hid (∀w,Calls prog 121 #[.int .i64 i,.int .i64 0,.int .i64 65535] w fun e w'=>e= .returned (.bool (inZ i 16))∧w=w'):=fun w=>I4 i 0 65535 w
 generalize inZ i 16=q at*
 exact A7Q
theorem A1F(o d s i:Int)(b:Nat)(w:World)(hc:w.cell? ⟨b,0,none⟩=some (.func (.func 143) #[] #[])):Calls prog 178 #[.agg #[.int .i64 o,.int .i64 d,.int .i64 s,.int .i64 8,.int .i64 i],.pointer (some ⟨b,0,none⟩)] w fun e w'=>e= .returned (.bool ((d==0)&&((isC s)&&isB i)))∧Below w.heap.size w w':=by
 have hl:=F0 hc;have hn:¬b=w.heap.size:=by omega
 have HB:=hid ((Below.refl w.heap.size w).alloc (Nat.le_refl _) (.cells #[.int .i64 o,.int .i64 d,.int .i64 s,.int .i64 8,.int .i64 i] 61));have C0:=hid (fun w=>A2Y o d s 8 i w);have C1:Hid (∀w,Calls prog 121 #[.int .i64 i,.int .i64 (-128),.int .i64 127] w fun e w'=>e= .returned (.bool (isB i))∧w=w'):=fun w=>I4 i (-128) 127 w
 have C2:=hid (fun w=>K9 i w);cases h0:(d==0)
 ·go_enter func178,ntmps178;go_wp2_with(first|((with_reducible refine(C0.out _).mono ?_);rintro e w1 ⟨rfl,hb⟩;have q3:w1.cell? ⟨w.heap.size,3,none⟩=some (.int .i64 8):=A0 hb 3;have q4:w1.cell? ⟨w.heap.size,4,none⟩=some (.int .i64 i):=A0 hb 4)|((with_reducible first|refine(C1.out _).mono ?_|refine(C2.out _).mono ?_);rintro e w' ⟨rfl,rfl⟩))
  go_ret;exact⟨rfl,HB.out⟩
 ·cases h1:(isC s)
  ·rw[h1]at C0;clear h1;exact A8x
  ·rw[h1]at C0;clear h1;cases h2:isB i
   ·rw[h2]at C1;clear h2;exact A8x
   ·rw[h2]at C1;clear h2;exact A8x
theorem A0L(o d s i:Int)(b:Nat)(w:World)(hc:w.cell? ⟨b,0,none⟩=some (.func (.func 143) #[] #[])):Calls prog 178 #[.agg #[.int .i64 o,.int .i64 d,.int .i64 s,.int .i64 32,.int .i64 i],.pointer (some ⟨b,0,none⟩)] w fun e w'=>e= .returned (.bool ((d==0)&&((isC s)&&C9 i)))∧Below w.heap.size w w':=by
 have hl:=F0 hc;have hn:¬b=w.heap.size:=by omega
 have HB:=hid ((Below.refl w.heap.size w).alloc (Nat.le_refl _) (.cells #[.int .i64 o,.int .i64 d,.int .i64 s,.int .i64 32,.int .i64 i] 61));have C0:=hid (fun w=>A2Y o d s 32 i w);have C1:Hid (∀w,Calls prog 121 #[.int .i64 i,.int .i64 (-128),.int .i64 127] w fun e w'=>e= .returned (.bool (isB i))∧w=w'):=fun w=>I4 i (-128) 127 w
 have C2:=hid (fun w=>K9 i w);cases h0:(d==0)
 ·go_enter func178,ntmps178;go_wp2_with(first|((with_reducible refine(C0.out _).mono ?_);rintro e w1 ⟨rfl,hb⟩;have q3:w1.cell? ⟨w.heap.size,3,none⟩=some (.int .i64 32):=A0 hb 3;have q4:w1.cell? ⟨w.heap.size,4,none⟩=some (.int .i64 i):=A0 hb 4)|((with_reducible first|refine(C1.out _).mono ?_|refine(C2.out _).mono ?_);rintro e w' ⟨rfl,rfl⟩))
  go_ret;exact⟨rfl,HB.out⟩
 ·cases h1:(isC s)
  ·exact B1S
  ·exact B1S
theorem A1E(o d s i:Int)(b:Nat)(w:World)(hc:w.cell? ⟨b,0,none⟩=some (.func (.func 146) #[] #[])):Calls prog 178 #[.agg #[.int .i64 o,.int .i64 d,.int .i64 s,.int .i64 8,.int .i64 i],.pointer (some ⟨b,0,none⟩)] w fun e w'=>e= .returned (.bool ((d==0)&&((s==0)&&isB i)))∧Below w.heap.size w w':=by
 have hl:=F0 hc;have hn:¬b=w.heap.size:=by omega
 have HB:=hid ((Below.refl w.heap.size w).alloc (Nat.le_refl _) (.cells #[.int .i64 o,.int .i64 d,.int .i64 s,.int .i64 8,.int .i64 i] 61));have C0:=hid (fun w=>A2X o d s 8 i w);have C1:Hid (∀w,Calls prog 121 #[.int .i64 i,.int .i64 (-128),.int .i64 127] w fun e w'=>e= .returned (.bool (isB i))∧w=w'):=fun w=>I4 i (-128) 127 w
 have C2:=hid (fun w=>K9 i w);cases h0:(d==0)
 ·go_enter func178,ntmps178;go_wp2_with(first|((with_reducible refine(C0.out _).mono ?_);rintro e w1 ⟨rfl,hb⟩;have q3:w1.cell? ⟨w.heap.size,3,none⟩=some (.int .i64 8):=A0 hb 3;have q4:w1.cell? ⟨w.heap.size,4,none⟩=some (.int .i64 i):=A0 hb 4)|((with_reducible first|refine(C1.out _).mono ?_|refine(C2.out _).mono ?_);rintro e w' ⟨rfl,rfl⟩))
  go_ret;exact⟨rfl,HB.out⟩
 ·cases h1:(s==0)
  ·rw[h1]at C0;clear h1;exact A8w
  ·rw[h1]at C0;clear h1;cases h2:isB i
   ·rw[h2]at C1;clear h2;exact A8w
   ·rw[h2]at C1;clear h2;exact A8w
theorem A0K(o d s i:Int)(b:Nat)(w:World)(hc:w.cell? ⟨b,0,none⟩=some (.func (.func 146) #[] #[])):Calls prog 178 #[.agg #[.int .i64 o,.int .i64 d,.int .i64 s,.int .i64 32,.int .i64 i],.pointer (some ⟨b,0,none⟩)] w fun e w'=>e= .returned (.bool ((d==0)&&((s==0)&&C9 i)))∧Below w.heap.size w w':=by
 have hl:=F0 hc;have hn:¬b=w.heap.size:=by omega
 have HB:=hid ((Below.refl w.heap.size w).alloc (Nat.le_refl _) (.cells #[.int .i64 o,.int .i64 d,.int .i64 s,.int .i64 32,.int .i64 i] 61));have C0:=hid (fun w=>A2X o d s 32 i w);have C1:Hid (∀w,Calls prog 121 #[.int .i64 i,.int .i64 (-128),.int .i64 127] w fun e w'=>e= .returned (.bool (isB i))∧w=w'):=fun w=>I4 i (-128) 127 w
 have C2:=hid (fun w=>K9 i w);cases h0:(d==0)
 ·go_enter func178,ntmps178;go_wp2_with(first|((with_reducible refine(C0.out _).mono ?_);rintro e w1 ⟨rfl,hb⟩;have q3:w1.cell? ⟨w.heap.size,3,none⟩=some (.int .i64 32):=A0 hb 3;have q4:w1.cell? ⟨w.heap.size,4,none⟩=some (.int .i64 i):=A0 hb 4)|((with_reducible first|refine(C1.out _).mono ?_|refine(C2.out _).mono ?_);rintro e w' ⟨rfl,rfl⟩))
  go_ret;exact⟨rfl,HB.out⟩
 ·cases h1:(s==0)
  ·exact B1R
  ·exact B1R
theorem RowI.mono{w:World}{base base':Nat}{e:TypeId}{k:IntKind}{v:Value}{xs:List Int}(h:RowI w base e k v xs)(hb:base'≤base):RowI w base' e k v xs:=World.ownsRow.mono h hb
theorem J4{P:Program}{f:FuncId}{args:Array Value}{w:World}{e0:TypeId}{k:IntKind}{xs:List Int}(h:Calls P f args w fun e w'=>∃v,e= .returned v∧RowI w' w.heap.size e0 k v xs∧Below w.heap.size w w'){w0:World}(h0:Since w0 w):
  Calls P f args w fun e w'=>∃v,e= .returned v∧RowI w' w0.heap.size e0 k v xs∧Below w.heap.size w w'∧Since w0 w':=
 h.mono fun _ _ ⟨v,h1,h2,h3⟩=>⟨v,h1,h2.mono h0.size,h3,A2 h0 h3⟩
section
variable {P : Program} {w : World}
theorem C7{ops:Array Oper}{o:Oper}{a:Act}{K:Act→World→Prop}{Q:Exit→Act→World→Prop}{E:Prop}{k:IntKind}(hgd:o.guard=none)(s x:Operand)(t:TypeId)
  (ho:o.op= .call {callee:=.builtin .append,args:=#[s,x],argTypes:=#[t,t]}) (base:Nat) (e:TypeId) (i:TypeInfo) (bytes:Nat) (ht:P.underlying t=some (.slice e)) (hi:P.info? e=some i) (hz:i.zero=some (.int k 0))
  (hsize:i.size=1) (hby:i.bytes=bytes) (hb8:bytes≤8) (v:Value) (xs:List Int) (hs:a.eval s=v) (hown:RowI w base e k v xs)
  (u:Value) (ys:List Int) (hx:a.eval x=u) (hu:Ints k w u ys) (hm:0<ys.length) (hl:xs.length+ys.length≤100000) (hbase:base≤w.heap.size)
  (h:∀v' w',RowI w' base e k v' (xs++ys)→Below base w w'→K (a.put o.dst v') w'):if Region.wanted o (yielded ops a.tmps)=true then Oper.wp P o a w K Q else E:=by
 obtain⟨b,q,c,rfl,_,_⟩:=hu.at hm;have hn:=hu.newsK;refine step_append_lies (w:=w) hgd s x t ho base e i (.int k 0) 1 bytes ht hi hz hsize hby rfl (by decide) v xs.length (xs.map (Value.int k)) hs hown ⟨b,q,none⟩ ys.length c (ys.map (Value.int k)) hx (by simp) hn (fun u hu=>by obtain⟨x,_,rfl⟩:=List.mem_map.1 hu;rfl) hm (by unfold maxLen;omega) ?_ hbase w.heap.size rfl ?_
 ·have:(xs.length+ys.length)*bytes≤100000*8:=Nat.mul_le_mul hl hb8;omega
 ·intro g cap w' hown' hgrow _ _;exact h _ w' (RowI.app hown' rfl rfl) ((Below.refl base w).grown hgrow hbase (j8 hown))
theorem O7{ops:Array Oper}{rest:List Oper}{o:Oper}{a:Act}{Q:Exit→Act→World→Prop}{k:IntKind}(hgd:o.guard=none)(s x:Operand)(t:TypeId)
  (ho:o.op= .call {callee:=.builtin .append,args:=#[s,x],argTypes:=#[t,t]}) (base:Nat) (e:TypeId) (i:TypeInfo) (bytes:Nat) (ht:P.underlying t=some (.slice e)) (hi:P.info? e=some i) (hz:i.zero=some (.int k 0))
  (hsize:i.size=1) (hby:i.bytes=bytes) (hb8:bytes≤8) (v:Value) (xs:List Int) (hs:a.eval s=v) (hown:RowI w base e k v xs)
  (u:Value) (ys:List Int) (hx:a.eval x=u) (hu:Ints k w u ys) (hm:0<ys.length) (hl:xs.length+ys.length≤100000) (hbase:base≤w.heap.size)
  (h:∀v' w',RowI w' base e k v' (xs++ys)→Below base w w'→wpList P ops Q rest (a.put o.dst v') w'):wpList P ops Q (o::rest) a w:=by
 obtain⟨b,q,c,rfl,_,_⟩:=hu.at hm;have hn:=hu.newsK;refine wpList_append_own (w:=w) hgd s x t ho base e i (.int k 0) 1 bytes ht hi hz hsize hby rfl (by decide) v xs.length (xs.map (Value.int k)) hs hown ⟨b,q,none⟩ ys.length c (ys.map (Value.int k)) hx (by simp) hn (fun u hu=>by obtain⟨x,_,rfl⟩:=List.mem_map.1 hu;rfl) (by unfold maxLen;omega) ?_ hbase ?_
 ·have:(xs.length+ys.length)*bytes≤100000*8:=Nat.mul_le_mul hl hb8;omega
 ·intro v' w' hown' hgrow _;exact h _ w' (RowI.app hown' rfl rfl) ((Below.refl base w).grown hgrow hbase (j8 hown))
end
theorem s7(xs:List Int)(v:Value)(w:World)(hv:Ints .u8 w v xs)(h0:0<xs.length)(h1:xs.length≤50000):Calls prog 147 #[v] w fun e w'=>∃v,e= .returned v∧RowI w' w.heap.size 5 .u8 v xs∧Below w.heap.size w w':=by
 obtain⟨i0,hi0,hz0,hz1,hz2⟩:=info_parts G4;have HV:=hid hv;obtain⟨b,q,c,rfl,_,hbl,_⟩:=hv.at h0;have HR0:=hid (RowI.lit w #[] [] .u8 5 w.heap.size 0 (Nat.le_refl _) rfl rfl (by unfold maxLen;simp));have HB:=hid ((Below.refl w.heap.size w).alloc (Nat.le_refl _) (.cells #[] 5));clear hv;have hnl:∀w,(binOp .eql 24 (.slice (some ⟨b,q,none⟩) xs.length c) (.slice none 0 0)).run prog w= .ok (.bool false) w:=fun w=>Lib.run_eql_slice_nil w 24 5 (some ⟨b,q,none⟩) xs.length c 0 0 underlying24
 go_enter func147,ntmps147;go_wp2_with(at_builtin;go_must (refine O7 rfl _ _ 24 rfl w.heap.size 5 i0 1 underlying24 hi0 hz0 hz1 hz2 (by decide) _ [] rfl HR0.out _ xs rfl (HV.out.stays HB.out) h0 ?c1 ?c2 ?_))
 case c1=>simp;omega
 case c2=>simp
 intro v' w' hr hb;have HR:=hid hr;have HB2:=hid (HB.out.trans hb);clear hr hb;go_wp2_with fail
 go_ret;exact⟨_,rfl,HR.out,HB2.out⟩
theorem A2J(o d s z i c:Int)(b:Nat)(w:World)(hc:w.cell? ⟨b,0,none⟩=some (.int .u8 c)):Calls prog 163 #[.agg #[.int .i64 o,.int .i64 d,.int .i64 s,.int .i64 z,.int .i64 i],.pointer (some ⟨b,0,none⟩)] w fun e w'=>∃v,e= .returned v∧RowI w' w.heap.size 5 .u8 v [c,mrB s d]∧Below w.heap.size w w':=by
 have hl:=F0 hc;have hn:¬b=w.heap.size:=by omega
 have C0:=hid (fun w=>P6 s d w);have HB:=hid ((Below.refl w.heap.size w).alloc (Nat.le_refl _) (.cells #[.int .i64 o,.int .i64 d,.int .i64 s,.int .i64 z,.int .i64 i] 61));obtain⟨W0,hW0⟩:∃W,w.alloc (.cells #[.int .i64 o,.int .i64 d,.int .i64 s,.int .i64 z,.int .i64 i] 61)=W:=⟨_,rfl⟩
 have p0:∀wk,Since W0 wk→wk.cell? ⟨b,0,none⟩=some (.int .u8 c):=fun wk h=>h.cell (by rw[←hW0];exact F1 hc)
 have p1:∀wk,Since W0 wk→wk.cell? ⟨w.heap.size,1,none⟩=some (.int .i64 d):=fun wk h=>h.cell (by rw[←hW0];simp[go_sem])
 have p2:∀wk,Since W0 wk→wk.cell? ⟨w.heap.size,2,none⟩=some (.int .i64 s):=fun wk h=>h.cell (by rw[←hW0];simp[go_sem])
 have h00:=Since.refl W0;rw[hW0]at HB;generalize mrB s d=q at*
 clear hc hl hn;go_enter func163,ntmps163;go_wp2_with fail
 clear hW0
 go_region_held3(fun wk=>Since W0 wk) (first|assumption|exact Since.drew (by assumption)|exact Since.next (by assumption) ((Below.refl _ _).alloc (Nat.le_refl _) _)) (first|(go_at_call 130;with_reducible refine(C0.out _).mono ?_;rintro e w' ⟨rfl,rfl⟩))
 go_wp2_with fail
 go_ret;exact⟨_,rfl,RowI.lit W0 #[_,_] [c,q] .u8 5 w.heap.size 2 HB.out.size rfl rfl (by unfold maxLen;simp),A9 (HB.out.trans (((Below.refl _ W0).alloc (Nat.le_refl _) _).mono HB.out.size)) 1⟩
end Go.Proofs.YtdojafpjipcbjaaGreat
namespace Go.Proofs.YtdojafpjipcbjaaGreat
open Go.RowKit
set_option linter.unusedVariables false
set_option linter.unusedSimpArgs false
theorem B1X{p:Prop}(h:p:=by
 go_wp2_with fail
 clear hW0
 go_region_held3(fun wk=>Since W0 wk) (first|assumption|exact Since.drew (by assumption)|exact Since.next (by assumption) ((Below.refl _ _).alloc (Nat.le_refl _) _)) (first|(go_at_call 130;with_reducible refine(C0.out _).mono ?_;rintro e w' ⟨rfl,rfl⟩))
 go_wp2_with fail
 go_ret;exact⟨_,rfl,RowI.to (RowI.lit W0 #[_,_,_] [_,_,_] .u8 5 w.heap.size 3 HB.out.size rfl rfl (by unfold maxLen;simp)) (by first|rfl|((try simp only[List.cons.injEq,and_true,true_and,IntKind.wrap_u8,IntKind.wrap_i64]);omega)),A9 (HB.out.trans (((Below.refl _ W0).alloc (Nat.le_refl _) _).mono HB.out.size)) 1⟩
 ):p:=h
theorem B0y{p:Prop}(h:p:=by
 go_wp2_with(go_at_call 130;with_reducible refine(C0.out _).mono ?_;rintro e w' ⟨rfl,rfl⟩)
 go_ret;exact⟨_,rfl,RowI.to (RowI.lit W0 #[_,_,_] [_,_,_] .u8 5 w.heap.size 3 HB.out.size rfl rfl (by unfold maxLen;simp)) (rfl),HB.out.trans (((Below.refl _ W0).alloc (Nat.le_refl _) _).mono HB.out.size)⟩
 ):p:=h
theorem RowI.to{w:World}{base:Nat}{e:TypeId}{k:IntKind}{v:Value}{xs ys:List Int}(h:RowI w base e k v xs)(he:xs=ys):RowI w base e k v ys:=he▸h
theorem Z0(o d s z i c n:Int)(b b2:Nat)(w:World)(hc0:w.cell? ⟨b,0,none⟩=some (.int .u8 c))(hc1:w.cell? ⟨b2,0,none⟩=some (.int .i64 n)):Calls prog 175 #[.agg #[.int .i64 o,.int .i64 d,.int .i64 s,.int .i64 z,.int .i64 i],.pointer (some ⟨b,0,none⟩),.pointer (some ⟨b2,0,none⟩)] w fun e w'=>∃v,e= .returned v∧RowI w' w.heap.size 5 .u8 v [c,mrB n d]∧Below w.heap.size w w':=by
 have hl0:=F0 hc0;have hn0:¬b=w.heap.size:=by omega
 have hl1:=F0 hc1;have hn1:¬b2=w.heap.size:=by omega
 have HB:=hid ((Below.refl w.heap.size w).alloc (Nat.le_refl _) (.cells #[.int .i64 o,.int .i64 d,.int .i64 s,.int .i64 z,.int .i64 i] 61));obtain⟨W0,hW0⟩:∃W,w.alloc (.cells #[.int .i64 o,.int .i64 d,.int .i64 s,.int .i64 z,.int .i64 i] 61)=W:=⟨_,rfl⟩
 have p0:∀wk,Since W0 wk→wk.cell? ⟨b,0,none⟩=some (.int .u8 c):=fun wk h=>h.cell (by rw[←hW0];exact F1 hc0)
 have p1:∀wk,Since W0 wk→wk.cell? ⟨b2,0,none⟩=some (.int .i64 n):=fun wk h=>h.cell (by rw[←hW0];exact F1 hc1)
 have q1:∀wk,Since W0 wk→wk.cell? ⟨w.heap.size,1,none⟩=some (.int .i64 d):=fun wk h=>h.cell (by rw[←hW0];simp[go_sem])
 have h00:=Since.refl W0;rw[hW0]at HB;have C0:=hid (fun w=>P6 n d w);generalize mrB n d=q at*
 clear hc0 hl0 hn0;clear hc1 hl1 hn1;go_enter func175,ntmps175;go_wp2_with fail
 clear hW0
 go_region_held3(fun wk=>Since W0 wk) (first|assumption|exact Since.drew (by assumption)|exact Since.next (by assumption) ((Below.refl _ _).alloc (Nat.le_refl _) _)) (first|(go_at_call 130;with_reducible refine(C0.out _).mono ?_;rintro e w' ⟨rfl,rfl⟩))
 go_wp2_with fail
 go_ret;exact⟨_,rfl,RowI.to (RowI.lit W0 #[_,_] [_,_] .u8 5 w.heap.size 2 HB.out.size rfl rfl (by unfold maxLen;simp)) (rfl),A9 (HB.out.trans (((Below.refl _ W0).alloc (Nat.le_refl _) _).mono HB.out.size)) 1⟩
theorem wr_mul(o d s z i:Int)(w:World):Calls prog 129 #[.agg #[.int .i64 o,.int .i64 d,.int .i64 s,.int .i64 z,.int .i64 i]] w fun e w'=>∃v,e= .returned v∧RowI w' w.heap.size 5 .u8 v [15,175,mrB d s]∧Below w.heap.size w w':=by
 have HB:=hid ((Below.refl w.heap.size w).alloc (Nat.le_refl _) (.cells #[.int .i64 o,.int .i64 d,.int .i64 s,.int .i64 z,.int .i64 i] 61));obtain⟨W0,hW0⟩:∃W,w.alloc (.cells #[.int .i64 o,.int .i64 d,.int .i64 s,.int .i64 z,.int .i64 i] 61)=W:=⟨_,rfl⟩
 have q1:∀wk,Since W0 wk→wk.cell? ⟨w.heap.size,1,none⟩=some (.int .i64 d):=fun wk h=>h.cell (by rw[←hW0];simp[go_sem])
 have q2:∀wk,Since W0 wk→wk.cell? ⟨w.heap.size,2,none⟩=some (.int .i64 s):=fun wk h=>h.cell (by rw[←hW0];simp[go_sem])
 have h00:=Since.refl W0;rw[hW0]at HB;have C0:=hid (fun w=>P6 d s w);generalize mrB d s=q at*
 go_enter func129,ntmps129;exact B0y
theorem A5Q(o d s z i:Int)(w:World):Calls prog 137 #[.agg #[.int .i64 o,.int .i64 d,.int .i64 s,.int .i64 z,.int .i64 i]] w fun e w'=>∃v,e= .returned v∧RowI w' w.heap.size 5 .u8 v [15,182,mrB d s]∧Below w.heap.size w w':=by
 have HB:=hid ((Below.refl w.heap.size w).alloc (Nat.le_refl _) (.cells #[.int .i64 o,.int .i64 d,.int .i64 s,.int .i64 z,.int .i64 i] 61));obtain⟨W0,hW0⟩:∃W,w.alloc (.cells #[.int .i64 o,.int .i64 d,.int .i64 s,.int .i64 z,.int .i64 i] 61)=W:=⟨_,rfl⟩
 have q1:∀wk,Since W0 wk→wk.cell? ⟨w.heap.size,1,none⟩=some (.int .i64 d):=fun wk h=>h.cell (by rw[←hW0];simp[go_sem])
 have q2:∀wk,Since W0 wk→wk.cell? ⟨w.heap.size,2,none⟩=some (.int .i64 s):=fun wk h=>h.cell (by rw[←hW0];simp[go_sem])
 have h00:=Since.refl W0;rw[hW0]at HB;have C0:=hid (fun w=>P6 d s w);generalize mrB d s=q at*
 go_enter func137,ntmps137;exact B0y
theorem A7e(o d s z i:Int)(w:World)(h1:0≤s)(h2:s≤15):Calls prog 135 #[.agg #[.int .i64 o,.int .i64 d,.int .i64 s,.int .i64 z,.int .i64 i]] w fun e w'=>∃v,e= .returned v∧RowI w' w.heap.size 5 .u8 v [15,(144+s)%256,mrB 0 d]∧Below w.heap.size w w':=by
 have HB:=hid ((Below.refl w.heap.size w).alloc (Nat.le_refl _) (.cells #[.int .i64 o,.int .i64 d,.int .i64 s,.int .i64 z,.int .i64 i] 61));obtain⟨W0,hW0⟩:∃W,w.alloc (.cells #[.int .i64 o,.int .i64 d,.int .i64 s,.int .i64 z,.int .i64 i] 61)=W:=⟨_,rfl⟩
 have q1:∀wk,Since W0 wk→wk.cell? ⟨w.heap.size,1,none⟩=some (.int .i64 d):=fun wk h=>h.cell (by rw[←hW0];simp[go_sem])
 have q2:∀wk,Since W0 wk→wk.cell? ⟨w.heap.size,2,none⟩=some (.int .i64 s):=fun wk h=>h.cell (by rw[←hW0];simp[go_sem])
 have h00:=Since.refl W0;rw[hW0]at HB;have C0:=hid (fun w=>P6 0 d w);generalize mrB 0 d=q at*
 go_enter func135,ntmps135;exact B1X
theorem A5V(o d s z i:Int)(w:World)(h1:0≤i)(h2:i≤15):Calls prog 139 #[.agg #[.int .i64 o,.int .i64 d,.int .i64 s,.int .i64 z,.int .i64 i]] w fun e w'=>∃v,e= .returned v∧RowI w' w.heap.size 5 .u8 v [15,(64+i)%256,mrB d s]∧Below w.heap.size w w':=by
 have HB:=hid ((Below.refl w.heap.size w).alloc (Nat.le_refl _) (.cells #[.int .i64 o,.int .i64 d,.int .i64 s,.int .i64 z,.int .i64 i] 61));obtain⟨W0,hW0⟩:∃W,w.alloc (.cells #[.int .i64 o,.int .i64 d,.int .i64 s,.int .i64 z,.int .i64 i] 61)=W:=⟨_,rfl⟩
 have q1:∀wk,Since W0 wk→wk.cell? ⟨w.heap.size,1,none⟩=some (.int .i64 d):=fun wk h=>h.cell (by rw[←hW0];simp[go_sem])
 have q2:∀wk,Since W0 wk→wk.cell? ⟨w.heap.size,2,none⟩=some (.int .i64 s):=fun wk h=>h.cell (by rw[←hW0];simp[go_sem])
 have q4:∀wk,Since W0 wk→wk.cell? ⟨w.heap.size,4,none⟩=some (.int .i64 i):=fun wk h=>h.cell (by rw[←hW0];simp[go_sem])
 have h00:=Since.refl W0;rw[hW0]at HB;have C0:=hid (fun w=>P6 d s w);generalize mrB d s=q at*
 go_enter func139,ntmps139;exact B1X
theorem A5T(o d s z i:Int)(w:World)(h1:0≤s)(h2:s≤15):Calls prog 141 #[.agg #[.int .i64 o,.int .i64 d,.int .i64 s,.int .i64 z,.int .i64 i]] w fun e w'=>∃v,e= .returned v∧RowI w' w.heap.size 5 .u8 v [(112+s)%256]∧Below w.heap.size w w':=by
 have HB:=hid ((Below.refl w.heap.size w).alloc (Nat.le_refl _) (.cells #[.int .i64 o,.int .i64 d,.int .i64 s,.int .i64 z,.int .i64 i] 61));obtain⟨W0,hW0⟩:∃W,w.alloc (.cells #[.int .i64 o,.int .i64 d,.int .i64 s,.int .i64 z,.int .i64 i] 61)=W:=⟨_,rfl⟩
 have q2:∀wk,Since W0 wk→wk.cell? ⟨w.heap.size,2,none⟩=some (.int .i64 s):=fun wk h=>h.cell (by rw[←hW0];simp[go_sem])
 have h00:=Since.refl W0;rw[hW0]at HB;go_enter func141,ntmps141;go_wp2_with fail
 go_ret;exact⟨_,rfl,RowI.to (RowI.lit W0 #[_] [_] .u8 5 w.heap.size 1 HB.out.size rfl rfl (by unfold maxLen;simp)) (by first|rfl|((try simp only[List.cons.injEq,and_true,true_and,IntKind.wrap_u8,IntKind.wrap_i64]);omega)),HB.out.trans (((Below.refl _ W0).alloc (Nat.le_refl _) _).mono HB.out.size)⟩
theorem A5U(o d s z i:Int)(w:World)(h1:0≤s)(h2:s≤15):Calls prog 142 #[.agg #[.int .i64 o,.int .i64 d,.int .i64 s,.int .i64 z,.int .i64 i]] w fun e w'=>∃v,e= .returned v∧RowI w' w.heap.size 5 .u8 v [15,(128+s)%256]∧Below w.heap.size w w':=by
 have HB:=hid ((Below.refl w.heap.size w).alloc (Nat.le_refl _) (.cells #[.int .i64 o,.int .i64 d,.int .i64 s,.int .i64 z,.int .i64 i] 61));obtain⟨W0,hW0⟩:∃W,w.alloc (.cells #[.int .i64 o,.int .i64 d,.int .i64 s,.int .i64 z,.int .i64 i] 61)=W:=⟨_,rfl⟩
 have q2:∀wk,Since W0 wk→wk.cell? ⟨w.heap.size,2,none⟩=some (.int .i64 s):=fun wk h=>h.cell (by rw[←hW0];simp[go_sem])
 have h00:=Since.refl W0;rw[hW0]at HB;go_enter func142,ntmps142;go_wp2_with fail
 go_ret;exact⟨_,rfl,RowI.to (RowI.lit W0 #[_,_] [_,_] .u8 5 w.heap.size 2 HB.out.size rfl rfl (by unfold maxLen;simp)) (by first|rfl|((try simp only[List.cons.injEq,and_true,true_and,IntKind.wrap_u8,IntKind.wrap_i64]);omega)),HB.out.trans (((Below.refl _ W0).alloc (Nat.le_refl _) _).mono HB.out.size)⟩
theorem A5R(o d s z i:Int)(w:World):Calls prog 144 #[.agg #[.int .i64 o,.int .i64 d,.int .i64 s,.int .i64 z,.int .i64 i]] w fun e w'=>∃v,e= .returned v∧RowI w' w.heap.size 5 .u8 v [235]∧Below w.heap.size w w':=by
 have HB:=hid ((Below.refl w.heap.size w).alloc (Nat.le_refl _) (.cells #[.int .i64 o,.int .i64 d,.int .i64 s,.int .i64 z,.int .i64 i] 61));obtain⟨W0,hW0⟩:∃W,w.alloc (.cells #[.int .i64 o,.int .i64 d,.int .i64 s,.int .i64 z,.int .i64 i] 61)=W:=⟨_,rfl⟩
 have q2:∀wk,Since W0 wk→wk.cell? ⟨w.heap.size,2,none⟩=some (.int .i64 s):=fun wk h=>h.cell (by rw[←hW0];simp[go_sem])
 have h00:=Since.refl W0;rw[hW0]at HB;go_enter func144,ntmps144;go_wp2_with fail
 go_ret;exact⟨_,rfl,RowI.to (RowI.lit W0 #[_] [_] .u8 5 w.heap.size 1 HB.out.size rfl rfl (by unfold maxLen;simp)) (rfl),HB.out.trans (((Below.refl _ W0).alloc (Nat.le_refl _) _).mono HB.out.size)⟩
theorem A5S(o d s z i:Int)(w:World):Calls prog 145 #[.agg #[.int .i64 o,.int .i64 d,.int .i64 s,.int .i64 z,.int .i64 i]] w fun e w'=>∃v,e= .returned v∧RowI w' w.heap.size 5 .u8 v [233]∧Below w.heap.size w w':=by
 have HB:=hid ((Below.refl w.heap.size w).alloc (Nat.le_refl _) (.cells #[.int .i64 o,.int .i64 d,.int .i64 s,.int .i64 z,.int .i64 i] 61));obtain⟨W0,hW0⟩:∃W,w.alloc (.cells #[.int .i64 o,.int .i64 d,.int .i64 s,.int .i64 z,.int .i64 i] 61)=W:=⟨_,rfl⟩
 have q2:∀wk,Since W0 wk→wk.cell? ⟨w.heap.size,2,none⟩=some (.int .i64 s):=fun wk h=>h.cell (by rw[←hW0];simp[go_sem])
 have h00:=Since.refl W0;rw[hW0]at HB;go_enter func145,ntmps145;go_wp2_with fail
 go_ret;exact⟨_,rfl,RowI.to (RowI.lit W0 #[_] [_] .u8 5 w.heap.size 1 HB.out.size rfl rfl (by unfold maxLen;simp)) (rfl),HB.out.trans (((Below.refl _ W0).alloc (Nat.le_refl _) _).mono HB.out.size)⟩
end Go.Proofs.YtdojafpjipcbjaaGreat
