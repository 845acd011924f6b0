/- -/
import Derived.Laws.AppendOwn
import Derived.Maps.AppendAt
import Derived.Laws.Bits128
import Derived.Deep.AppendLies
import Derived.Deep.Onto
import Derived.Deep.DeepMust
import Derived.Test.YtajljbmeaeeknaaGreatS4
open Go.Proofs.Tryz
open Go.Lib (hid)
set_option maxHeartbeats 1000000
namespace Go.Proofs.YtajljbmeaeeknaaGreat
open Go.RowKit
set_option linter.unusedVariables false
set_option linter.unusedSimpArgs false
theorem f9(n c:Int)(k:Nat)(hk:k≤62)(hc:c=2^k-1):bits .and .i64 n c=n%2^k:=by
 have hp:(2:Nat)^k≤2^62:=Nat.pow_le_pow_right (by decide) hk;have hp0:0<(2:Nat)^k:=Nat.two_pow_pos k;have e:((2:Int)^k)=((2^k:Nat):Int):=by simp
 rw[e]at hc⊢;have hm:(BitVec.ofInt 64 c).toNat=2^k-1:=by
  rw[BitVec.toNat_ofInt,hc];generalize(2:Nat)^k=p at*
  have:((p:Int)-1)%((2^64:Nat):Int)=(p:Int)-1:=Int.emod_eq_of_lt (by omega) (by omega);rw[this];omega
 have key:(BitVec.ofInt 64 n&&&BitVec.ofInt 64 c).toNat=(n%((2^64:Nat):Int)).toNat%2^k:=by
  rw[BitVec.toNat_and,BitVec.toNat_ofInt,hm,Nat.and_two_pow_sub_one_eq_mod]
 show IntKind.i64.wrap ((BitVec.ofInt 64 n&&&BitVec.ofInt 64 c).toNat:Nat)=_
 rw[key,IntKind.wrap_i64];have hd:(2:Nat)^k∣2^64:=Nat.pow_dvd_pow 2 (by omega);have h1:=Nat.mod_lt (n%((2^64:Nat):Int)).toNat hp0;have h2:((((n%((2^64:Nat):Int)).toNat%2^k:Nat)):Int)=n%((2^k:Nat):Int):=by
  rw[Int.natCast_emod,Int.toNat_of_nonneg (Int.emod_nonneg _ (by decide)),Int.emod_emod_of_dvd _ (Int.natCast_dvd_natCast.2 hd)]
 rw[←h2];generalize(n%((2^64:Nat):Int)).toNat%2^k=t at*
 omega
theorem F8:(prog.info? 5).map (fun i=>(i.zero,i.size,i.bytes))=some (some (.int .u8 0),1,1):=by kernel_rfl
def shB(n:Int):Nat→Int
 |0=>n
 |j+1=>shB n j / 256
theorem A4v(n:Int)(j:Nat):leB n (j+1)=leB n j++[shB n j%256]:=by
 have e:∀(j:Nat) (n:Int),shB (n / 256) j=shB n (j+1):=by
  intro j
  induction j with
  |zero=>intro n;rfl
  |succ j ih=>intro n;show shB (n / 256) j / 256=shB n (j+1) / 256;rw[ih]
 induction j generalizing n with
 |zero=>rfl
 |succ j ih=>
  show n%256::leB (n / 256) (j+1)=n%256::(leB (n / 256) j++[shB n (j+1)%256])
  rw[ih,e]
theorem A5l{n:Int}(h:I64 n)(j:Nat):I64 (shB n j):=by
 unfold I64 at*
 induction j with
 |zero=>exact h
 |succ j ih=>show _≤shB n j / 256∧shB n j / 256≤_;omega
theorem J6(n:Int)(k:Nat)(w:World)(hn:I64 n)(hk:k≤8):Calls prog 163 #[.int .i64 n,.int .i64 (k:Int)] w fun e w'=>∃v,e= .returned v∧RowI w' w.heap.size 5 .u8 v (leB n k)∧Below w.heap.size w w':=by
 obtain⟨i0,hi0,hz0,hz1,hz2⟩:=info_parts F8;have HN:=hid hn;clear hn;go_enter func163,ntmps163;go_wp2_with fail
 go_loopw[0,5,7] (fun m v i wr=>∃j:Nat,j≤k∧m= .int .i64 (shB n j)∧i= .int .i64 j∧RowI wr w.heap.size 5 .u8 v (leB n j)∧Below w.heap.size w wr) (fun _ _ i _=>k-(intOf i).toNat)
 case atStart=>exact⟨0,Nat.zero_le _,rfl,rfl,RowI.nil _ _ _ _,Below.refl _ _⟩
 case round=>
  obtain⟨j,hj,rfl,rfl,hrow,hb⟩:=hrel;have hsz:=hb.size;have HB:=hid hb;clear hb;by_cases hlt:j<k
  ·have HS:=hid (A4v n j);have HT:Hid (shB n (j+1)=shB n j / 256):=rfl;have hq:=A5l HN.out j;unfold I64 at hq;have htl:=F2 n j;generalize shB n j=m at*
   generalize leB n j=l at*
   obtain⟨va,vc,rfl⟩:=hrow.shape;unfold RowI at hrow;rw[htl]at hrow⊢;have HO0:=hid hrow;have HTL:=hid htl;obtain⟨q1,q2⟩:=hq;clear htl hrow;go_wp2_with(at_builtin;refine wpList_append_own _ rfl _ _ 28 rfl w.heap.size 5 i0 (.int .u8 0) 1 1 underlying28 hi0 hz0 hz1 hz2 rfl (by decide) _ _ _ rfl (HO0.out.alloc _) ⟨wr.heap.size,0,none⟩ 1 1 [.int .u8 (m%256)] rfl rfl ?c1 ?c2 ?c3 ?c4 ?c5 ?_)
   case c1=>
    intro i u h;rcases i with _|i
    ·cases h;simp[go_sem,Addr.add]
    ·cases h
   case c2=>simp[Value.oneCell']
   case c3=>unfold maxLen;omega
   case c4=>omega
   case c5=>simp;omega
   intro v' w1 hown' hgrow _;have HO:=hid hown';have HG:=hid hgrow;clear hown' hgrow;go_wp2_with fail
   go_roundw
   case rel=>exact⟨j+1,by omega,by rw[HT.out],by go_num,RowI.app1 HO.out HTL.out HS.out,(HB.out.alloc (by omega) _).grown HG.out (by simp;omega) (R5 HO0.out)⟩
   case measure=>simp[intOf];omega
  ·obtain rfl:j=k:=by omega
   go_wp2_with fail
   go_ret;exact⟨_,rfl,hrow,HB.out⟩
theorem RowI.lit(w:World)(cs:Array Value)(xs:List Int)(k:IntKind)(e:TypeId)(base n:Nat)(hb:base≤w.heap.size)(hc:cs.toList=xs.map (Value.int k))(hn:n=xs.length)(hm:xs.length≤maxLen):
  RowI (w.alloc (.cells cs e)) base e k (.slice (some ⟨w.heap.size,0,none⟩) n n) xs:=by
 subst hn;have h:=World.ownsRow_lit (base:=base) (e:=e) (size:=1) w cs xs.length hb hm (by rw[←Array.length_toList,hc,List.length_map,Nat.mul_one]);unfold RowI;rw[←hc];exact h
theorem A4s(r m i:Int)(w:World)(hi:I64 i):Calls prog 232 #[.int .i64 r,.int .i64 m,.int .i64 i] w fun e w'=>∃v,e= .returned v∧RowI w' w.heap.size 5 .u8 v (mmB r m i)∧Below w.heap.size w w':=by
 obtain⟨i0,hi0,hz0,hz1,hz2⟩:=info_parts F8;have HI:=hid hi;clear hi;have HR0:Hid (∀x,RowI (w.alloc (.cells #[.int .u8 x] 5)) w.heap.size 5 .u8 (.slice (some ⟨w.heap.size,0,none⟩) 1 1) [x]):=fun x=>RowI.lit w #[.int .u8 x] [x] .u8 5 w.heap.size 1 (Nat.le_refl _) rfl rfl (by unfold maxLen;simp)
 have C4:Hid (∀w,Calls prog 163 #[.int .i64 i,.int .i64 4] w fun e w'=>∃v,e= .returned v∧RowI w' w.heap.size 5 .u8 v (leB i 4)∧Below w.heap.size w w'):=fun w=>J6 i 4 w HI.out (by decide)
 go_enter func232,ntmps232;go_wp2_with fail
 refine(C4.out _).mono ?_;rintro e w2 ⟨v2,rfl,hr2,hb2⟩;have HR1:=hid (RowI.below (HR0.out _) hb2);clear HR0;obtain⟨a2,c2,rfl⟩:=hr2.shape;have hi2:=hr2.ints (by rw[F2];decide);have hl2:=F2 i 4;have HL2:=hid hl2;have hsz:w.heap.size+1≤w2.heap.size:=by have:=hb2.size;simpa using this
 have HB2:=hid (C9 hb2);obtain⟨b2,q2,ea,_⟩:=hi2.row (by rw[hl2];decide);subst ea;rw[hl2]at hi2;have HN2:=hid hi2.newsK;clear hr2 hi2 hl2 hb2;rw[HL2.out];go_wp2_with(at_builtin;refine wpList_append_own_at _ rfl _ _ 28 rfl w.heap.size 5 i0 (.int .u8 0) 1 1 underlying28 hi0 hz0 hz1 hz2 rfl (by decide) _ 1 _ rfl HR1.out ⟨b2,q2,none⟩ 4 c2 ((leB i 4).map (Value.int .u8)) rfl ?c0 HN2.out ?c2 ?c3 ?c4 ?c5 ?_)
 case c0=>rw[List.length_map,HL2.out]
 case c2=>intro u hu;obtain⟨x,_,rfl⟩:=List.mem_map.1 hu;rfl
 case c3=>unfold maxLen;decide
 case c4=>decide
 case c5=>omega
 intro v' w3 hown' hgrow _ _;have HO:=hid hown';have HG:=hid hgrow;clear hown' hgrow;go_wp2_with fail
 go_ret;refine⟨_,rfl,RowI.app (xs:=[_]) (ys:=leB i 4) HO.out (by rw[HL2.out];rfl) (by unfold mmB;simp only[List.cons_append,List.nil_append,List.cons.injEq,and_true];unfold wrap64;omega),(HB2.out).grown HG.out (by omega) (R5 HR1.out)⟩
theorem A3G{p:Prop}(h:p:=by
 go_wp2_with fail
 go_quiet((first|(go_at_call 173;exact D8 (C0.out _))|(go_at_call 174;exact D8 (C1.out _))))
 go_wp2_with fail
 go_ret;exact⟨rfl,B8 HB.out _⟩
 ):p:=h
theorem A7T{p:Prop}(h:p:=by
 go_enter func242,ntmps242;go_wp2_with(first|((with_reducible refine(C0.out _).mono ?_);rintro e w1 ⟨rfl,hb⟩;have q3:w1.cell? ⟨w.heap.size,3,none⟩=some (.int .i64 8):=D3 hb 3;have q4:w1.cell? ⟨w.heap.size,4,none⟩=some (.int .i64 i):=D3 hb 4)|((with_reducible first|refine(C1.out _).mono ?_|refine(C2.out _).mono ?_);rintro e w' ⟨rfl,rfl⟩))
 go_ret;exact⟨rfl,HB.out.trans (hb.mono (by simp))⟩
 ):p:=h
theorem A7S{p:Prop}(h:p:=by
 go_enter func242,ntmps242;go_wp2_with(first|((with_reducible refine(C0.out _).mono ?_);rintro e w1 ⟨rfl,hb⟩;have q3:w1.cell? ⟨w.heap.size,3,none⟩=some (.int .i64 8):=D3 hb 3;have q4:w1.cell? ⟨w.heap.size,4,none⟩=some (.int .i64 i):=D3 hb 4)|((with_reducible first|refine(C1.out _).mono ?_|refine(C2.out _).mono ?_);rintro e w' ⟨rfl,rfl⟩))
 go_ret;exact⟨rfl,HB.out.trans (hb.mono (by simp))⟩
 ):p:=h
theorem A3B{p:Prop}(h:p:=by
 go_wp2_with((with_reducible first|refine(C0.out _).mono ?_|refine(C1.out _).mono ?_);rintro e w' ⟨rfl,rfl⟩)
 go_ret;exact⟨rfl,HB.out⟩
 ):p:=h
theorem A7P{p:Prop}(h:p:=by
 go_enter func228,ntmps228;go_wp2_with((with_reducible first|refine(C0.out _).mono ?_|refine(C1.out _).mono ?_|refine(C2.out _).mono ?_);rintro e w' ⟨rfl,rfl⟩)
 go_ret;exact⟨rfl,HB.out⟩
 ):p:=h
theorem A7O{p:Prop}(h:p:=by
 go_enter func233,ntmps233;go_wp2_with((with_reducible first|refine(C0.out _).mono ?_|refine(C1.out _).mono ?_|refine(C2.out _).mono ?_);rintro e w' ⟨rfl,rfl⟩)
 go_ret;exact⟨rfl,HB.out⟩
 ):p:=h
theorem A7N{p:Prop}(h:p:=by
 go_enter func233,ntmps233;go_wp2_with((with_reducible first|refine(C0.out _).mono ?_|refine(C1.out _).mono ?_|refine(C2.out _).mono ?_);rintro e w' ⟨rfl,rfl⟩)
 go_ret;exact⟨rfl,HB.out⟩
 ):p:=h
theorem A7M{p:Prop}(h:p:=by
 go_enter func191,ntmps191;go_wp2_with((with_reducible first|refine(C0.out _).mono ?_|refine(C1.out _).mono ?_|refine(C2.out _).mono ?_);rintro e w' ⟨rfl,rfl⟩)
 go_ret;exact⟨rfl,HB.out⟩
 ):p:=h
theorem A8x{p:Prop}(h:p:=by
 rw[h1]at C0;clear h1;go_enter func242,ntmps242;go_wp2_with(first|((with_reducible refine(C0.out _).mono ?_);rintro e w1 ⟨rfl,hb⟩;have q3:w1.cell? ⟨w.heap.size,3,none⟩=some (.int .i64 32):=D3 hb 3;have q4:w1.cell? ⟨w.heap.size,4,none⟩=some (.int .i64 i):=D3 hb 4)|((with_reducible first|refine(C1.out _).mono ?_|refine(C2.out _).mono ?_);rintro e w' ⟨rfl,rfl⟩))
 go_ret;exact⟨rfl,HB.out.trans (hb.mono (by simp))⟩
 ):p:=h
theorem A8w{p:Prop}(h:p:=by
 rw[h1]at C0;clear h1;go_enter func242,ntmps242;go_wp2_with(first|((with_reducible refine(C0.out _).mono ?_);rintro e w1 ⟨rfl,hb⟩;have q3:w1.cell? ⟨w.heap.size,3,none⟩=some (.int .i64 32):=D3 hb 3;have q4:w1.cell? ⟨w.heap.size,4,none⟩=some (.int .i64 i):=D3 hb 4)|((with_reducible first|refine(C1.out _).mono ?_|refine(C2.out _).mono ?_);rintro e w' ⟨rfl,rfl⟩))
 go_ret;exact⟨rfl,HB.out.trans (hb.mono (by simp))⟩
 ):p:=h
theorem A7L{p:Prop}(h:p:=by
 go_enter func186,ntmps186;go_wp2_with((with_reducible first|refine(C0.out _).mono ?_|refine(C1.out _).mono ?_);rintro e w' ⟨rfl,rfl⟩)
 go_ret;exact⟨rfl,HB.out⟩
 ):p:=h
theorem A7K{p:Prop}(h:p:=by
 go_enter func189,ntmps189;go_wp2_with((with_reducible first|refine(C0.out _).mono ?_|refine(C1.out _).mono ?_);rintro e w' ⟨rfl,rfl⟩)
 go_ret;exact⟨rfl,HB.out⟩
 ):p:=h
theorem A7G{p:Prop}(h:p:=by
 go_enter func238,ntmps238;go_wp2_with((with_reducible refine(C0.out _).mono ?_);rintro e w' ⟨rfl,rfl⟩)
 go_ret;exact⟨rfl,HB.out⟩
 ):p:=h
theorem A8j{p:Prop}(h:p:=by
 cases h0:isR d
 ·rw[h0]at C0;clear h0;go_enter func235,ntmps235;exact A3G
 ·rw[h0]at C0;clear h0;cases h1:(s==0)
  ·go_enter func235,ntmps235;exact A3G
  ·go_enter func235,ntmps235;exact A3G
 ):p:=h
theorem A8i{p:Prop}(h:p:=by
 cases h0:isR d
 ·rw[h0]at C0;clear h0;go_enter func172,ntmps172;exact A3G
 ·rw[h0]at C0;clear h0;cases h1:(s==0)
  ·go_enter func172,ntmps172;exact A3G
  ·go_enter func172,ntmps172;exact A3G
 ):p:=h
def o9(x:Ins):Value:=.agg #[.int .i64 x.o,.int .i64 x.d,.int .i64 x.s,.int .i64 x.z,.int .i64 x.i]
theorem A1E(o d s z i:Int)(w:World):Calls prog 226 #[.agg #[.int .i64 o,.int .i64 d,.int .i64 s,.int .i64 z,.int .i64 i]] w fun e w'=>e= .returned (.bool ((isR d)&&((isR s)&&(i==0))))∧Below w.heap.size w w':=by
 have HB:=hid ((Below.refl w.heap.size w).alloc (Nat.le_refl _) (.cells #[.int .i64 o,.int .i64 d,.int .i64 s,.int .i64 z,.int .i64 i] 89));have C0:=hid (fun w=>F5 d w);have C1:=hid (fun w=>F5 s w);cases h0:(isR d)
 ·rw[h0]at C0;clear h0;go_enter func226,ntmps226;exact A3B
 ·rw[h0]at C0;clear h0;cases h1:(isR s)
  ·rw[h1]at C1;clear h1;go_enter func226,ntmps226;exact A3B
  ·rw[h1]at C1;clear h1;go_enter func226,ntmps226;exact A3B
theorem A6W(o d s z i:Int)(w:World):Calls prog 181 #[.agg #[.int .i64 o,.int .i64 d,.int .i64 s,.int .i64 z,.int .i64 i]] w fun e w'=>e= .returned (.bool ((isR d)&&((isR s)&&(i==0))))∧Below w.heap.size w w':=by
 have HB:=hid ((Below.refl w.heap.size w).alloc (Nat.le_refl _) (.cells #[.int .i64 o,.int .i64 d,.int .i64 s,.int .i64 z,.int .i64 i] 89));have C0:=hid (fun w=>F5 d w);have C1:=hid (fun w=>F5 s w);cases h0:(isR d)
 ·rw[h0]at C0;clear h0;go_enter func181,ntmps181;exact A3B
 ·rw[h0]at C0;clear h0;cases h1:(isR s)
  ·rw[h1]at C1;clear h1;go_enter func181,ntmps181;exact A3B
  ·rw[h1]at C1;clear h1;go_enter func181,ntmps181;exact A3B
theorem j9(o d s z i:Int)(w:World):Calls prog 228 #[.agg #[.int .i64 o,.int .i64 d,.int .i64 s,.int .i64 z,.int .i64 i]] w fun e w'=>e= .returned (.bool ((isR d)&&((isM s)&&(I8 i))))∧Below w.heap.size w w':=by
 have HB:=hid ((Below.refl w.heap.size w).alloc (Nat.le_refl _) (.cells #[.int .i64 o,.int .i64 d,.int .i64 s,.int .i64 z,.int .i64 i] 89));have C0:=hid (fun w=>F5 d w);have C1:=hid (fun w=>P9 s w);have C2:=hid (fun w=>J8 i w);cases h0:(isR d)
 ·rw[h0]at C0;clear h0;exact A7P
 ·rw[h0]at C0;clear h0;cases h1:(isM s)
  ·rw[h1]at C1;clear h1;exact A7P
  ·rw[h1]at C1;clear h1;exact A7P
theorem U5(o d s z i:Int)(w:World):Calls prog 238 #[.agg #[.int .i64 o,.int .i64 d,.int .i64 s,.int .i64 z,.int .i64 i]] w fun e w'=>e= .returned (.bool ((isR d)&&((s==0)&&(i==0))))∧Below w.heap.size w w':=by
 have HB:=hid ((Below.refl w.heap.size w).alloc (Nat.le_refl _) (.cells #[.int .i64 o,.int .i64 d,.int .i64 s,.int .i64 z,.int .i64 i] 89));have C0:=hid (fun w=>F5 d w);cases h0:(isR d)
 ·rw[h0]at C0;clear h0;exact A7G
 ·rw[h0]at C0;clear h0;cases h1:(s==0)
  ·skip
   exact A7G
  ·skip
   exact A7G
theorem V2(o d s z i:Int)(w:World):Calls prog 240 #[.agg #[.int .i64 o,.int .i64 d,.int .i64 s,.int .i64 z,.int .i64 i]] w fun e w'=>e= .returned (.bool ((d==0)&&((s==0)&&(i==0))))∧Below w.heap.size w w':=by
 have HB:=hid ((Below.refl w.heap.size w).alloc (Nat.le_refl _) (.cells #[.int .i64 o,.int .i64 d,.int .i64 s,.int .i64 z,.int .i64 i] 89));cases h0:(d==0)
 ·skip
  go_enter func240,ntmps240;go_wp2_with fail
  go_ret;exact⟨rfl,HB.out⟩
 ·skip
  cases h1:(s==0)
  ·skip
   go_enter func240,ntmps240;go_wp2_with fail
   go_ret;exact⟨rfl,HB.out⟩
  ·skip
   go_enter func240,ntmps240;go_wp2_with fail
   go_ret;exact⟨rfl,HB.out⟩
theorem A6V(o d s z i:Int)(w:World):Calls prog 186 #[.agg #[.int .i64 o,.int .i64 d,.int .i64 s,.int .i64 z,.int .i64 i]] w fun e w'=>e= .returned (.bool ((isL d)&&((isC s)&&(i==0))))∧Below w.heap.size w w':=by
 have HB:=hid ((Below.refl w.heap.size w).alloc (Nat.le_refl _) (.cells #[.int .i64 o,.int .i64 d,.int .i64 s,.int .i64 z,.int .i64 i] 89));have C0:=hid (fun w=>X9 d w);have C1:=hid (fun w=>U3 s w);cases h0:(isL d)
 ·rw[h0]at C0;clear h0;exact A7L
 ·rw[h0]at C0;clear h0;cases h1:(isC s)
  ·rw[h1]at C1;clear h1;exact A7L
  ·rw[h1]at C1;clear h1;exact A7L
theorem A5K(o d s z i:Int)(w:World):Calls prog 189 #[.agg #[.int .i64 o,.int .i64 d,.int .i64 s,.int .i64 z,.int .i64 i]] w fun e w'=>e= .returned (.bool ((isR d)&&((isL s)&&(i==0))))∧Below w.heap.size w w':=by
 have HB:=hid ((Below.refl w.heap.size w).alloc (Nat.le_refl _) (.cells #[.int .i64 o,.int .i64 d,.int .i64 s,.int .i64 z,.int .i64 i] 89));have C0:=hid (fun w=>F5 d w);have C1:=hid (fun w=>X9 s w);cases h0:(isR d)
 ·rw[h0]at C0;clear h0;exact A7K
 ·rw[h0]at C0;clear h0;cases h1:(isL s)
  ·rw[h1]at C1;clear h1;exact A7K
  ·rw[h1]at C1;clear h1;exact A7K
theorem A5L(o d s z i:Int)(w:World):Calls prog 191 #[.agg #[.int .i64 o,.int .i64 d,.int .i64 s,.int .i64 z,.int .i64 i]] w fun e w'=>e= .returned (.bool ((isR d)&&((isR s)&&(isC i))))∧Below w.heap.size w w':=by
 have HB:=hid ((Below.refl w.heap.size w).alloc (Nat.le_refl _) (.cells #[.int .i64 o,.int .i64 d,.int .i64 s,.int .i64 z,.int .i64 i] 89));have C0:=hid (fun w=>F5 d w);have C1:=hid (fun w=>F5 s w);have C2:=hid (fun w=>U3 i w);cases h0:(isR d)
 ·rw[h0]at C0;clear h0;exact A7M
 ·rw[h0]at C0;clear h0;cases h1:(isR s)
  ·rw[h1]at C1;clear h1;exact A7M
  ·rw[h1]at C1;clear h1;exact A7M
theorem A2p(o d s z i:Int)(w:World):Calls prog 196 #[.agg #[.int .i64 o,.int .i64 d,.int .i64 s,.int .i64 z,.int .i64 i]] w fun e w'=>e= .returned (.bool (isC s))∧Below w.heap.size w w':=by
 have HB:=hid ((Below.refl w.heap.size w).alloc (Nat.le_refl _) (.cells #[.int .i64 o,.int .i64 d,.int .i64 s,.int .i64 z,.int .i64 i] 89));have C0:=hid (fun w=>U3 s w);go_enter func196,ntmps196;go_wp2_with((with_reducible refine(C0.out _).mono ?_);rintro e w' ⟨rfl,rfl⟩)
 go_ret;exact⟨rfl,HB.out⟩
theorem A2o(o d s z i:Int)(w:World):Calls prog 199 #[.agg #[.int .i64 o,.int .i64 d,.int .i64 s,.int .i64 z,.int .i64 i]] w fun e w'=>e= .returned (.bool (s==0))∧Below w.heap.size w w':=by
 have HB:=hid ((Below.refl w.heap.size w).alloc (Nat.le_refl _) (.cells #[.int .i64 o,.int .i64 d,.int .i64 s,.int .i64 z,.int .i64 i] 89));go_enter func199,ntmps199;go_wp2_with fail
 go_ret;exact⟨rfl,HB.out⟩
theorem A2D(o d s z i:Int)(b:Nat)(w:World)(hc:w.cell? ⟨b,0,none⟩=some (.func (.func 173) #[] #[])):Calls prog 233 #[.agg #[.int .i64 o,.int .i64 d,.int .i64 s,.int .i64 z,.int .i64 i],.pointer (some ⟨b,0,none⟩)] w fun e w'=>e= .returned (.bool ((isM d)&&((isR s)&&(I8 i))))∧Below w.heap.size w w':=by
 have HB:=hid ((Below.refl w.heap.size w).alloc (Nat.le_refl _) (.cells #[.int .i64 o,.int .i64 d,.int .i64 s,.int .i64 z,.int .i64 i] 89));have C0:=hid (fun w=>P9 d w);have C1:=hid (fun w=>F5 s w);have C2:=hid (fun w=>J8 i w);have hl:=B6 hc;have hn:¬b=w.heap.size:=by omega
 cases h0:(isM d)
 ·rw[h0]at C0;clear h0;exact A7O
 ·rw[h0]at C0;clear h0;cases h1:(isR s)
  ·rw[h1]at C1;clear h1;exact A7O
  ·rw[h1]at C1;clear h1;exact A7O
theorem A2E(o d s z i:Int)(b:Nat)(w:World)(hc:w.cell? ⟨b,0,none⟩=some (.func (.func 179) #[] #[])):Calls prog 233 #[.agg #[.int .i64 o,.int .i64 d,.int .i64 s,.int .i64 z,.int .i64 i],.pointer (some ⟨b,0,none⟩)] w fun e w'=>e= .returned (.bool ((isM d)&&((isL s)&&(I8 i))))∧Below w.heap.size w w':=by
 have HB:=hid ((Below.refl w.heap.size w).alloc (Nat.le_refl _) (.cells #[.int .i64 o,.int .i64 d,.int .i64 s,.int .i64 z,.int .i64 i] 89));have C0:=hid (fun w=>P9 d w);have C1:=hid (fun w=>X9 s w);have C2:=hid (fun w=>J8 i w);have hl:=B6 hc;have hn:¬b=w.heap.size:=by omega
 cases h0:(isM d)
 ·rw[h0]at C0;clear h0;exact A7N
 ·rw[h0]at C0;clear h0;cases h1:(isL s)
  ·rw[h1]at C1;clear h1;exact A7N
  ·rw[h1]at C1;clear h1;exact A7N
theorem A2F(o d s i:Int)(w:World):Calls prog 235 #[.agg #[.int .i64 o,.int .i64 d,.int .i64 s,.int .i64 32,.int .i64 i]] w fun e w'=>e= .returned (.bool (isR d&&((s==0)&&inZ i 32)))∧Below w.heap.size w w':=by
 have HB:=hid ((Below.refl w.heap.size w).alloc (Nat.le_refl _) (.cells #[.int .i64 o,.int .i64 d,.int .i64 s,.int .i64 32,.int .i64 i] 89));have C0:=hid (fun w=>F5 d w);have C1:Hid (∀w,Calls prog 174 #[.int .i64 i,.int .i64 0,.int .i64 4294967295] w fun e w'=>e= .returned (.bool (inZ i 32))∧w=w'):=fun w=>F9 i 0 4294967295 w
 generalize inZ i 32=q at*
 exact A8j
theorem A2G(o d s i:Int)(w:World):Calls prog 235 #[.agg #[.int .i64 o,.int .i64 d,.int .i64 s,.int .i64 16,.int .i64 i]] w fun e w'=>e= .returned (.bool (isR d&&((s==0)&&inZ i 16)))∧Below w.heap.size w w':=by
 have HB:=hid ((Below.refl w.heap.size w).alloc (Nat.le_refl _) (.cells #[.int .i64 o,.int .i64 d,.int .i64 s,.int .i64 16,.int .i64 i] 89));have C0:=hid (fun w=>F5 d w);have C1:Hid (∀w,Calls prog 174 #[.int .i64 i,.int .i64 0,.int .i64 65535] w fun e w'=>e= .returned (.bool (inZ i 16))∧w=w'):=fun w=>F9 i 0 65535 w
 generalize inZ i 16=q at*
 exact A8j
theorem A1F(o d s i:Int)(w:World):Calls prog 172 #[.agg #[.int .i64 o,.int .i64 d,.int .i64 s,.int .i64 32,.int .i64 i]] w fun e w'=>e= .returned (.bool (isR d&&((s==0)&&inZ i 32)))∧Below w.heap.size w w':=by
 have HB:=hid ((Below.refl w.heap.size w).alloc (Nat.le_refl _) (.cells #[.int .i64 o,.int .i64 d,.int .i64 s,.int .i64 32,.int .i64 i] 89));have C0:=hid (fun w=>F5 d w);have C1:Hid (∀w,Calls prog 174 #[.int .i64 i,.int .i64 0,.int .i64 4294967295] w fun e w'=>e= .returned (.bool (inZ i 32))∧w=w'):=fun w=>F9 i 0 4294967295 w
 generalize inZ i 32=q at*
 exact A8i
theorem A1G(o d s i:Int)(w:World):Calls prog 172 #[.agg #[.int .i64 o,.int .i64 d,.int .i64 s,.int .i64 16,.int .i64 i]] w fun e w'=>e= .returned (.bool (isR d&&((s==0)&&inZ i 16)))∧Below w.heap.size w w':=by
 have HB:=hid ((Below.refl w.heap.size w).alloc (Nat.le_refl _) (.cells #[.int .i64 o,.int .i64 d,.int .i64 s,.int .i64 16,.int .i64 i] 89));have C0:=hid (fun w=>F5 d w);have C1:Hid (∀w,Calls prog 174 #[.int .i64 i,.int .i64 0,.int .i64 65535] w fun e w'=>e= .returned (.bool (inZ i 16))∧w=w'):=fun w=>F9 i 0 65535 w
 generalize inZ i 16=q at*
 exact A8i
theorem A1I(o d s i:Int)(b:Nat)(w:World)(hc:w.cell? ⟨b,0,none⟩=some (.func (.func 196) #[] #[])):Calls prog 242 #[.agg #[.int .i64 o,.int .i64 d,.int .i64 s,.int .i64 8,.int .i64 i],.pointer (some ⟨b,0,none⟩)] w fun e w'=>e= .returned (.bool ((d==0)&&((isC s)&&isB i)))∧Below w.heap.size w w':=by
 have hl:=B6 hc;have hn:¬b=w.heap.size:=by omega
 have HB:=hid ((Below.refl w.heap.size w).alloc (Nat.le_refl _) (.cells #[.int .i64 o,.int .i64 d,.int .i64 s,.int .i64 8,.int .i64 i] 89));have C0:=hid (fun w=>A2p o d s 8 i w);have C1:Hid (∀w,Calls prog 174 #[.int .i64 i,.int .i64 (-128),.int .i64 127] w fun e w'=>e= .returned (.bool (isB i))∧w=w'):=fun w=>F9 i (-128) 127 w
 have C2:=hid (fun w=>J8 i w);cases h0:(d==0)
 ·go_enter func242,ntmps242;go_wp2_with(first|((with_reducible refine(C0.out _).mono ?_);rintro e w1 ⟨rfl,hb⟩;have q3:w1.cell? ⟨w.heap.size,3,none⟩=some (.int .i64 8):=D3 hb 3;have q4:w1.cell? ⟨w.heap.size,4,none⟩=some (.int .i64 i):=D3 hb 4)|((with_reducible first|refine(C1.out _).mono ?_|refine(C2.out _).mono ?_);rintro e w' ⟨rfl,rfl⟩))
  go_ret;exact⟨rfl,HB.out⟩
 ·cases h1:(isC s)
  ·rw[h1]at C0;clear h1;exact A7T
  ·rw[h1]at C0;clear h1;cases h2:isB i
   ·rw[h2]at C1;clear h2;exact A7T
   ·rw[h2]at C1;clear h2;exact A7T
theorem A0A(o d s i:Int)(b:Nat)(w:World)(hc:w.cell? ⟨b,0,none⟩=some (.func (.func 196) #[] #[])):Calls prog 242 #[.agg #[.int .i64 o,.int .i64 d,.int .i64 s,.int .i64 32,.int .i64 i],.pointer (some ⟨b,0,none⟩)] w fun e w'=>e= .returned (.bool ((d==0)&&((isC s)&&I8 i)))∧Below w.heap.size w w':=by
 have hl:=B6 hc;have hn:¬b=w.heap.size:=by omega
 have HB:=hid ((Below.refl w.heap.size w).alloc (Nat.le_refl _) (.cells #[.int .i64 o,.int .i64 d,.int .i64 s,.int .i64 32,.int .i64 i] 89));have C0:=hid (fun w=>A2p o d s 32 i w);have C1:Hid (∀w,Calls prog 174 #[.int .i64 i,.int .i64 (-128),.int .i64 127] w fun e w'=>e= .returned (.bool (isB i))∧w=w'):=fun w=>F9 i (-128) 127 w
 have C2:=hid (fun w=>J8 i w);cases h0:(d==0)
 ·go_enter func242,ntmps242;go_wp2_with(first|((with_reducible refine(C0.out _).mono ?_);rintro e w1 ⟨rfl,hb⟩;have q3:w1.cell? ⟨w.heap.size,3,none⟩=some (.int .i64 32):=D3 hb 3;have q4:w1.cell? ⟨w.heap.size,4,none⟩=some (.int .i64 i):=D3 hb 4)|((with_reducible first|refine(C1.out _).mono ?_|refine(C2.out _).mono ?_);rintro e w' ⟨rfl,rfl⟩))
  go_ret;exact⟨rfl,HB.out⟩
 ·cases h1:(isC s)
  ·exact A8x
  ·exact A8x
theorem A1H(o d s i:Int)(b:Nat)(w:World)(hc:w.cell? ⟨b,0,none⟩=some (.func (.func 199) #[] #[])):Calls prog 242 #[.agg #[.int .i64 o,.int .i64 d,.int .i64 s,.int .i64 8,.int .i64 i],.pointer (some ⟨b,0,none⟩)] w fun e w'=>e= .returned (.bool ((d==0)&&((s==0)&&isB i)))∧Below w.heap.size w w':=by
 have hl:=B6 hc;have hn:¬b=w.heap.size:=by omega
 have HB:=hid ((Below.refl w.heap.size w).alloc (Nat.le_refl _) (.cells #[.int .i64 o,.int .i64 d,.int .i64 s,.int .i64 8,.int .i64 i] 89));have C0:=hid (fun w=>A2o o d s 8 i w);have C1:Hid (∀w,Calls prog 174 #[.int .i64 i,.int .i64 (-128),.int .i64 127] w fun e w'=>e= .returned (.bool (isB i))∧w=w'):=fun w=>F9 i (-128) 127 w
 have C2:=hid (fun w=>J8 i w);cases h0:(d==0)
 ·go_enter func242,ntmps242;go_wp2_with(first|((with_reducible refine(C0.out _).mono ?_);rintro e w1 ⟨rfl,hb⟩;have q3:w1.cell? ⟨w.heap.size,3,none⟩=some (.int .i64 8):=D3 hb 3;have q4:w1.cell? ⟨w.heap.size,4,none⟩=some (.int .i64 i):=D3 hb 4)|((with_reducible first|refine(C1.out _).mono ?_|refine(C2.out _).mono ?_);rintro e w' ⟨rfl,rfl⟩))
  go_ret;exact⟨rfl,HB.out⟩
 ·cases h1:(s==0)
  ·rw[h1]at C0;clear h1;exact A7S
  ·rw[h1]at C0;clear h1;cases h2:isB i
   ·rw[h2]at C1;clear h2;exact A7S
   ·rw[h2]at C1;clear h2;exact A7S
theorem z9(o d s i:Int)(b:Nat)(w:World)(hc:w.cell? ⟨b,0,none⟩=some (.func (.func 199) #[] #[])):Calls prog 242 #[.agg #[.int .i64 o,.int .i64 d,.int .i64 s,.int .i64 32,.int .i64 i],.pointer (some ⟨b,0,none⟩)] w fun e w'=>e= .returned (.bool ((d==0)&&((s==0)&&I8 i)))∧Below w.heap.size w w':=by
 have hl:=B6 hc;have hn:¬b=w.heap.size:=by omega
 have HB:=hid ((Below.refl w.heap.size w).alloc (Nat.le_refl _) (.cells #[.int .i64 o,.int .i64 d,.int .i64 s,.int .i64 32,.int .i64 i] 89));have C0:=hid (fun w=>A2o o d s 32 i w);have C1:Hid (∀w,Calls prog 174 #[.int .i64 i,.int .i64 (-128),.int .i64 127] w fun e w'=>e= .returned (.bool (isB i))∧w=w'):=fun w=>F9 i (-128) 127 w
 have C2:=hid (fun w=>J8 i w);cases h0:(d==0)
 ·go_enter func242,ntmps242;go_wp2_with(first|((with_reducible refine(C0.out _).mono ?_);rintro e w1 ⟨rfl,hb⟩;have q3:w1.cell? ⟨w.heap.size,3,none⟩=some (.int .i64 32):=D3 hb 3;have q4:w1.cell? ⟨w.heap.size,4,none⟩=some (.int .i64 i):=D3 hb 4)|((with_reducible first|refine(C1.out _).mono ?_|refine(C2.out _).mono ?_);rintro e w' ⟨rfl,rfl⟩))
  go_ret;exact⟨rfl,HB.out⟩
 ·cases h1:(s==0)
  ·exact A8w
  ·exact A8w
theorem RowI.mono{w:World}{base base':Nat}{e:TypeId}{k:IntKind}{v:Value}{xs:List Int}(h:RowI w base e k v xs)(hb:base'≤base):RowI w base' e k v xs:=World.ownsRow.mono h hb
theorem O1{P:Program}{f:FuncId}{args:Array Value}{w:World}{e0:TypeId}{k:IntKind}{xs:List Int}(h:Calls P f args w fun e w'=>∃v,e= .returned v∧RowI w' w.heap.size e0 k v xs∧Below w.heap.size w w'){w0:World}(h0:Since w0 w):
  Calls P f args w fun e w'=>∃v,e= .returned v∧RowI w' w0.heap.size e0 k v xs∧Below w.heap.size w w'∧Since w0 w':=
 h.mono fun _ _ ⟨v,h1,h2,h3⟩=>⟨v,h1,h2.mono h0.size,h3,A8 h0 h3⟩
section
variable {P : Program} {w : World}
theorem D0{ops:Array Oper}{o:Oper}{a:Act}{K:Act→World→Prop}{Q:Exit→Act→World→Prop}{E:Prop}{k:IntKind}(hgd:o.guard=none)(s x:Operand)(t:TypeId)
  (ho:o.op= .call {callee:=.builtin .append,args:=#[s,x],argTypes:=#[t,t]}) (base:Nat) (e:TypeId) (i:TypeInfo) (bytes:Nat) (ht:P.underlying t=some (.slice e)) (hi:P.info? e=some i) (hz:i.zero=some (.int k 0))
  (hsize:i.size=1) (hby:i.bytes=bytes) (hb8:bytes≤8) (v:Value) (xs:List Int) (hs:a.eval s=v) (hown:RowI w base e k v xs)
  (u:Value) (ys:List Int) (hx:a.eval x=u) (hu:Ints k w u ys) (hm:0<ys.length) (hl:xs.length+ys.length≤100000) (hbase:base≤w.heap.size)
  (h:∀v' w',RowI w' base e k v' (xs++ys)→Below base w w'→K (a.put o.dst v') w'):if Region.wanted o (yielded ops a.tmps)=true then Oper.wp P o a w K Q else E:=by
 obtain⟨b,q,c,rfl,_,_⟩:=hu.at hm;have hn:=hu.newsK;refine step_append_lies (w:=w) hgd s x t ho base e i (.int k 0) 1 bytes ht hi hz hsize hby rfl (by decide) v xs.length (xs.map (Value.int k)) hs hown ⟨b,q,none⟩ ys.length c (ys.map (Value.int k)) hx (by simp) hn (fun u hu=>by obtain⟨x,_,rfl⟩:=List.mem_map.1 hu;rfl) hm (by unfold maxLen;omega) ?_ hbase w.heap.size rfl ?_
 ·have:(xs.length+ys.length)*bytes≤100000*8:=Nat.mul_le_mul hl hb8;omega
 ·intro g cap w' hown' hgrow _ _;exact h _ w' (RowI.app hown' rfl rfl) ((Below.refl base w).grown hgrow hbase (R5 hown))
theorem L0{ops:Array Oper}{rest:List Oper}{o:Oper}{a:Act}{Q:Exit→Act→World→Prop}{k:IntKind}(hgd:o.guard=none)(s x:Operand)(t:TypeId)
  (ho:o.op= .call {callee:=.builtin .append,args:=#[s,x],argTypes:=#[t,t]}) (base:Nat) (e:TypeId) (i:TypeInfo) (bytes:Nat) (ht:P.underlying t=some (.slice e)) (hi:P.info? e=some i) (hz:i.zero=some (.int k 0))
  (hsize:i.size=1) (hby:i.bytes=bytes) (hb8:bytes≤8) (v:Value) (xs:List Int) (hs:a.eval s=v) (hown:RowI w base e k v xs)
  (u:Value) (ys:List Int) (hx:a.eval x=u) (hu:Ints k w u ys) (hm:0<ys.length) (hl:xs.length+ys.length≤100000) (hbase:base≤w.heap.size)
  (h:∀v' w',RowI w' base e k v' (xs++ys)→Below base w w'→wpList P ops Q rest (a.put o.dst v') w'):wpList P ops Q (o::rest) a w:=by
 obtain⟨b,q,c,rfl,_,_⟩:=hu.at hm;have hn:=hu.newsK;refine wpList_append_own (w:=w) hgd s x t ho base e i (.int k 0) 1 bytes ht hi hz hsize hby rfl (by decide) v xs.length (xs.map (Value.int k)) hs hown ⟨b,q,none⟩ ys.length c (ys.map (Value.int k)) hx (by simp) hn (fun u hu=>by obtain⟨x,_,rfl⟩:=List.mem_map.1 hu;rfl) (by unfold maxLen;omega) ?_ hbase ?_
 ·have:(xs.length+ys.length)*bytes≤100000*8:=Nat.mul_le_mul hl hb8;omega
 ·intro v' w' hown' hgrow _;exact h _ w' (RowI.app hown' rfl rfl) ((Below.refl base w).grown hgrow hbase (R5 hown))
end
theorem r9(xs:List Int)(v:Value)(w:World)(hv:Ints .u8 w v xs)(h0:0<xs.length)(h1:xs.length≤50000):Calls prog 109 #[v] w fun e w'=>∃v,e= .returned v∧RowI w' w.heap.size 5 .u8 v xs∧Below w.heap.size w w':=by
 obtain⟨i0,hi0,hz0,hz1,hz2⟩:=info_parts F8;have HV:=hid hv;obtain⟨b,q,c,rfl,_,hbl,_⟩:=hv.at h0;have HR0:=hid (RowI.lit w #[] [] .u8 5 w.heap.size 0 (Nat.le_refl _) rfl rfl (by unfold maxLen;simp));have HB:=hid ((Below.refl w.heap.size w).alloc (Nat.le_refl _) (.cells #[] 5));clear hv;have hnl:∀w,(binOp .eql 28 (.slice (some ⟨b,q,none⟩) xs.length c) (.slice none 0 0)).run prog w= .ok (.bool false) w:=fun w=>Lib.run_eql_slice_nil w 28 5 (some ⟨b,q,none⟩) xs.length c 0 0 underlying28
 go_enter func109,ntmps109;go_wp2_with(at_builtin;go_must (refine L0 rfl _ _ 28 rfl w.heap.size 5 i0 1 underlying28 hi0 hz0 hz1 hz2 (by decide) _ [] rfl HR0.out _ xs rfl (HV.out.stays HB.out) h0 ?c1 ?c2 ?_))
 case c1=>simp;omega
 case c2=>simp
 intro v' w' hr hb;have HR:=hid hr;have HB2:=hid (HB.out.trans hb);clear hr hb;go_wp2_with fail
 go_ret;exact⟨_,rfl,HR.out,HB2.out⟩
theorem A2c(o d s z i c:Int)(b:Nat)(w:World)(hc:w.cell? ⟨b,0,none⟩=some (.int .u8 c)):Calls prog 227 #[.agg #[.int .i64 o,.int .i64 d,.int .i64 s,.int .i64 z,.int .i64 i],.pointer (some ⟨b,0,none⟩)] w fun e w'=>∃v,e= .returned v∧RowI w' w.heap.size 5 .u8 v [c,mrB s d]∧Below w.heap.size w w':=by
 have hl:=B6 hc;have hn:¬b=w.heap.size:=by omega
 have C0:=hid (fun w=>O4 s d w);have HB:=hid ((Below.refl w.heap.size w).alloc (Nat.le_refl _) (.cells #[.int .i64 o,.int .i64 d,.int .i64 s,.int .i64 z,.int .i64 i] 89));obtain⟨W0,hW0⟩:∃W,w.alloc (.cells #[.int .i64 o,.int .i64 d,.int .i64 s,.int .i64 z,.int .i64 i] 89)=W:=⟨_,rfl⟩
 have p0:∀wk,Since W0 wk→wk.cell? ⟨b,0,none⟩=some (.int .u8 c):=fun wk h=>h.cell (by rw[←hW0];exact E3 hc)
 have p1:∀wk,Since W0 wk→wk.cell? ⟨w.heap.size,1,none⟩=some (.int .i64 d):=fun wk h=>h.cell (by rw[←hW0];simp[go_sem])
 have p2:∀wk,Since W0 wk→wk.cell? ⟨w.heap.size,2,none⟩=some (.int .i64 s):=fun wk h=>h.cell (by rw[←hW0];simp[go_sem])
 have h00:=Since.refl W0;rw[hW0]at HB;generalize mrB s d=q at*
 clear hc hl hn;go_enter func227,ntmps227;go_wp2_with fail
 clear hW0
 go_region_held3(fun wk=>Since W0 wk) (first|assumption|exact Since.drew (by assumption)|exact Since.next (by assumption) ((Below.refl _ _).alloc (Nat.le_refl _) _)) (first|(go_at_call 183;with_reducible refine(C0.out _).mono ?_;rintro e w' ⟨rfl,rfl⟩))
 go_wp2_with fail
 go_ret;exact⟨_,rfl,RowI.lit W0 #[_,_] [c,q] .u8 5 w.heap.size 2 HB.out.size rfl rfl (by unfold maxLen;simp),B8 (HB.out.trans (((Below.refl _ W0).alloc (Nat.le_refl _) _).mono HB.out.size)) 1⟩
end Go.Proofs.YtajljbmeaeeknaaGreat
namespace Go.Proofs.YtajljbmeaeeknaaGreat
open Go.RowKit
set_option linter.unusedVariables false
set_option linter.unusedSimpArgs false
theorem A8z{p:Prop}(h:p:=by
 go_wp2_with fail
 clear hW0
 go_region_held3(fun wk=>Since W0 wk) (first|assumption|exact Since.drew (by assumption)|exact Since.next (by assumption) ((Below.refl _ _).alloc (Nat.le_refl _) _)) (first|(go_at_call 183;with_reducible refine(C0.out _).mono ?_;rintro e w' ⟨rfl,rfl⟩))
 go_wp2_with fail
 go_ret;exact⟨_,rfl,RowI.to (RowI.lit W0 #[_,_,_] [_,_,_] .u8 5 w.heap.size 3 HB.out.size rfl rfl (by unfold maxLen;simp)) (by first|rfl|((try simp only[List.cons.injEq,and_true,true_and,IntKind.wrap_u8,IntKind.wrap_i64]);omega)),B8 (HB.out.trans (((Below.refl _ W0).alloc (Nat.le_refl _) _).mono HB.out.size)) 1⟩
 ):p:=h
theorem A8k{p:Prop}(h:p:=by
 go_wp2_with(go_at_call 183;with_reducible refine(C0.out _).mono ?_;rintro e w' ⟨rfl,rfl⟩)
 go_ret;exact⟨_,rfl,RowI.to (RowI.lit W0 #[_,_,_] [_,_,_] .u8 5 w.heap.size 3 HB.out.size rfl rfl (by unfold maxLen;simp)) (rfl),HB.out.trans (((Below.refl _ W0).alloc (Nat.le_refl _) _).mono HB.out.size)⟩
 ):p:=h
theorem RowI.to{w:World}{base:Nat}{e:TypeId}{k:IntKind}{v:Value}{xs ys:List Int}(h:RowI w base e k v xs)(he:xs=ys):RowI w base e k v ys:=he▸h
theorem V6(o d s z i c n:Int)(b b2:Nat)(w:World)(hc0:w.cell? ⟨b,0,none⟩=some (.int .u8 c))(hc1:w.cell? ⟨b2,0,none⟩=some (.int .i64 n)):Calls prog 239 #[.agg #[.int .i64 o,.int .i64 d,.int .i64 s,.int .i64 z,.int .i64 i],.pointer (some ⟨b,0,none⟩),.pointer (some ⟨b2,0,none⟩)] w fun e w'=>∃v,e= .returned v∧RowI w' w.heap.size 5 .u8 v [c,mrB n d]∧Below w.heap.size w w':=by
 have hl0:=B6 hc0;have hn0:¬b=w.heap.size:=by omega
 have hl1:=B6 hc1;have hn1:¬b2=w.heap.size:=by omega
 have HB:=hid ((Below.refl w.heap.size w).alloc (Nat.le_refl _) (.cells #[.int .i64 o,.int .i64 d,.int .i64 s,.int .i64 z,.int .i64 i] 89));obtain⟨W0,hW0⟩:∃W,w.alloc (.cells #[.int .i64 o,.int .i64 d,.int .i64 s,.int .i64 z,.int .i64 i] 89)=W:=⟨_,rfl⟩
 have p0:∀wk,Since W0 wk→wk.cell? ⟨b,0,none⟩=some (.int .u8 c):=fun wk h=>h.cell (by rw[←hW0];exact E3 hc0)
 have p1:∀wk,Since W0 wk→wk.cell? ⟨b2,0,none⟩=some (.int .i64 n):=fun wk h=>h.cell (by rw[←hW0];exact E3 hc1)
 have q1:∀wk,Since W0 wk→wk.cell? ⟨w.heap.size,1,none⟩=some (.int .i64 d):=fun wk h=>h.cell (by rw[←hW0];simp[go_sem])
 have h00:=Since.refl W0;rw[hW0]at HB;have C0:=hid (fun w=>O4 n d w);generalize mrB n d=q at*
 clear hc0 hl0 hn0;clear hc1 hl1 hn1;go_enter func239,ntmps239;go_wp2_with fail
 clear hW0
 go_region_held3(fun wk=>Since W0 wk) (first|assumption|exact Since.drew (by assumption)|exact Since.next (by assumption) ((Below.refl _ _).alloc (Nat.le_refl _) _)) (first|(go_at_call 183;with_reducible refine(C0.out _).mono ?_;rintro e w' ⟨rfl,rfl⟩))
 go_wp2_with fail
 go_ret;exact⟨_,rfl,RowI.to (RowI.lit W0 #[_,_] [_,_] .u8 5 w.heap.size 2 HB.out.size rfl rfl (by unfold maxLen;simp)) (rfl),B8 (HB.out.trans (((Below.refl _ W0).alloc (Nat.le_refl _) _).mono HB.out.size)) 1⟩
theorem wr_mul(o d s z i:Int)(w:World):Calls prog 182 #[.agg #[.int .i64 o,.int .i64 d,.int .i64 s,.int .i64 z,.int .i64 i]] w fun e w'=>∃v,e= .returned v∧RowI w' w.heap.size 5 .u8 v [15,175,mrB d s]∧Below w.heap.size w w':=by
 have HB:=hid ((Below.refl w.heap.size w).alloc (Nat.le_refl _) (.cells #[.int .i64 o,.int .i64 d,.int .i64 s,.int .i64 z,.int .i64 i] 89));obtain⟨W0,hW0⟩:∃W,w.alloc (.cells #[.int .i64 o,.int .i64 d,.int .i64 s,.int .i64 z,.int .i64 i] 89)=W:=⟨_,rfl⟩
 have q1:∀wk,Since W0 wk→wk.cell? ⟨w.heap.size,1,none⟩=some (.int .i64 d):=fun wk h=>h.cell (by rw[←hW0];simp[go_sem])
 have q2:∀wk,Since W0 wk→wk.cell? ⟨w.heap.size,2,none⟩=some (.int .i64 s):=fun wk h=>h.cell (by rw[←hW0];simp[go_sem])
 have h00:=Since.refl W0;rw[hW0]at HB;have C0:=hid (fun w=>O4 d s w);generalize mrB d s=q at*
 go_enter func182,ntmps182;exact A8k
theorem A5Z(o d s z i:Int)(w:World):Calls prog 190 #[.agg #[.int .i64 o,.int .i64 d,.int .i64 s,.int .i64 z,.int .i64 i]] w fun e w'=>∃v,e= .returned v∧RowI w' w.heap.size 5 .u8 v [15,182,mrB d s]∧Below w.heap.size w w':=by
 have HB:=hid ((Below.refl w.heap.size w).alloc (Nat.le_refl _) (.cells #[.int .i64 o,.int .i64 d,.int .i64 s,.int .i64 z,.int .i64 i] 89));obtain⟨W0,hW0⟩:∃W,w.alloc (.cells #[.int .i64 o,.int .i64 d,.int .i64 s,.int .i64 z,.int .i64 i] 89)=W:=⟨_,rfl⟩
 have q1:∀wk,Since W0 wk→wk.cell? ⟨w.heap.size,1,none⟩=some (.int .i64 d):=fun wk h=>h.cell (by rw[←hW0];simp[go_sem])
 have q2:∀wk,Since W0 wk→wk.cell? ⟨w.heap.size,2,none⟩=some (.int .i64 s):=fun wk h=>h.cell (by rw[←hW0];simp[go_sem])
 have h00:=Since.refl W0;rw[hW0]at HB;have C0:=hid (fun w=>O4 d s w);generalize mrB d s=q at*
 go_enter func190,ntmps190;exact A8k
theorem A6z(o d s z i:Int)(w:World)(h1:0≤s)(h2:s≤15):Calls prog 188 #[.agg #[.int .i64 o,.int .i64 d,.int .i64 s,.int .i64 z,.int .i64 i]] w fun e w'=>∃v,e= .returned v∧RowI w' w.heap.size 5 .u8 v [15,(144+s)%256,mrB 0 d]∧Below w.heap.size w w':=by
 have HB:=hid ((Below.refl w.heap.size w).alloc (Nat.le_refl _) (.cells #[.int .i64 o,.int .i64 d,.int .i64 s,.int .i64 z,.int .i64 i] 89));obtain⟨W0,hW0⟩:∃W,w.alloc (.cells #[.int .i64 o,.int .i64 d,.int .i64 s,.int .i64 z,.int .i64 i] 89)=W:=⟨_,rfl⟩
 have q1:∀wk,Since W0 wk→wk.cell? ⟨w.heap.size,1,none⟩=some (.int .i64 d):=fun wk h=>h.cell (by rw[←hW0];simp[go_sem])
 have q2:∀wk,Since W0 wk→wk.cell? ⟨w.heap.size,2,none⟩=some (.int .i64 s):=fun wk h=>h.cell (by rw[←hW0];simp[go_sem])
 have h00:=Since.refl W0;rw[hW0]at HB;have C0:=hid (fun w=>O4 0 d w);generalize mrB 0 d=q at*
 go_enter func188,ntmps188;exact A8z
theorem A5e(o d s z i:Int)(w:World)(h1:0≤i)(h2:i≤15):Calls prog 192 #[.agg #[.int .i64 o,.int .i64 d,.int .i64 s,.int .i64 z,.int .i64 i]] w fun e w'=>∃v,e= .returned v∧RowI w' w.heap.size 5 .u8 v [15,(64+i)%256,mrB d s]∧Below w.heap.size w w':=by
 have HB:=hid ((Below.refl w.heap.size w).alloc (Nat.le_refl _) (.cells #[.int .i64 o,.int .i64 d,.int .i64 s,.int .i64 z,.int .i64 i] 89));obtain⟨W0,hW0⟩:∃W,w.alloc (.cells #[.int .i64 o,.int .i64 d,.int .i64 s,.int .i64 z,.int .i64 i] 89)=W:=⟨_,rfl⟩
 have q1:∀wk,Since W0 wk→wk.cell? ⟨w.heap.size,1,none⟩=some (.int .i64 d):=fun wk h=>h.cell (by rw[←hW0];simp[go_sem])
 have q2:∀wk,Since W0 wk→wk.cell? ⟨w.heap.size,2,none⟩=some (.int .i64 s):=fun wk h=>h.cell (by rw[←hW0];simp[go_sem])
 have q4:∀wk,Since W0 wk→wk.cell? ⟨w.heap.size,4,none⟩=some (.int .i64 i):=fun wk h=>h.cell (by rw[←hW0];simp[go_sem])
 have h00:=Since.refl W0;rw[hW0]at HB;have C0:=hid (fun w=>O4 d s w);generalize mrB d s=q at*
 go_enter func192,ntmps192;exact A8z
theorem A5c(o d s z i:Int)(w:World)(h1:0≤s)(h2:s≤15):Calls prog 194 #[.agg #[.int .i64 o,.int .i64 d,.int .i64 s,.int .i64 z,.int .i64 i]] w fun e w'=>∃v,e= .returned v∧RowI w' w.heap.size 5 .u8 v [(112+s)%256]∧Below w.heap.size w w':=by
 have HB:=hid ((Below.refl w.heap.size w).alloc (Nat.le_refl _) (.cells #[.int .i64 o,.int .i64 d,.int .i64 s,.int .i64 z,.int .i64 i] 89));obtain⟨W0,hW0⟩:∃W,w.alloc (.cells #[.int .i64 o,.int .i64 d,.int .i64 s,.int .i64 z,.int .i64 i] 89)=W:=⟨_,rfl⟩
 have q2:∀wk,Since W0 wk→wk.cell? ⟨w.heap.size,2,none⟩=some (.int .i64 s):=fun wk h=>h.cell (by rw[←hW0];simp[go_sem])
 have h00:=Since.refl W0;rw[hW0]at HB;go_enter func194,ntmps194;go_wp2_with fail
 go_ret;exact⟨_,rfl,RowI.to (RowI.lit W0 #[_] [_] .u8 5 w.heap.size 1 HB.out.size rfl rfl (by unfold maxLen;simp)) (by first|rfl|((try simp only[List.cons.injEq,and_true,true_and,IntKind.wrap_u8,IntKind.wrap_i64]);omega)),HB.out.trans (((Below.refl _ W0).alloc (Nat.le_refl _) _).mono HB.out.size)⟩
theorem A5d(o d s z i:Int)(w:World)(h1:0≤s)(h2:s≤15):Calls prog 195 #[.agg #[.int .i64 o,.int .i64 d,.int .i64 s,.int .i64 z,.int .i64 i]] w fun e w'=>∃v,e= .returned v∧RowI w' w.heap.size 5 .u8 v [15,(128+s)%256]∧Below w.heap.size w w':=by
 have HB:=hid ((Below.refl w.heap.size w).alloc (Nat.le_refl _) (.cells #[.int .i64 o,.int .i64 d,.int .i64 s,.int .i64 z,.int .i64 i] 89));obtain⟨W0,hW0⟩:∃W,w.alloc (.cells #[.int .i64 o,.int .i64 d,.int .i64 s,.int .i64 z,.int .i64 i] 89)=W:=⟨_,rfl⟩
 have q2:∀wk,Since W0 wk→wk.cell? ⟨w.heap.size,2,none⟩=some (.int .i64 s):=fun wk h=>h.cell (by rw[←hW0];simp[go_sem])
 have h00:=Since.refl W0;rw[hW0]at HB;go_enter func195,ntmps195;go_wp2_with fail
 go_ret;exact⟨_,rfl,RowI.to (RowI.lit W0 #[_,_] [_,_] .u8 5 w.heap.size 2 HB.out.size rfl rfl (by unfold maxLen;simp)) (by first|rfl|((try simp only[List.cons.injEq,and_true,true_and,IntKind.wrap_u8,IntKind.wrap_i64]);omega)),HB.out.trans (((Below.refl _ W0).alloc (Nat.le_refl _) _).mono HB.out.size)⟩
theorem A5a(o d s z i:Int)(w:World):Calls prog 197 #[.agg #[.int .i64 o,.int .i64 d,.int .i64 s,.int .i64 z,.int .i64 i]] w fun e w'=>∃v,e= .returned v∧RowI w' w.heap.size 5 .u8 v [235]∧Below w.heap.size w w':=by
 have HB:=hid ((Below.refl w.heap.size w).alloc (Nat.le_refl _) (.cells #[.int .i64 o,.int .i64 d,.int .i64 s,.int .i64 z,.int .i64 i] 89));obtain⟨W0,hW0⟩:∃W,w.alloc (.cells #[.int .i64 o,.int .i64 d,.int .i64 s,.int .i64 z,.int .i64 i] 89)=W:=⟨_,rfl⟩
 have q2:∀wk,Since W0 wk→wk.cell? ⟨w.heap.size,2,none⟩=some (.int .i64 s):=fun wk h=>h.cell (by rw[←hW0];simp[go_sem])
 have h00:=Since.refl W0;rw[hW0]at HB;go_enter func197,ntmps197;go_wp2_with fail
 go_ret;exact⟨_,rfl,RowI.to (RowI.lit W0 #[_] [_] .u8 5 w.heap.size 1 HB.out.size rfl rfl (by unfold maxLen;simp)) (rfl),HB.out.trans (((Below.refl _ W0).alloc (Nat.le_refl _) _).mono HB.out.size)⟩
theorem A5b(o d s z i:Int)(w:World):Calls prog 198 #[.agg #[.int .i64 o,.int .i64 d,.int .i64 s,.int .i64 z,.int .i64 i]] w fun e w'=>∃v,e= .returned v∧RowI w' w.heap.size 5 .u8 v [233]∧Below w.heap.size w w':=by
 have HB:=hid ((Below.refl w.heap.size w).alloc (Nat.le_refl _) (.cells #[.int .i64 o,.int .i64 d,.int .i64 s,.int .i64 z,.int .i64 i] 89));obtain⟨W0,hW0⟩:∃W,w.alloc (.cells #[.int .i64 o,.int .i64 d,.int .i64 s,.int .i64 z,.int .i64 i] 89)=W:=⟨_,rfl⟩
 have q2:∀wk,Since W0 wk→wk.cell? ⟨w.heap.size,2,none⟩=some (.int .i64 s):=fun wk h=>h.cell (by rw[←hW0];simp[go_sem])
 have h00:=Since.refl W0;rw[hW0]at HB;go_enter func198,ntmps198;go_wp2_with fail
 go_ret;exact⟨_,rfl,RowI.to (RowI.lit W0 #[_] [_] .u8 5 w.heap.size 1 HB.out.size rfl rfl (by unfold maxLen;simp)) (rfl),HB.out.trans (((Below.refl _ W0).alloc (Nat.le_refl _) _).mono HB.out.size)⟩
end Go.Proofs.YtajljbmeaeeknaaGreat
