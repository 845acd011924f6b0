/- -/
import Derived.Deep.CutRange
import Derived.Test.YtdojafpjipcbjaaGreatK8
import Derived.Test.YtdojafpjipcbjaaGreatK12
open Go.Proofs.Tryz
open Go.Lib (hid)
set_option maxRecDepth 100000
namespace Go.Proofs.YtdojafpjipcbjaaGreat
open Go.RowKit
set_option linter.unusedVariables false
set_option linter.unusedSimpArgs false
theorem B0f{p:Prop}(h:p:=by
 skip
 go_wp2_with((with_reducible first|refine(CisLs.out _).mono ?_|refine(CisRd.out _).mono ?_|refine(CisRs.out _).mono ?_|refine(CisW4i.out _).mono ?_);rintro e w' ⟨rfl,rfl⟩)
 go_meet
 case rel=>exact⟨by simp[*],rfl⟩):p:=h
theorem A0o{p:Prop}(h:p:=by
 skip
 go_wp2_with((with_reducible first|refine(CisRd.out _).mono ?_|refine(CisRs.out _).mono ?_|refine(CisW4i.out _).mono ?_);rintro e w' ⟨rfl,rfl⟩)
 go_meet
 case rel=>exact⟨by simp[*],rfl⟩):p:=h
theorem A8S{p:Prop}(h:p:=by
 have HOK:Hid (okI ⟨3,d,s,z,i⟩=false):=by show _=_;have h:=HK.out;(try simp only[Bool.true_and,Bool.false_and,Bool.and_true,Bool.and_false]at h);exact h
 go_wp2_with(first|((with_reducible first|refine(CisRd.out _).mono ?_|refine(CisRs.out _).mono ?_|refine(CisW4i.out _).mono ?_);rintro e w' ⟨rfl,rfl⟩)|((with_reducible refine(CY.out _ kp).mono ?_);rintro e w2 ⟨v2,rfl,hr2,hb2,hs2⟩;have HR2:=hid hr2;clear hr2;have q0b:=q0 _ hs2;have q1b:=q1 _ hs2;have q2b:=q2 _ hs2;have q3b:=q3 _ hs2;have q4b:=q4 _ hs2;have HBW2:=hid hb2;have HSI2:=hid hs2;obtain⟨a2,n2,rfl⟩:=HR2.out.shape;clear hb2)|(at_builtin;refine E5 rfl _ _ rfl W0.heap.size _ [137] rfl (RowI.below (RowI.lit W0 #[.int .u8 137] [137] .u8 5 W0.heap.size 1 (Nat.le_refl _) rfl rfl (by unfold maxLen;simp)) HBW2.out) _ (mmB s d i) rfl (HR2.out.ints HY5.out) HPOS.out HLEN.out HSI2.out.size ?_;intro v9 w9 hr9 hb9;have HR9:=hid hr9;have hs9:=B3 HSI2.out hb9;clear hr9;have q0c:=q0 _ hs9;have q1c:=q1 _ hs9;have q2c:=q2 _ hs9;have q3c:=q3 _ hs9;have q4c:=q4 _ hs9))
 all_goals go_ret2
 all_goals exact MRet.mk HOK.out.symm (fun h=>absurd h (by rw[HOK.out];simp)) (A2 HB.out (by first|exact hs9|exact A9 hs9 1))):p:=h
theorem A8T{p:Prop}(h:p:=by
 have HOK:Hid (okI ⟨2,d,s,z,i⟩=false):=by show _=_;have h:=HK.out;(try simp only[Bool.true_and,Bool.false_and,Bool.and_true,Bool.and_false]at h);exact h
 go_wp2_with(first|((with_reducible first|refine(CisRd.out _).mono ?_|refine(CisRs.out _).mono ?_|refine(CisW4i.out _).mono ?_);rintro e w' ⟨rfl,rfl⟩)|((with_reducible refine(CY.out _ kp).mono ?_);rintro e w2 ⟨v2,rfl,hr2,hb2,hs2⟩;have HR2:=hid hr2;clear hr2;have q0b:=q0 _ hs2;have q1b:=q1 _ hs2;have q2b:=q2 _ hs2;have q3b:=q3 _ hs2;have q4b:=q4 _ hs2;have HBW2:=hid hb2;have HSI2:=hid hs2;obtain⟨a2,n2,rfl⟩:=HR2.out.shape;clear hb2)|(at_builtin;refine E5 rfl _ _ rfl W0.heap.size _ [139] rfl (RowI.below (RowI.lit W0 #[.int .u8 139] [139] .u8 5 W0.heap.size 1 (Nat.le_refl _) rfl rfl (by unfold maxLen;simp)) HBW2.out) _ (mmB d s i) rfl (HR2.out.ints HY5.out) HPOS.out HLEN.out HSI2.out.size ?_;intro v9 w9 hr9 hb9;have HR9:=hid hr9;have hs9:=B3 HSI2.out hb9;clear hr9;have q0c:=q0 _ hs9;have q1c:=q1 _ hs9;have q2c:=q2 _ hs9;have q3c:=q3 _ hs9;have q4c:=q4 _ hs9))
 all_goals go_ret2
 all_goals exact MRet.mk HOK.out.symm (fun h=>absurd h (by rw[HOK.out];simp)) (A2 HB.out (by first|exact hs9|exact A9 hs9 1))):p:=h
theorem A8U{p:Prop}(h:p:=by
 have HOK:Hid (okI ⟨5,d,s,z,i⟩=false):=by show _=_;have h:=HK.out;(try simp only[Bool.true_and,Bool.false_and,Bool.and_true,Bool.and_false]at h);exact h
 go_wp2_with(first|((with_reducible first|refine(CisRd.out _).mono ?_|refine(CisRs.out _).mono ?_|refine(CisW4i.out _).mono ?_);rintro e w' ⟨rfl,rfl⟩)|((with_reducible refine(CY.out _ kp).mono ?_);rintro e w2 ⟨v2,rfl,hr2,hb2,hs2⟩;have HR2:=hid hr2;clear hr2;have q0b:=q0 _ hs2;have q1b:=q1 _ hs2;have q2b:=q2 _ hs2;have q3b:=q3 _ hs2;have q4b:=q4 _ hs2;have HBW2:=hid hb2;have HSI2:=hid hs2;obtain⟨a2,n2,rfl⟩:=HR2.out.shape;clear hb2)|(at_builtin;refine E5 rfl _ _ rfl W0.heap.size _ [15,183] rfl (RowI.below (RowI.lit W0 #[.int .u8 15,.int .u8 183] [15,183] .u8 5 W0.heap.size 2 (Nat.le_refl _) rfl rfl (by unfold maxLen;simp)) HBW2.out) _ (mmB d s i) rfl (HR2.out.ints HY5.out) HPOS.out HLEN.out HSI2.out.size ?_;intro v9 w9 hr9 hb9;have HR9:=hid hr9;have hs9:=B3 HSI2.out hb9;clear hr9;have q0c:=q0 _ hs9;have q1c:=q1 _ hs9;have q2c:=q2 _ hs9;have q3c:=q3 _ hs9;have q4c:=q4 _ hs9))
 all_goals go_ret2
 all_goals exact MRet.mk HOK.out.symm (fun h=>absurd h (by rw[HOK.out];simp)) (A2 HB.out (by first|exact hs9|exact A9 hs9 1))):p:=h
theorem A8V{p:Prop}(h:p:=by
 have HOK:Hid (okI ⟨4,d,s,z,i⟩=false):=by show _=_;have h:=HK.out;(try simp only[Bool.true_and,Bool.false_and,Bool.and_true,Bool.and_false]at h);exact h
 go_wp2_with(first|((with_reducible first|refine(CisRd.out _).mono ?_|refine(CisRs.out _).mono ?_|refine(CisW4i.out _).mono ?_);rintro e w' ⟨rfl,rfl⟩)|((with_reducible refine(CY.out _ kp).mono ?_);rintro e w2 ⟨v2,rfl,hr2,hb2,hs2⟩;have HR2:=hid hr2;clear hr2;have q0b:=q0 _ hs2;have q1b:=q1 _ hs2;have q2b:=q2 _ hs2;have q3b:=q3 _ hs2;have q4b:=q4 _ hs2;have HBW2:=hid hb2;have HSI2:=hid hs2;obtain⟨a2,n2,rfl⟩:=HR2.out.shape;clear hb2)|(at_builtin;refine E5 rfl _ _ rfl W0.heap.size _ [15,182] rfl (RowI.below (RowI.lit W0 #[.int .u8 15,.int .u8 182] [15,182] .u8 5 W0.heap.size 2 (Nat.le_refl _) rfl rfl (by unfold maxLen;simp)) HBW2.out) _ (mmB d s i) rfl (HR2.out.ints HY5.out) HPOS.out HLEN.out HSI2.out.size ?_;intro v9 w9 hr9 hb9;have HR9:=hid hr9;have hs9:=B3 HSI2.out hb9;clear hr9;have q0c:=q0 _ hs9;have q1c:=q1 _ hs9;have q2c:=q2 _ hs9;have q3c:=q3 _ hs9;have q4c:=q4 _ hs9))
 all_goals go_ret2
 all_goals exact MRet.mk HOK.out.symm (fun h=>absurd h (by rw[HOK.out];simp)) (A2 HB.out (by first|exact hs9|exact A9 hs9 1))):p:=h
theorem A5t{p:Prop}(h:p:=by
 have HOK:Hid (okI ⟨6,d,s,z,i⟩=false):=by show _=_;have h:=HK.out;(try simp only[Bool.true_and,Bool.false_and,Bool.and_true,Bool.and_false]at h);exact h
 go_wp2_with(first|((with_reducible first|refine(CisLs.out _).mono ?_|refine(CisRd.out _).mono ?_|refine(CisRs.out _).mono ?_|refine(CisW4i.out _).mono ?_);rintro e w' ⟨rfl,rfl⟩)|((with_reducible refine(CY.out _ kp).mono ?_);rintro e w2 ⟨v2,rfl,hr2,hb2,hs2⟩;have HR2:=hid hr2;clear hr2;have q0b:=q0 _ hs2;have q1b:=q1 _ hs2;have q2b:=q2 _ hs2;have q3b:=q3 _ hs2;have q4b:=q4 _ hs2;have HBW2:=hid hb2;have HSI2:=hid hs2;obtain⟨a2,n2,rfl⟩:=HR2.out.shape;clear hb2)|(at_builtin;refine E5 rfl _ _ rfl W0.heap.size _ [136] rfl (RowI.below (RowI.lit W0 #[.int .u8 136] [136] .u8 5 W0.heap.size 1 (Nat.le_refl _) rfl rfl (by unfold maxLen;simp)) HBW2.out) _ (mmB s d i) rfl (HR2.out.ints HY5.out) HPOS.out HLEN.out HSI2.out.size ?_;intro v9 w9 hr9 hb9;have HR9:=hid hr9;have hs9:=B3 HSI2.out hb9;clear hr9;have q0c:=q0 _ hs9;have q1c:=q1 _ hs9;have q2c:=q2 _ hs9;have q3c:=q3 _ hs9;have q4c:=q4 _ hs9))
 all_goals go_ret2
 all_goals exact MRet.mk HOK.out.symm (fun h=>absurd h (by rw[HOK.out];simp)) (A2 HB.out (by first|exact hs9|exact A9 hs9 1))):p:=h
set_option maxHeartbeats 4000000 in
theorem B0Q(d s z i:Int)(w:World)(hi:I64 i):Calls prog 109 #[.agg #[.int .i64 2,.int .i64 d,.int .i64 s,.int .i64 z,.int .i64 i]] w (MRet ⟨2,d,s,z,i⟩ w):=by
 obtain⟨W0,hW0⟩:∃W,w.alloc (.cells #[.int .i64 2,.int .i64 d,.int .i64 s,.int .i64 z,.int .i64 i] 61)=W:=⟨_,rfl⟩
 have HB:Hid (Below w.heap.size w W0):=by rw[←hW0];exact(Below.refl _ _).alloc (Nat.le_refl _) _
 have hlt0:w.heap.size<W0.heap.size:=by rw[←hW0];simp
 obtain⟨q0,q1,q2,q3,q4⟩:=F5 2 d s z i w W0 hW0;have h00:=Since.refl W0;have q0a:=q0 _ h00;have q1a:=q1 _ h00;have q2a:=q2 _ h00;have q3a:=q3 _ h00;have q4a:=q4 _ h00;have HK:Hid (okI ⟨2,d,s,z,i⟩=(((z==32||z==16))&&((isR d&&isR s))&&((s !=4))&&(C9 i))):=by show _=_;rw[Bool.eq_iff_iff];simp[okI,szI,D2,D9,isM,isR,isL,isC,isB,C9]<;>omega
 have CisRd:=hid (fun w=>B9 d w);have CisRs:=hid (fun w=>B9 s w);have CisW4i:=hid (fun w=>F7 i w);have CY:Hid (∀wk,Since W0 wk→Calls prog 159 #[.int .i64 d,.int .i64 s,.int .i64 i] wk fun e w'=>∃v,e= .returned v∧RowI w' W0.heap.size 5 .u8 v (mmB d s i)∧Below wk.heap.size wk w'∧Since W0 w'):=fun wk h=>J4 (X4 d s i wk hi) h
 have hml:(mmB d s i).length=5:=by simp[mmB,A3]
 have HLEN:Hid (([(0:Int)]).length+(mmB d s i).length≤100000):=by show _≤_;rw[hml];decide
 have HPOS:Hid (0<(mmB d s i).length):=by show 0<_;omega
 have HY5:Hid ((mmB d s i).length≤140737488351232):=by show _≤_;omega
 clear hml;obtain⟨wd,hwd⟩:∃b,(z==32)=b:=⟨_,rfl⟩
 obtain⟨wh,hwh⟩:∃b,(z==16)=b:=⟨_,rfl⟩
 try rw[hwd]at HK
 try rw[hwh]at HK
 obtain⟨rd,hrd⟩:∃b,isR d=b:=⟨_,rfl⟩
 rw[hrd]at CisRd;obtain⟨rs,hrs⟩:∃b,isR s=b:=⟨_,rfl⟩
 rw[hrs]at CisRs
 try rw[hrd]at HK
 try rw[hrs]at HK
 have HRD:=hid hrd;have HRS:=hid hrs;clear hrd hrs;go_enter func109,ntmps109;go_upto_region 2 with((with_reducible first|refine(CisRd.out _).mono ?_|refine(CisRs.out _).mono ?_|refine(CisW4i.out _).mono ?_);rintro e w' ⟨rfl,rfl⟩)
 go_cut[5]from 11 to 16 (fun b wx=>b= .bool (wd||wh)∧W0=wx)
 case first=>
  cases wd
  all_goals
  exact A0o
 case rest=>
  obtain⟨rfl,rfl⟩:=hcut;go_upto_region 3 with((with_reducible first|refine(CisRd.out _).mono ?_|refine(CisRs.out _).mono ?_|refine(CisW4i.out _).mono ?_);rintro e w' ⟨rfl,rfl⟩)
  go_cut[6]from 17 to 24 (fun b wx=>b= .bool (rd&&rs)∧W0=wx)
  case first=>
   cases rd
   all_goals
   exact A0o
  case rest=>
   obtain⟨rfl,rfl⟩:=hcut;generalize(wd||wh)=bt at*
   generalize(rd&&rs)=rg at*
   cases bt
   ·skip
    exact A8T
   ·skip
    cases rg
    ·skip
     exact A8T
    ·skip
     cases hnes:(s !=4)
     ·rw[hnes]at HK;exact A8T
     ·rw[hnes]at HK;have HOK:Hid (okI ⟨2,d,s,z,i⟩=C9 i):=by show _=_;have h:=HK.out;(try simp only[Bool.true_and,Bool.false_and,Bool.and_true,Bool.and_false]at h);exact h
      go_wp2_with(first|((with_reducible first|refine(CisRd.out _).mono ?_|refine(CisRs.out _).mono ?_|refine(CisW4i.out _).mono ?_);rintro e w' ⟨rfl,rfl⟩)|((with_reducible refine(CY.out _ kp).mono ?_);rintro e w2 ⟨v2,rfl,hr2,hb2,hs2⟩;have HR2:=hid hr2;clear hr2;have q0b:=q0 _ hs2;have q1b:=q1 _ hs2;have q2b:=q2 _ hs2;have q3b:=q3 _ hs2;have q4b:=q4 _ hs2;have HBW2:=hid hb2;have HSI2:=hid hs2;obtain⟨a2,n2,rfl⟩:=HR2.out.shape;clear hb2)|(at_builtin;refine E5 rfl _ _ rfl W0.heap.size _ [139] rfl (RowI.below (RowI.lit W0 #[.int .u8 139] [139] .u8 5 W0.heap.size 1 (Nat.le_refl _) rfl rfl (by unfold maxLen;simp)) HBW2.out) _ (mmB d s i) rfl (HR2.out.ints HY5.out) HPOS.out HLEN.out HSI2.out.size ?_;intro v9 w9 hr9 hb9;have HR9:=hid hr9;have hs9:=B3 HSI2.out hb9;clear hr9;have q0c:=q0 _ hs9;have q1c:=q1 _ hs9;have q2c:=q2 _ hs9;have q3c:=q3 _ hs9;have q4c:=q4 _ hs9))
      all_goals go_ret2
      all_goals exact MRet.mk HOK.out.symm (fun h=>RowI.to (RowI.mono HR9.out HB.out.size) (by first|rfl|(have hb1:=B2 h;simp[D2,D9,isR,isM,isL,isC,isB,C9,inZ]at hb1;simp[A5,IntKind.wrap_u8,IntKind.wrap_i64]<;>omega))) (A2 HB.out (by first|exact hs9|exact A9 hs9 1))
set_option maxHeartbeats 4000000 in
theorem B0P(d s z i:Int)(w:World)(hi:I64 i):Calls prog 109 #[.agg #[.int .i64 3,.int .i64 d,.int .i64 s,.int .i64 z,.int .i64 i]] w (MRet ⟨3,d,s,z,i⟩ w):=by
 obtain⟨W0,hW0⟩:∃W,w.alloc (.cells #[.int .i64 3,.int .i64 d,.int .i64 s,.int .i64 z,.int .i64 i] 61)=W:=⟨_,rfl⟩
 have HB:Hid (Below w.heap.size w W0):=by rw[←hW0];exact(Below.refl _ _).alloc (Nat.le_refl _) _
 have hlt0:w.heap.size<W0.heap.size:=by rw[←hW0];simp
 obtain⟨q0,q1,q2,q3,q4⟩:=F5 3 d s z i w W0 hW0;have h00:=Since.refl W0;have q0a:=q0 _ h00;have q1a:=q1 _ h00;have q2a:=q2 _ h00;have q3a:=q3 _ h00;have q4a:=q4 _ h00;have HK:Hid (okI ⟨3,d,s,z,i⟩=(((z==32||z==16))&&((isR d&&isR s))&&((d !=4))&&(C9 i))):=by show _=_;rw[Bool.eq_iff_iff];simp[okI,szI,D2,D9,isM,isR,isL,isC,isB,C9]<;>omega
 have CisRd:=hid (fun w=>B9 d w);have CisRs:=hid (fun w=>B9 s w);have CisW4i:=hid (fun w=>F7 i w);have CY:Hid (∀wk,Since W0 wk→Calls prog 159 #[.int .i64 s,.int .i64 d,.int .i64 i] wk fun e w'=>∃v,e= .returned v∧RowI w' W0.heap.size 5 .u8 v (mmB s d i)∧Below wk.heap.size wk w'∧Since W0 w'):=fun wk h=>J4 (X4 s d i wk hi) h
 have hml:(mmB s d i).length=5:=by simp[mmB,A3]
 have HLEN:Hid (([(0:Int)]).length+(mmB s d i).length≤100000):=by show _≤_;rw[hml];decide
 have HPOS:Hid (0<(mmB s d i).length):=by show 0<_;omega
 have HY5:Hid ((mmB s d i).length≤140737488351232):=by show _≤_;omega
 clear hml;obtain⟨wd,hwd⟩:∃b,(z==32)=b:=⟨_,rfl⟩
 obtain⟨wh,hwh⟩:∃b,(z==16)=b:=⟨_,rfl⟩
 try rw[hwd]at HK
 try rw[hwh]at HK
 obtain⟨rd,hrd⟩:∃b,isR d=b:=⟨_,rfl⟩
 rw[hrd]at CisRd;obtain⟨rs,hrs⟩:∃b,isR s=b:=⟨_,rfl⟩
 rw[hrs]at CisRs
 try rw[hrd]at HK
 try rw[hrs]at HK
 have HRD:=hid hrd;have HRS:=hid hrs;clear hrd hrs;go_enter func109,ntmps109;go_upto_region 2 with((with_reducible first|refine(CisRd.out _).mono ?_|refine(CisRs.out _).mono ?_|refine(CisW4i.out _).mono ?_);rintro e w' ⟨rfl,rfl⟩)
 go_cut[5]from 11 to 16 (fun b wx=>b= .bool (wd||wh)∧W0=wx)
 case first=>
  cases wd
  all_goals
  exact A0o
 case rest=>
  obtain⟨rfl,rfl⟩:=hcut;go_upto_region 3 with((with_reducible first|refine(CisRd.out _).mono ?_|refine(CisRs.out _).mono ?_|refine(CisW4i.out _).mono ?_);rintro e w' ⟨rfl,rfl⟩)
  go_cut[6]from 17 to 24 (fun b wx=>b= .bool (rd&&rs)∧W0=wx)
  case first=>
   cases rd
   all_goals
   exact A0o
  case rest=>
   obtain⟨rfl,rfl⟩:=hcut;generalize(wd||wh)=bt at*
   generalize(rd&&rs)=rg at*
   cases bt
   ·skip
    exact A8S
   ·skip
    cases rg
    ·skip
     exact A8S
    ·skip
     cases hned:(d !=4)
     ·rw[hned]at HK;exact A8S
     ·rw[hned]at HK;have HOK:Hid (okI ⟨3,d,s,z,i⟩=C9 i):=by show _=_;have h:=HK.out;(try simp only[Bool.true_and,Bool.false_and,Bool.and_true,Bool.and_false]at h);exact h
      go_wp2_with(first|((with_reducible first|refine(CisRd.out _).mono ?_|refine(CisRs.out _).mono ?_|refine(CisW4i.out _).mono ?_);rintro e w' ⟨rfl,rfl⟩)|((with_reducible refine(CY.out _ kp).mono ?_);rintro e w2 ⟨v2,rfl,hr2,hb2,hs2⟩;have HR2:=hid hr2;clear hr2;have q0b:=q0 _ hs2;have q1b:=q1 _ hs2;have q2b:=q2 _ hs2;have q3b:=q3 _ hs2;have q4b:=q4 _ hs2;have HBW2:=hid hb2;have HSI2:=hid hs2;obtain⟨a2,n2,rfl⟩:=HR2.out.shape;clear hb2)|(at_builtin;refine E5 rfl _ _ rfl W0.heap.size _ [137] rfl (RowI.below (RowI.lit W0 #[.int .u8 137] [137] .u8 5 W0.heap.size 1 (Nat.le_refl _) rfl rfl (by unfold maxLen;simp)) HBW2.out) _ (mmB s d i) rfl (HR2.out.ints HY5.out) HPOS.out HLEN.out HSI2.out.size ?_;intro v9 w9 hr9 hb9;have HR9:=hid hr9;have hs9:=B3 HSI2.out hb9;clear hr9;have q0c:=q0 _ hs9;have q1c:=q1 _ hs9;have q2c:=q2 _ hs9;have q3c:=q3 _ hs9;have q4c:=q4 _ hs9))
      all_goals go_ret2
      all_goals exact MRet.mk HOK.out.symm (fun h=>RowI.to (RowI.mono HR9.out HB.out.size) (by first|rfl|(have hb1:=B2 h;simp[D2,D9,isR,isM,isL,isC,isB,C9,inZ]at hb1;simp[A5,IntKind.wrap_u8,IntKind.wrap_i64]<;>omega))) (A2 HB.out (by first|exact hs9|exact A9 hs9 1))
set_option maxHeartbeats 4000000 in
theorem B0O(d s z i:Int)(w:World)(hi:I64 i):Calls prog 109 #[.agg #[.int .i64 4,.int .i64 d,.int .i64 s,.int .i64 z,.int .i64 i]] w (MRet ⟨4,d,s,z,i⟩ w):=by
 obtain⟨W0,hW0⟩:∃W,w.alloc (.cells #[.int .i64 4,.int .i64 d,.int .i64 s,.int .i64 z,.int .i64 i] 61)=W:=⟨_,rfl⟩
 have HB:Hid (Below w.heap.size w W0):=by rw[←hW0];exact(Below.refl _ _).alloc (Nat.le_refl _) _
 have hlt0:w.heap.size<W0.heap.size:=by rw[←hW0];simp
 obtain⟨q0,q1,q2,q3,q4⟩:=F5 4 d s z i w W0 hW0;have h00:=Since.refl W0;have q0a:=q0 _ h00;have q1a:=q1 _ h00;have q2a:=q2 _ h00;have q3a:=q3 _ h00;have q4a:=q4 _ h00;have HK:Hid (okI ⟨4,d,s,z,i⟩=(((z==32))&&((isR d&&isR s))&&((s !=4))&&(C9 i))):=by show _=_;rw[Bool.eq_iff_iff];simp[okI,szI,D2,D9,isM,isR,isL,isC,isB,C9]<;>omega
 have CisRd:=hid (fun w=>B9 d w);have CisRs:=hid (fun w=>B9 s w);have CisW4i:=hid (fun w=>F7 i w);have CY:Hid (∀wk,Since W0 wk→Calls prog 159 #[.int .i64 d,.int .i64 s,.int .i64 i] wk fun e w'=>∃v,e= .returned v∧RowI w' W0.heap.size 5 .u8 v (mmB d s i)∧Below wk.heap.size wk w'∧Since W0 w'):=fun wk h=>J4 (X4 d s i wk hi) h
 have hml:(mmB d s i).length=5:=by simp[mmB,A3]
 have HLEN:Hid (([(0:Int),(0:Int)]).length+(mmB d s i).length≤100000):=by show _≤_;rw[hml];decide
 have HPOS:Hid (0<(mmB d s i).length):=by show 0<_;omega
 have HY5:Hid ((mmB d s i).length≤140737488351232):=by show _≤_;omega
 clear hml;obtain⟨wd,hwd⟩:∃b,(z==32)=b:=⟨_,rfl⟩
 obtain⟨wh,hwh⟩:∃b,(z==16)=b:=⟨_,rfl⟩
 try rw[hwd]at HK
 try rw[hwh]at HK
 obtain⟨rd,hrd⟩:∃b,isR d=b:=⟨_,rfl⟩
 rw[hrd]at CisRd;obtain⟨rs,hrs⟩:∃b,isR s=b:=⟨_,rfl⟩
 rw[hrs]at CisRs
 try rw[hrd]at HK
 try rw[hrs]at HK
 have HRD:=hid hrd;have HRS:=hid hrs;clear hrd hrs;go_enter func109,ntmps109;go_upto_region 2 with((with_reducible first|refine(CisRd.out _).mono ?_|refine(CisRs.out _).mono ?_|refine(CisW4i.out _).mono ?_);rintro e w' ⟨rfl,rfl⟩)
 go_cut[5]from 11 to 16 (fun b wx=>b= .bool (wd||wh)∧W0=wx)
 case first=>
  cases wd
  all_goals
  exact A0o
 case rest=>
  obtain⟨rfl,rfl⟩:=hcut;go_upto_region 3 with((with_reducible first|refine(CisRd.out _).mono ?_|refine(CisRs.out _).mono ?_|refine(CisW4i.out _).mono ?_);rintro e w' ⟨rfl,rfl⟩)
  go_cut[6]from 17 to 24 (fun b wx=>b= .bool (rd&&rs)∧W0=wx)
  case first=>
   cases rd
   all_goals
   exact A0o
  case rest=>
   obtain⟨rfl,rfl⟩:=hcut;generalize(wd||wh)=bt at*
   generalize(rd&&rs)=rg at*
   cases wd
   ·skip
    exact A8V
   ·skip
    cases rg
    ·skip
     exact A8V
    ·skip
     cases hnes:(s !=4)
     ·rw[hnes]at HK;exact A8V
     ·rw[hnes]at HK;have HOK:Hid (okI ⟨4,d,s,z,i⟩=C9 i):=by show _=_;have h:=HK.out;(try simp only[Bool.true_and,Bool.false_and,Bool.and_true,Bool.and_false]at h);exact h
      go_wp2_with(first|((with_reducible first|refine(CisRd.out _).mono ?_|refine(CisRs.out _).mono ?_|refine(CisW4i.out _).mono ?_);rintro e w' ⟨rfl,rfl⟩)|((with_reducible refine(CY.out _ kp).mono ?_);rintro e w2 ⟨v2,rfl,hr2,hb2,hs2⟩;have HR2:=hid hr2;clear hr2;have q0b:=q0 _ hs2;have q1b:=q1 _ hs2;have q2b:=q2 _ hs2;have q3b:=q3 _ hs2;have q4b:=q4 _ hs2;have HBW2:=hid hb2;have HSI2:=hid hs2;obtain⟨a2,n2,rfl⟩:=HR2.out.shape;clear hb2)|(at_builtin;refine E5 rfl _ _ rfl W0.heap.size _ [15,182] rfl (RowI.below (RowI.lit W0 #[.int .u8 15,.int .u8 182] [15,182] .u8 5 W0.heap.size 2 (Nat.le_refl _) rfl rfl (by unfold maxLen;simp)) HBW2.out) _ (mmB d s i) rfl (HR2.out.ints HY5.out) HPOS.out HLEN.out HSI2.out.size ?_;intro v9 w9 hr9 hb9;have HR9:=hid hr9;have hs9:=B3 HSI2.out hb9;clear hr9;have q0c:=q0 _ hs9;have q1c:=q1 _ hs9;have q2c:=q2 _ hs9;have q3c:=q3 _ hs9;have q4c:=q4 _ hs9))
      all_goals go_ret2
      all_goals exact MRet.mk HOK.out.symm (fun h=>RowI.to (RowI.mono HR9.out HB.out.size) (by first|rfl|(have hb1:=B2 h;simp[D2,D9,isR,isM,isL,isC,isB,C9,inZ]at hb1;simp[A5,IntKind.wrap_u8,IntKind.wrap_i64]<;>omega))) (A2 HB.out (by first|exact hs9|exact A9 hs9 1))
set_option maxHeartbeats 4000000 in
theorem B0N(d s z i:Int)(w:World)(hi:I64 i):Calls prog 109 #[.agg #[.int .i64 5,.int .i64 d,.int .i64 s,.int .i64 z,.int .i64 i]] w (MRet ⟨5,d,s,z,i⟩ w):=by
 obtain⟨W0,hW0⟩:∃W,w.alloc (.cells #[.int .i64 5,.int .i64 d,.int .i64 s,.int .i64 z,.int .i64 i] 61)=W:=⟨_,rfl⟩
 have HB:Hid (Below w.heap.size w W0):=by rw[←hW0];exact(Below.refl _ _).alloc (Nat.le_refl _) _
 have hlt0:w.heap.size<W0.heap.size:=by rw[←hW0];simp
 obtain⟨q0,q1,q2,q3,q4⟩:=F5 5 d s z i w W0 hW0;have h00:=Since.refl W0;have q0a:=q0 _ h00;have q1a:=q1 _ h00;have q2a:=q2 _ h00;have q3a:=q3 _ h00;have q4a:=q4 _ h00;have HK:Hid (okI ⟨5,d,s,z,i⟩=(((z==32))&&((isR d&&isR s))&&((s !=4))&&(C9 i))):=by show _=_;rw[Bool.eq_iff_iff];simp[okI,szI,D2,D9,isM,isR,isL,isC,isB,C9]<;>omega
 have CisRd:=hid (fun w=>B9 d w);have CisRs:=hid (fun w=>B9 s w);have CisW4i:=hid (fun w=>F7 i w);have CY:Hid (∀wk,Since W0 wk→Calls prog 159 #[.int .i64 d,.int .i64 s,.int .i64 i] wk fun e w'=>∃v,e= .returned v∧RowI w' W0.heap.size 5 .u8 v (mmB d s i)∧Below wk.heap.size wk w'∧Since W0 w'):=fun wk h=>J4 (X4 d s i wk hi) h
 have hml:(mmB d s i).length=5:=by simp[mmB,A3]
 have HLEN:Hid (([(0:Int),(0:Int)]).length+(mmB d s i).length≤100000):=by show _≤_;rw[hml];decide
 have HPOS:Hid (0<(mmB d s i).length):=by show 0<_;omega
 have HY5:Hid ((mmB d s i).length≤140737488351232):=by show _≤_;omega
 clear hml;obtain⟨wd,hwd⟩:∃b,(z==32)=b:=⟨_,rfl⟩
 obtain⟨wh,hwh⟩:∃b,(z==16)=b:=⟨_,rfl⟩
 try rw[hwd]at HK
 try rw[hwh]at HK
 obtain⟨rd,hrd⟩:∃b,isR d=b:=⟨_,rfl⟩
 rw[hrd]at CisRd;obtain⟨rs,hrs⟩:∃b,isR s=b:=⟨_,rfl⟩
 rw[hrs]at CisRs
 try rw[hrd]at HK
 try rw[hrs]at HK
 have HRD:=hid hrd;have HRS:=hid hrs;clear hrd hrs;go_enter func109,ntmps109;go_upto_region 2 with((with_reducible first|refine(CisRd.out _).mono ?_|refine(CisRs.out _).mono ?_|refine(CisW4i.out _).mono ?_);rintro e w' ⟨rfl,rfl⟩)
 go_cut[5]from 11 to 16 (fun b wx=>b= .bool (wd||wh)∧W0=wx)
 case first=>
  cases wd
  all_goals
  exact A0o
 case rest=>
  obtain⟨rfl,rfl⟩:=hcut;go_upto_region 3 with((with_reducible first|refine(CisRd.out _).mono ?_|refine(CisRs.out _).mono ?_|refine(CisW4i.out _).mono ?_);rintro e w' ⟨rfl,rfl⟩)
  go_cut[6]from 17 to 24 (fun b wx=>b= .bool (rd&&rs)∧W0=wx)
  case first=>
   cases rd
   all_goals
   exact A0o
  case rest=>
   obtain⟨rfl,rfl⟩:=hcut;generalize(wd||wh)=bt at*
   generalize(rd&&rs)=rg at*
   cases wd
   ·skip
    exact A8U
   ·skip
    cases rg
    ·skip
     exact A8U
    ·skip
     cases hnes:(s !=4)
     ·rw[hnes]at HK;exact A8U
     ·rw[hnes]at HK;have HOK:Hid (okI ⟨5,d,s,z,i⟩=C9 i):=by show _=_;have h:=HK.out;(try simp only[Bool.true_and,Bool.false_and,Bool.and_true,Bool.and_false]at h);exact h
      go_wp2_with(first|((with_reducible first|refine(CisRd.out _).mono ?_|refine(CisRs.out _).mono ?_|refine(CisW4i.out _).mono ?_);rintro e w' ⟨rfl,rfl⟩)|((with_reducible refine(CY.out _ kp).mono ?_);rintro e w2 ⟨v2,rfl,hr2,hb2,hs2⟩;have HR2:=hid hr2;clear hr2;have q0b:=q0 _ hs2;have q1b:=q1 _ hs2;have q2b:=q2 _ hs2;have q3b:=q3 _ hs2;have q4b:=q4 _ hs2;have HBW2:=hid hb2;have HSI2:=hid hs2;obtain⟨a2,n2,rfl⟩:=HR2.out.shape;clear hb2)|(at_builtin;refine E5 rfl _ _ rfl W0.heap.size _ [15,183] rfl (RowI.below (RowI.lit W0 #[.int .u8 15,.int .u8 183] [15,183] .u8 5 W0.heap.size 2 (Nat.le_refl _) rfl rfl (by unfold maxLen;simp)) HBW2.out) _ (mmB d s i) rfl (HR2.out.ints HY5.out) HPOS.out HLEN.out HSI2.out.size ?_;intro v9 w9 hr9 hb9;have HR9:=hid hr9;have hs9:=B3 HSI2.out hb9;clear hr9;have q0c:=q0 _ hs9;have q1c:=q1 _ hs9;have q2c:=q2 _ hs9;have q3c:=q3 _ hs9;have q4c:=q4 _ hs9))
      all_goals go_ret2
      all_goals exact MRet.mk HOK.out.symm (fun h=>RowI.to (RowI.mono HR9.out HB.out.size) (by first|rfl|(have hb1:=B2 h;simp[D2,D9,isR,isM,isL,isC,isB,C9,inZ]at hb1;simp[A5,IntKind.wrap_u8,IntKind.wrap_i64]<;>omega))) (A2 HB.out (by first|exact hs9|exact A9 hs9 1))
set_option maxHeartbeats 4000000 in
theorem B0M(d s z i:Int)(w:World)(hi:I64 i):Calls prog 109 #[.agg #[.int .i64 6,.int .i64 d,.int .i64 s,.int .i64 z,.int .i64 i]] w (MRet ⟨6,d,s,z,i⟩ w):=by
 obtain⟨W0,hW0⟩:∃W,w.alloc (.cells #[.int .i64 6,.int .i64 d,.int .i64 s,.int .i64 z,.int .i64 i] 61)=W:=⟨_,rfl⟩
 have HB:Hid (Below w.heap.size w W0):=by rw[←hW0];exact(Below.refl _ _).alloc (Nat.le_refl _) _
 have hlt0:w.heap.size<W0.heap.size:=by rw[←hW0];simp
 obtain⟨q0,q1,q2,q3,q4⟩:=F5 6 d s z i w W0 hW0;have h00:=Since.refl W0;have q0a:=q0 _ h00;have q1a:=q1 _ h00;have q2a:=q2 _ h00;have q3a:=q3 _ h00;have q4a:=q4 _ h00;have HK:Hid (okI ⟨6,d,s,z,i⟩=(((z==32))&&((isR d&&isR s))&&(isL s)&&((d !=4))&&(C9 i))):=by show _=_;rw[Bool.eq_iff_iff];simp[okI,szI,D2,D9,isM,isR,isL,isC,isB,C9]<;>omega
 have CisLs:=hid (fun w=>y7 s w);have CisRd:=hid (fun w=>B9 d w);have CisRs:=hid (fun w=>B9 s w);have CisW4i:=hid (fun w=>F7 i w);have CY:Hid (∀wk,Since W0 wk→Calls prog 159 #[.int .i64 s,.int .i64 d,.int .i64 i] wk fun e w'=>∃v,e= .returned v∧RowI w' W0.heap.size 5 .u8 v (mmB s d i)∧Below wk.heap.size wk w'∧Since W0 w'):=fun wk h=>J4 (X4 s d i wk hi) h
 have hml:(mmB s d i).length=5:=by simp[mmB,A3]
 have HLEN:Hid (([(0:Int)]).length+(mmB s d i).length≤100000):=by show _≤_;rw[hml];decide
 have HPOS:Hid (0<(mmB s d i).length):=by show 0<_;omega
 have HY5:Hid ((mmB s d i).length≤140737488351232):=by show _≤_;omega
 clear hml;obtain⟨wd,hwd⟩:∃b,(z==32)=b:=⟨_,rfl⟩
 obtain⟨wh,hwh⟩:∃b,(z==16)=b:=⟨_,rfl⟩
 try rw[hwd]at HK
 try rw[hwh]at HK
 obtain⟨rd,hrd⟩:∃b,isR d=b:=⟨_,rfl⟩
 rw[hrd]at CisRd;obtain⟨rs,hrs⟩:∃b,isR s=b:=⟨_,rfl⟩
 rw[hrs]at CisRs
 try rw[hrd]at HK
 try rw[hrs]at HK
 have HRD:=hid hrd;have HRS:=hid hrs;clear hrd hrs;go_enter func109,ntmps109;go_upto_region 2 with((with_reducible first|refine(CisLs.out _).mono ?_|refine(CisRd.out _).mono ?_|refine(CisRs.out _).mono ?_|refine(CisW4i.out _).mono ?_);rintro e w' ⟨rfl,rfl⟩)
 go_cut[5]from 11 to 16 (fun b wx=>b= .bool (wd||wh)∧W0=wx)
 case first=>
  cases wd
  all_goals
  exact B0f
 case rest=>
  obtain⟨rfl,rfl⟩:=hcut;go_upto_region 3 with((with_reducible first|refine(CisLs.out _).mono ?_|refine(CisRd.out _).mono ?_|refine(CisRs.out _).mono ?_|refine(CisW4i.out _).mono ?_);rintro e w' ⟨rfl,rfl⟩)
  go_cut[6]from 17 to 24 (fun b wx=>b= .bool (rd&&rs)∧W0=wx)
  case first=>
   cases rd
   all_goals
   exact B0f
  case rest=>
   obtain⟨rfl,rfl⟩:=hcut;generalize(wd||wh)=bt at*
   generalize(rd&&rs)=rg at*
   cases wd
   ·skip
    exact A5t
   ·skip
    cases rg
    ·skip
     exact A5t
    ·skip
     cases hisLs:isL s
     ·rw[hisLs]at CisLs;rw[hisLs]at HK;have HisLs:=hid hisLs;clear hisLs;exact A5t
     ·rw[hisLs]at CisLs;rw[hisLs]at HK;have HisLs:=hid hisLs;clear hisLs;cases hned:(d !=4)
      ·rw[hned]at HK;exact A5t
      ·rw[hned]at HK;have HOK:Hid (okI ⟨6,d,s,z,i⟩=C9 i):=by show _=_;have h:=HK.out;(try simp only[Bool.true_and,Bool.false_and,Bool.and_true,Bool.and_false]at h);exact h
       go_wp2_with(first|((with_reducible first|refine(CisLs.out _).mono ?_|refine(CisRd.out _).mono ?_|refine(CisRs.out _).mono ?_|refine(CisW4i.out _).mono ?_);rintro e w' ⟨rfl,rfl⟩)|((with_reducible refine(CY.out _ kp).mono ?_);rintro e w2 ⟨v2,rfl,hr2,hb2,hs2⟩;have HR2:=hid hr2;clear hr2;have q0b:=q0 _ hs2;have q1b:=q1 _ hs2;have q2b:=q2 _ hs2;have q3b:=q3 _ hs2;have q4b:=q4 _ hs2;have HBW2:=hid hb2;have HSI2:=hid hs2;obtain⟨a2,n2,rfl⟩:=HR2.out.shape;clear hb2)|(at_builtin;refine E5 rfl _ _ rfl W0.heap.size _ [136] rfl (RowI.below (RowI.lit W0 #[.int .u8 136] [136] .u8 5 W0.heap.size 1 (Nat.le_refl _) rfl rfl (by unfold maxLen;simp)) HBW2.out) _ (mmB s d i) rfl (HR2.out.ints HY5.out) HPOS.out HLEN.out HSI2.out.size ?_;intro v9 w9 hr9 hb9;have HR9:=hid hr9;have hs9:=B3 HSI2.out hb9;clear hr9;have q0c:=q0 _ hs9;have q1c:=q1 _ hs9;have q2c:=q2 _ hs9;have q3c:=q3 _ hs9;have q4c:=q4 _ hs9))
       all_goals go_ret2
       all_goals exact MRet.mk HOK.out.symm (fun h=>RowI.to (RowI.mono HR9.out HB.out.size) (by first|rfl|(have hb1:=B2 h;simp[D2,D9,isR,isM,isL,isC,isB,C9,inZ]at hb1;simp[A5,IntKind.wrap_u8,IntKind.wrap_i64]<;>omega))) (A2 HB.out (by first|exact hs9|exact A9 hs9 1))
theorem B2z{p:Prop}(h:p:=by
 go_wp2_with((with_reducible first|refine(CisRd.out _).mono ?_|refine(CisRs.out _).mono ?_|refine(CMR.out _).mono ?_|refine(CAR.out _).mono ?_|refine(CDI.out _).mono ?_);rintro e w' ⟨rfl,rfl⟩)
 clear hW0;refine wp_region_held_drew (S:=(fun wk=>Since W0 wk)) (by kernel_rfl) kp (fun hHeld=>?_);refine tk 0 ?_;refine tk 1 ?_;refine tk 3 ?_;refine tk 4 ?_;refine tk 5 ?_;refine tk 6 ?_;refine tk 9 ?_;refine rd1 2 (fun K hK=>?_)
 (go_simp;first|((with_reducible first|refine(CisRd.out _).mono ?_|refine(CisRs.out _).mono ?_|refine(CMR.out _).mono ?_|refine(CAR.out _).mono ?_|refine(CDI.out _).mono ?_);rintro e w' ⟨rfl,rfl⟩))
 refine hK.out _ _ kp (fun hHeld=>?_);clear hK K;try go_frame
 refine rd1 7 (fun K hK=>?_)
 (go_simp;first|((with_reducible first|refine(CisRd.out _).mono ?_|refine(CisRs.out _).mono ?_|refine(CMR.out _).mono ?_|refine(CAR.out _).mono ?_|refine(CDI.out _).mono ?_);rintro e w' ⟨rfl,rfl⟩))
 refine hK.out _ _ kp (fun hHeld=>?_);clear hK K;try go_frame
 refine tk 10 ?_;refine sk 11 ?_;refine tk 12 ?_;refine rd1 8 (fun K hK=>?_);go_simp;refine hK.out _ _ kp (fun hHeld=>?_);clear hK K;try go_frame
 refine tk 13 ?_;refine tk 14 ?_;refine wpAnyH_done (by kernel_rfl) ?_ _;go_wp2_with fail
 go_ret2
 exact MRet.mk HOK.out.symm (fun h=>absurd h (by rw[HOK.out];simp)) (J3 HB.out)):p:=h
theorem B3A{p:Prop}(h:p:=by
 go_wp2_with((with_reducible first|refine(CisRd.out _).mono ?_|refine(CisRs.out _).mono ?_|refine(CMR.out _).mono ?_|refine(CAR.out _).mono ?_|refine(CDI.out _).mono ?_);rintro e w' ⟨rfl,rfl⟩)
 clear hW0;refine wp_region_held_drew (S:=(fun wk=>Since W0 wk)) (by kernel_rfl) kp (fun hHeld=>?_);refine tk 0 ?_;refine tk 1 ?_;refine tk 3 ?_;refine tk 4 ?_;refine tk 5 ?_;refine tk 6 ?_;refine tk 9 ?_;refine rd1 2 (fun K hK=>?_)
 (go_simp;first|((with_reducible first|refine(CisRd.out _).mono ?_|refine(CisRs.out _).mono ?_|refine(CMR.out _).mono ?_|refine(CAR.out _).mono ?_|refine(CDI.out _).mono ?_);rintro e w' ⟨rfl,rfl⟩))
 refine hK.out _ _ kp (fun hHeld=>?_);clear hK K;try go_frame
 refine rd1 7 (fun K hK=>?_)
 (go_simp;first|((with_reducible first|refine(CisRd.out _).mono ?_|refine(CisRs.out _).mono ?_|refine(CMR.out _).mono ?_|refine(CAR.out _).mono ?_|refine(CDI.out _).mono ?_);rintro e w' ⟨rfl,rfl⟩))
 refine hK.out _ _ kp (fun hHeld=>?_);clear hK K;try go_frame
 refine tk 10 ?_;refine tk 11 ?_;refine tk 12 ?_;refine rd1 8 (fun K hK=>?_);go_simp;refine hK.out _ _ kp (fun hHeld=>?_);clear hK K;try go_frame
 refine tk 13 ?_;refine tk 14 ?_;refine wpAnyH_done (by kernel_rfl) ?_ _;go_wp2_with fail
 go_ret2
 exact MRet.mk HOK.out.symm (fun h=>RowI.to (RowI.lit W0 #[_,_] [_,_] .u8 5 w.heap.size 2 HB.out.size rfl rfl (by unfold maxLen;simp)) (by first|rfl|(have hb1:=B2 h;simp[D2,D9,isR,isM,isL,isC,isB,C9,inZ]at hb1;simp[A5,IntKind.wrap_u8,IntKind.wrap_i64,N7,I1]<;>omega))) (J3 HB.out)):p:=h
theorem A4S{p:Prop}(h:p:=by
 skip
 go_wp2_with((with_reducible first|refine(CisRd.out _).mono ?_|refine(CisRs.out _).mono ?_|refine(CMR.out _).mono ?_|refine(CAR.out _).mono ?_|refine(CDI.out _).mono ?_);rintro e w' ⟨rfl,rfl⟩)
 go_meet
 case rel=>exact⟨by simp[*],rfl⟩):p:=h
set_option maxHeartbeats 80000000 in
theorem Q8(o D d s z i:Int)(w:World)(ho:(o=7∧D=1)∨(o=8∧D=9)∨(o=9∧D=33)∨(o=10∧D=41)∨(o=11∧D=49)∨(o=12∧D=57)∨(o=13∧D=133))(hi:I64 i):Calls prog 110 #[.agg #[.int .i64 o,.int .i64 d,.int .i64 s,.int .i64 z,.int .i64 i]] w (MRet ⟨o,d,s,z,i⟩ w):=by
 obtain⟨W0,hW0⟩:∃W,w.alloc (.cells #[.int .i64 o,.int .i64 d,.int .i64 s,.int .i64 z,.int .i64 i] 61)=W:=⟨_,rfl⟩
 have HB:Hid (Below w.heap.size w W0):=by rw[←hW0];exact(Below.refl _ _).alloc (Nat.le_refl _) _
 have hlt0:w.heap.size<W0.heap.size:=by rw[←hW0];simp
 obtain⟨q0,q1,q2,q3,q4⟩:=F5 o d s z i w W0 hW0;have h00:=Since.refl W0;have q0a:=q0 _ h00;have q1a:=q1 _ h00;have q2a:=q2 _ h00;have q3a:=q3 _ h00;have q4a:=q4 _ h00;have HK:Hid (okI ⟨o,d,s,z,i⟩=(((z==32||z==16))&&((isR d&&(isR s&&i==0))))):=by show _=_;rcases ho with⟨rfl,rfl⟩|⟨rfl,rfl⟩|⟨rfl,rfl⟩|⟨rfl,rfl⟩|⟨rfl,rfl⟩|⟨rfl,rfl⟩|⟨rfl,rfl⟩<;>rw[Bool.eq_iff_iff]<;>simp[okI,szI,D2,D9,isM,isR,isL,isC,isB,C9]<;>omega
 have CisRd:=hid (fun w=>B9 d w);have CisRs:=hid (fun w=>B9 s w);have CMR:=hid (fun w=>O3 s d w);have CAR:Hid (∀w,Calls prog 154 #[.int .i64 o] w fun e w'=>e= .returned (.int .u8 D)∧w=w'):=hid (fun w=>by have h:=t6 o w (by omega);rwa[show N7 o=D by rcases ho with⟨rfl,rfl⟩|⟨rfl,rfl⟩|⟨rfl,rfl⟩|⟨rfl,rfl⟩|⟨rfl,rfl⟩|⟨rfl,rfl⟩|⟨rfl,rfl⟩<;>rfl]at h);have CDI:Hid (∀w,Calls prog 155 #[.int .i64 o] w fun e w'=>e= .returned (.int .i64 (-1))∧w=w'):=hid (fun w=>by have h:=M6 o w (by omega);rwa[show M7 o= -1 by rcases ho with⟨rfl,rfl⟩|⟨rfl,rfl⟩|⟨rfl,rfl⟩|⟨rfl,rfl⟩|⟨rfl,rfl⟩|⟨rfl,rfl⟩|⟨rfl,rfl⟩<;>rfl]at h);obtain⟨wd,hwd⟩:∃b,(z==32)=b:=⟨_,rfl⟩
 obtain⟨wh,hwh⟩:∃b,(z==16)=b:=⟨_,rfl⟩
 try rw[hwd]at HK
 try rw[hwh]at HK
 obtain⟨rd,hrd⟩:∃b,isR d=b:=⟨_,rfl⟩
 rw[hrd]at CisRd;obtain⟨rs,hrs⟩:∃b,isR s=b:=⟨_,rfl⟩
 rw[hrs]at CisRs
 try rw[hrd]at HK
 try rw[hrs]at HK
 have HRD:=hid hrd;have HRS:=hid hrs;clear hrd hrs;obtain⟨s0,hs0⟩:∃b,(s==0)=b:=⟨_,rfl⟩
 try rw[hs0]at HK
 obtain⟨i0,hi0⟩:∃b,(i==0)=b:=⟨_,rfl⟩
 try rw[hi0]at HK
 rcases ho with⟨rfl,hD⟩|⟨rfl,hD⟩|⟨rfl,hD⟩|⟨rfl,hD⟩|⟨rfl,hD⟩|⟨rfl,hD⟩|⟨rfl,hD⟩
 all_goals
  go_enter func110,ntmps110;go_upto_region 2 with((with_reducible first|refine(CisRd.out _).mono ?_|refine(CisRs.out _).mono ?_|refine(CMR.out _).mono ?_|refine(CAR.out _).mono ?_|refine(CDI.out _).mono ?_);rintro e w' ⟨rfl,rfl⟩)
  go_cut[5]from 13 to 18 (fun b wx=>b= .bool (wd||wh)∧W0=wx)
  case first=>
   cases wd
   all_goals
   exact A4S
  case rest=>
   obtain⟨rfl,rfl⟩:=hcut;go_upto_region 3 with((with_reducible first|refine(CisRd.out _).mono ?_|refine(CisRs.out _).mono ?_|refine(CMR.out _).mono ?_|refine(CAR.out _).mono ?_|refine(CDI.out _).mono ?_);rintro e w' ⟨rfl,rfl⟩)
   go_cut[6]from 19 to 31 (fun b wx=>b= .bool (rd&&(rs&&i0))∧W0=wx)
   case first=>
    cases rd
    ·exact A4S
    ·skip
     cases rs
     all_goals
     exact A4S
   case rest=>
    obtain⟨rfl,rfl⟩:=hcut;go_upto_region 4 with((with_reducible first|refine(CisRd.out _).mono ?_|refine(CisRs.out _).mono ?_|refine(CMR.out _).mono ?_|refine(CAR.out _).mono ?_|refine(CDI.out _).mono ?_);rintro e w' ⟨rfl,rfl⟩)
    go_cut[7]from 32 to 44 (fun b wx=>b= .bool (rd&&(s0&&i0))∧W0=wx)
    case first=>
     cases rd
     ·exact A4S
     ·skip
      cases s0
      all_goals
      exact A4S
    case rest=>
     obtain⟨rfl,rfl⟩:=hcut;generalize(rd&&(s0&&i0))=one at*
     generalize(rd&&(rs&&i0))=rg at*
     generalize(wd||wh)=bt at*
     cases bt
     ·skip
      subst hD;have HOK:=HK.out
      try simp only[Bool.true_and,Bool.false_and,Bool.and_true,Bool.and_false]at HOK
      replace HOK:=hid HOK
      exact B2z
     ·skip
      subst hD;have HOK:=HK.out
      try simp only[Bool.true_and,Bool.false_and,Bool.and_true,Bool.and_false]at HOK
      replace HOK:=hid HOK
      exact B3A
end Go.Proofs.YtdojafpjipcbjaaGreat
