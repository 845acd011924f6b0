/- -/
import Derived.Deep.CutRange
import Derived.Test.YtdojafpjipcbjaaGreatK8
import Derived.Test.YtdojafpjipcbjaaGreatK12
open Go.Proofs.Tryz
open Go.Lib (hid)
set_option maxRecDepth 100000
namespace Go.Proofs.YtdojafpjipcbjaaGreat
open Go.RowKit
set_option linter.unusedVariables false
set_option linter.unusedSimpArgs false
theorem B1B{p:Prop}(h:p:=by
 refine rd1 20 (fun K hK=>?_)
 (go_simp;first|((with_reducible first|refine(CisBi.out _).mono ?_|refine(CisCs.out _).mono ?_);rintro e w' ⟨rfl,rfl⟩))
 refine hK.out _ _ kp (fun hHeld=>?_);clear hK K;try go_frame
 refine tk 21 ?_;refine tk 22 ?_;refine tk 23 ?_;exact A5r
 ):p:=h
theorem A8f{p:Prop}(h:p:=by
 go_wp2_with((with_reducible refine(CisW4i.out _).mono ?_);rintro e w' ⟨rfl,rfl⟩)
 go_meet
 case rel=>exact⟨by simp[*],rfl⟩
 ):p:=h
theorem A8e{p:Prop}(h:p:=by
 go_wp2_with((with_reducible refine(CisBi.out _).mono ?_);rintro e w' ⟨rfl,rfl⟩)
 go_meet
 case rel=>exact⟨by simp[*],rfl⟩
 ):p:=h
theorem A8J{p:Prop}(h:p:=by
 skip
 go_wp2_with((with_reducible first|refine(CisBi.out _).mono ?_|refine(CisCs.out _).mono ?_);rintro e w' ⟨rfl,rfl⟩)
 go_meet
 case rel=>exact⟨by simp[*],rfl⟩):p:=h
theorem A8K{p:Prop}(h:p:=by
 skip
 go_wp2_with((with_reducible first|refine(CisCs.out _).mono ?_|refine(CisW4i.out _).mono ?_);rintro e w' ⟨rfl,rfl⟩)
 go_meet
 case rel=>exact⟨by simp[*],rfl⟩):p:=h
theorem A4Q{p:Prop}(h:p:=by
 refine wpAnyH_done (by kernel_rfl) ?_ _;go_wp2_with fail
 go_ret2
 exact MRet.mk HOK.out.symm (fun h=>absurd h (by rw[HOK.out];simp)) (J3 HB.out)):p:=h
theorem B0W{p:Prop}(h:p:=by
 refine hK.out _ _ kp (fun hHeld=>?_);clear hK K;try go_frame
 refine tk 10 ?_;refine tk 11 ?_;refine tk 12 ?_;refine tk 13 ?_;refine tk 14 ?_;refine tk 15 ?_;refine tk 16 ?_;refine tk 17 ?_;refine rd1 18 (fun K hK=>?_)
 (go_simp;first|((with_reducible first|refine(CisCs.out _).mono ?_|refine(CisW4i.out _).mono ?_);rintro e w' ⟨rfl,rfl⟩)|((with_reducible refine(CY.out _ kp).mono ?_);rintro e w2 ⟨v2,rfl,hr2,hb2,hs2⟩;have HR2:=hid hr2;clear hr2))
 refine hK.out _ _ kp (fun hHeld=>?_);clear hK K;try go_frame
 refine tk 19 ?_;refine tk 20 ?_;refine sk 21 ?_;refine sk 22 ?_;refine sk 23 ?_;refine tk 24 ?_;refine tk 25 ?_;refine tk 26 ?_;refine wpAnyH_done (by kernel_rfl) ?_ _;go_wp2_with fail
 go_ret2
 exact MRet.mk HOK.out.symm (fun h=>absurd h (by rw[HOK.out];simp)) (A2 HB.out (by first|exact hs9|exact A9 hs9 1))):p:=h
theorem A5q{p:Prop}(h:p:=by
 refine sk 16 ?_;refine sk 17 ?_;refine sk 18 ?_;refine tk 19 ?_;refine tk 20 ?_;refine sk 21 ?_;refine sk 22 ?_;refine sk 23 ?_;refine tk 24 ?_;refine tk 25 ?_;refine tk 26 ?_;refine wpAnyH_done (by kernel_rfl) ?_ _;go_wp2_with fail
 go_ret2
 exact MRet.mk HOK.out.symm (fun h=>absurd h (by rw[HOK.out];simp)) (A2 HB.out (by first|exact hs9|exact A9 hs9 1))):p:=h
theorem A5r{p:Prop}(h:p:=by
 refine wpAnyH_done (by kernel_rfl) ?_ _;go_wp2_with fail
 go_ret2
 exact MRet.mk HOK.out.symm (fun h=>RowI.to (RowI.lit W0 #[_,_] [_,_] .u8 5 w.heap.size 2 HB.out.size rfl rfl (by unfold maxLen;simp)) (by first|rfl|(have hb1:=B2 h;simp[D2,D9,isR,isM,isL,isC,isB,C9,inZ]at hb1;simp[A5,IntKind.wrap_u8,IntKind.wrap_i64,N7,I1]<;>omega))) (J3 HB.out)):p:=h
theorem B0X{p:Prop}(h:p:=by
 refine hK.out _ _ kp (fun hHeld=>?_);clear hK K;try go_frame
 refine tk 10 ?_;refine tk 11 ?_;refine tk 12 ?_;refine tk 13 ?_;refine tk 14 ?_;refine tk 15 ?_;refine tk 16 ?_;refine tk 17 ?_;refine rd1 18 (fun K hK=>?_)
 (go_simp;first|((with_reducible first|refine(CisCs.out _).mono ?_|refine(CisW4i.out _).mono ?_);rintro e w' ⟨rfl,rfl⟩)|((with_reducible refine(CY.out _ kp).mono ?_);rintro e w2 ⟨v2,rfl,hr2,hb2,hs2⟩;have HR2:=hid hr2;clear hr2))
 refine hK.out _ _ kp (fun hHeld=>?_);clear hK K;try go_frame
 refine tk 19 ?_;refine tk 20 ?_;refine tk 21 ?_;refine tk 22 ?_;refine rd1 23 (fun K hK=>?_)
 (go_simp;first|((with_reducible first|refine(CisCs.out _).mono ?_|refine(CisW4i.out _).mono ?_);rintro e w' ⟨rfl,rfl⟩)|((with_reducible refine(CY.out _ kp).mono ?_);rintro e w2 ⟨v2,rfl,hr2,hb2,hs2⟩;have HR2:=hid hr2;clear hr2))
 refine hK.out _ _ kp (fun hHeld=>?_);clear hK K;try go_frame
 refine tk 24 ?_;refine tk 25 ?_;refine tk 26 ?_;refine wpAnyH_done (by kernel_rfl) ?_ _;go_wp2_with fail
 go_ret2
 exact MRet.mk HOK.out.symm (fun h=>RowI.to (RowI.mono HR9.out HB.out.size) (by first|rfl|(have hb1:=B2 h;simp[D2,D9,isR,isM,isL,isC,isB,C9,inZ]at hb1;simp[A5,IntKind.wrap_u8,IntKind.wrap_i64,H8.out]<;>omega))) (A2 HB.out (by first|exact hs9|exact A9 hs9 1))):p:=h
theorem A8L{p:Prop}(h:p:=by
 skip
 have HOK:Hid (okI ⟨33,d,s,z,i⟩=false):=by show _=_;have h:=HK.out;(try simp only[Bool.true_and,Bool.false_and,Bool.and_true,Bool.and_false]at h);exact h
 go_wp2_with(first|((with_reducible refine(CisW4i.out _).mono ?_);rintro e w' ⟨rfl,rfl⟩)|((with_reducible refine(CY.out _ kp).mono ?_);rintro e w2 ⟨v2,rfl,hr2,hb2,hs2⟩;have HR2:=hid hr2;clear hr2;have q0b:=q0 _ hs2;have q1b:=q1 _ hs2;have q2b:=q2 _ hs2;have q3b:=q3 _ hs2;have q4b:=q4 _ hs2;have HBW2:=hid hb2;have HSI2:=hid hs2;obtain⟨a2,n2,rfl⟩:=HR2.out.shape;clear hb2)|(at_builtin;refine E5 rfl _ _ rfl W0.heap.size _ [233] rfl (RowI.below (RowI.lit W0 #[.int .u8 233] [233] .u8 5 W0.heap.size 1 (Nat.le_refl _) rfl rfl (by unfold maxLen;simp)) HBW2.out) _ (leB i 4) rfl (HR2.out.ints HY5.out) HPOS.out HLEN.out HSI2.out.size ?_;intro v9 w9 hr9 hb9;have HR9:=hid hr9;have hs9:=B3 HSI2.out hb9;clear hr9;have q0c:=q0 _ hs9;have q1c:=q1 _ hs9;have q2c:=q2 _ hs9;have q3c:=q3 _ hs9;have q4c:=q4 _ hs9))
 all_goals go_ret2
 all_goals exact MRet.mk HOK.out.symm (fun h=>absurd h (by rw[HOK.out];simp)) (A2 HB.out (by first|exact hs9|exact A9 hs9 1))):p:=h
set_option maxHeartbeats 4000000 in
theorem A5l(d s i:Int)(w:World)(hi:I64 i):Calls prog 111 #[.agg #[.int .i64 32,.int .i64 d,.int .i64 s,.int .i64 8,.int .i64 i]] w (MRet ⟨32,d,s,8,i⟩ w):=by
 obtain⟨W0,hW0⟩:∃W,w.alloc (.cells #[.int .i64 32,.int .i64 d,.int .i64 s,.int .i64 8,.int .i64 i] 61)=W:=⟨_,rfl⟩
 have HB:Hid (Below w.heap.size w W0):=by rw[←hW0];exact(Below.refl _ _).alloc (Nat.le_refl _) _
 have hlt0:w.heap.size<W0.heap.size:=by rw[←hW0];simp
 obtain⟨q0,q1,q2,q3,q4⟩:=F5 32 d s 8 i w W0 hW0;have h00:=Since.refl W0;have q0a:=q0 _ h00;have q1a:=q1 _ h00;have q2a:=q2 _ h00;have q3a:=q3 _ h00;have q4a:=q4 _ h00;have HK:Hid (okI ⟨32,d,s,8,i⟩=(((d==0))&&(isC s)&&(isB i))):=by show _=_;rw[Bool.eq_iff_iff];simp[okI,szI,D2,D9,isM,isR,isL,isC,isB,C9]<;>omega
 have CisBi:=hid (fun w=>t5 i w);have CisCs:=hid (fun w=>R3 s w);obtain⟨s0,hs0⟩:∃b,(s==0)=b:=⟨_,rfl⟩
 try rw[hs0]at HK
 obtain⟨i0,hi0⟩:∃b,(i==0)=b:=⟨_,rfl⟩
 try rw[hi0]at HK
 obtain⟨d0,hd0⟩:∃b,(d==0)=b:=⟨_,rfl⟩
 try rw[hd0]at HK
 go_enter func111,ntmps111;go_upto_region 2 with((with_reducible first|refine(CisBi.out _).mono ?_|refine(CisCs.out _).mono ?_);rintro e w' ⟨rfl,rfl⟩)
 go_cut[5]from 9 to 24 (fun b wx=>b= .bool (d0&&(s0&&(i0&&false)))∧W0=wx)
 case first=>
  cases d0
  ·exact A8J
  ·skip
   cases s0
   ·exact A8J
   ·skip
    cases i0
    all_goals
    exact A8J
 case rest=>
  obtain⟨rfl,rfl⟩:=hcut;cases d0
  ·skip
   have HOK:Hid (okI ⟨32,d,s,8,i⟩=false):=by show _=_;have h:=HK.out;(try simp only[Bool.true_and,Bool.false_and,Bool.and_true,Bool.and_false]at h);exact h
   go_wp2_with((with_reducible first|refine(CisBi.out _).mono ?_|refine(CisCs.out _).mono ?_);rintro e w' ⟨rfl,rfl⟩)
   clear hW0;refine wp_region_held_drew (S:=(fun wk=>Since W0 wk)) (by kernel_rfl) kp (fun hHeld=>?_);refine tk 0 ?_;refine tk 1 ?_;refine tk 2 ?_;refine tk 3 ?_;refine tk 4 ?_;refine tk 5 ?_;refine tk 6 ?_;refine tk 7 ?_;refine tk 9 ?_;refine tk 10 ?_;refine tk 11 ?_;refine tk 12 ?_;refine sk 13 ?_;refine sk 14 ?_;refine sk 15 ?_;refine tk 16 ?_;refine tk 17 ?_;refine sk 18 ?_;refine sk 19 ?_;refine sk 20 ?_;refine tk 21 ?_;refine rd1 8 (fun K hK=>?_);go_simp;refine hK.out _ _ kp (fun hHeld=>?_);clear hK K;try go_frame
   refine tk 22 ?_;refine tk 23 ?_;exact A4Q
  ·skip
   cases hisCs:isC s
   ·rw[hisCs]at CisCs;rw[hisCs]at HK;have HisCs:=hid hisCs;clear hisCs;have HOK:Hid (okI ⟨32,d,s,8,i⟩=false):=by show _=_;have h:=HK.out;(try simp only[Bool.true_and,Bool.false_and,Bool.and_true,Bool.and_false]at h);exact h
    go_wp2_with((with_reducible first|refine(CisBi.out _).mono ?_|refine(CisCs.out _).mono ?_);rintro e w' ⟨rfl,rfl⟩)
    clear hW0;refine wp_region_held_drew (S:=(fun wk=>Since W0 wk)) (by kernel_rfl) kp (fun hHeld=>?_);refine tk 0 ?_;refine tk 1 ?_;refine tk 2 ?_;refine tk 3 ?_;refine tk 4 ?_;refine tk 5 ?_;refine tk 6 ?_;refine tk 7 ?_;refine tk 9 ?_;refine tk 10 ?_;refine tk 11 ?_;refine tk 12 ?_;refine tk 13 ?_;refine tk 14 ?_;refine wpAnyH_ready (rs:=[8,15]) (by kernel_rfl) (by simp) ?_;refine A1 8 rfl (fun K hK=>?_) ?_
    ·go_simp;refine hK.out _ _ kp (fun hHeld=>?_);clear hK K;try go_frame
     refine rd1 15 (fun K hK=>?_)
     (go_simp;first|((with_reducible first|refine(CisBi.out _).mono ?_|refine(CisCs.out _).mono ?_);rintro e w' ⟨rfl,rfl⟩))
     refine hK.out _ _ kp (fun hHeld=>?_);clear hK K;try go_frame
     refine tk 16 ?_;refine tk 17 ?_;refine sk 18 ?_;refine sk 19 ?_;refine sk 20 ?_;refine tk 21 ?_;refine tk 22 ?_;refine tk 23 ?_;exact A4Q
    refine A1 15 rfl (fun K hK=>?_) ?_
    ·(go_simp;first|((with_reducible first|refine(CisBi.out _).mono ?_|refine(CisCs.out _).mono ?_);rintro e w' ⟨rfl,rfl⟩))
     refine hK.out _ _ kp (fun hHeld=>?_);clear hK K;try go_frame
     refine tk 16 ?_;refine tk 17 ?_;refine sk 18 ?_;refine sk 19 ?_;refine sk 20 ?_;refine tk 21 ?_;refine rd1 8 (fun K hK=>?_);go_simp;refine hK.out _ _ kp (fun hHeld=>?_);clear hK K;try go_frame
     refine tk 22 ?_;refine tk 23 ?_;exact A4Q
    exact AllReadyH.nil
   ·rw[hisCs]at CisCs;rw[hisCs]at HK;have HisCs:=hid hisCs;clear hisCs;have HOK:Hid (okI ⟨32,d,s,8,i⟩=isB i):=by show _=_;have h:=HK.out;(try simp only[Bool.true_and,Bool.false_and,Bool.and_true,Bool.and_false]at h);exact h
    go_wp2_with((with_reducible first|refine(CisBi.out _).mono ?_|refine(CisCs.out _).mono ?_);rintro e w' ⟨rfl,rfl⟩)
    clear hW0;refine wp_region_held_drew (S:=(fun wk=>Since W0 wk)) (by kernel_rfl) kp (fun hHeld=>?_);refine tk 0 ?_;refine tk 1 ?_;refine tk 2 ?_;refine tk 3 ?_;refine tk 4 ?_;refine tk 5 ?_;refine tk 6 ?_;refine tk 7 ?_;refine tk 9 ?_;refine tk 10 ?_;refine tk 11 ?_;refine tk 12 ?_;refine tk 13 ?_;refine tk 14 ?_;refine wpAnyH_ready (rs:=[8,15]) (by kernel_rfl) (by simp) ?_;refine A1 8 rfl (fun K hK=>?_) ?_
    ·go_simp;refine hK.out _ _ kp (fun hHeld=>?_);clear hK K;try go_frame
     refine rd1 15 (fun K hK=>?_)
     (go_simp;first|((with_reducible first|refine(CisBi.out _).mono ?_|refine(CisCs.out _).mono ?_);rintro e w' ⟨rfl,rfl⟩))
     refine hK.out _ _ kp (fun hHeld=>?_);clear hK K;try go_frame
     refine tk 16 ?_;refine tk 17 ?_;refine tk 18 ?_;refine tk 19 ?_;exact B1B
    refine A1 15 rfl (fun K hK=>?_) ?_
    ·(go_simp;first|((with_reducible first|refine(CisBi.out _).mono ?_|refine(CisCs.out _).mono ?_);rintro e w' ⟨rfl,rfl⟩))
     refine hK.out _ _ kp (fun hHeld=>?_);clear hK K;try go_frame
     refine tk 16 ?_;refine tk 17 ?_;refine tk 18 ?_;refine tk 19 ?_;refine wpAnyH_ready (rs:=[8,20]) (by kernel_rfl) (by simp) ?_;refine A1 8 rfl (fun K hK=>?_) ?_
     ·go_simp;refine hK.out _ _ kp (fun hHeld=>?_);clear hK K;try go_frame
      exact B1B
     refine A1 20 rfl (fun K hK=>?_) ?_
     ·(go_simp;first|((with_reducible first|refine(CisBi.out _).mono ?_|refine(CisCs.out _).mono ?_);rintro e w' ⟨rfl,rfl⟩))
      refine hK.out _ _ kp (fun hHeld=>?_);clear hK K;try go_frame
      refine tk 21 ?_;refine rd1 8 (fun K hK=>?_);go_simp;refine hK.out _ _ kp (fun hHeld=>?_);clear hK K;try go_frame
      refine tk 22 ?_;refine tk 23 ?_;exact A5r
     exact AllReadyH.nil
    exact AllReadyH.nil
set_option maxHeartbeats 4000000 in
theorem A5m(d s z i:Int)(w:World)(hi:I64 i)(h8:(z==8)=false):Calls prog 111 #[.agg #[.int .i64 32,.int .i64 d,.int .i64 s,.int .i64 z,.int .i64 i]] w (MRet ⟨32,d,s,z,i⟩ w):=by
 obtain⟨W0,hW0⟩:∃W,w.alloc (.cells #[.int .i64 32,.int .i64 d,.int .i64 s,.int .i64 z,.int .i64 i] 61)=W:=⟨_,rfl⟩
 have HB:Hid (Below w.heap.size w W0):=by rw[←hW0];exact(Below.refl _ _).alloc (Nat.le_refl _) _
 have hlt0:w.heap.size<W0.heap.size:=by rw[←hW0];simp
 obtain⟨q0,q1,q2,q3,q4⟩:=F5 32 d s z i w W0 hW0;have h00:=Since.refl W0;have H8:Hid (¬z=8):=by show¬_;simpa using h8
 have q0a:=q0 _ h00;have q1a:=q1 _ h00;have q2a:=q2 _ h00;have q3a:=q3 _ h00;have q4a:=q4 _ h00;have HK:Hid (okI ⟨32,d,s,z,i⟩=(((z==32))&&((d==0))&&(isC s)&&(C9 i))):=by show _=_;have h8b:=h8;simp at h8b;rw[Bool.eq_iff_iff];simp[okI,szI,D2,D9,isM,isR,isL,isC,isB,C9]<;>omega
 have CisCs:=hid (fun w=>R3 s w);have CisW4i:=hid (fun w=>F7 i w);have CY:Hid (∀wk,Since W0 wk→Calls prog 112 #[.int .i64 i,.int .i64 (4)] wk fun e w'=>∃v,e= .returned v∧RowI w' W0.heap.size 5 .u8 v (leB i 4)∧Below wk.heap.size wk w'∧Since W0 w'):=fun wk h=>J4 (J6 i 4 wk hi (by decide)) h
 have hml:(leB i 4).length=4:=by simp[mmB,A3]
 have HLEN:Hid (([(0:Int),(0:Int)]).length+(leB i 4).length≤100000):=by show _≤_;rw[hml];decide
 have HPOS:Hid (0<(leB i 4).length):=by show 0<_;omega
 have HY5:Hid ((leB i 4).length≤140737488351232):=by show _≤_;omega
 clear hml;obtain⟨wd,hwd⟩:∃b,(z==32)=b:=⟨_,rfl⟩
 try rw[hwd]at HK
 obtain⟨s0,hs0⟩:∃b,(s==0)=b:=⟨_,rfl⟩
 try rw[hs0]at HK
 obtain⟨i0,hi0⟩:∃b,(i==0)=b:=⟨_,rfl⟩
 try rw[hi0]at HK
 obtain⟨d0,hd0⟩:∃b,(d==0)=b:=⟨_,rfl⟩
 try rw[hd0]at HK
 go_enter func111,ntmps111;go_upto_region 2 with((with_reducible first|refine(CisCs.out _).mono ?_|refine(CisW4i.out _).mono ?_);rintro e w' ⟨rfl,rfl⟩)
 go_cut[5]from 9 to 24 (fun b wx=>b= .bool (d0&&(s0&&(i0&&wd)))∧W0=wx)
 case first=>
  cases d0
  ·exact A8K
  ·skip
   cases s0
   ·exact A8K
   ·skip
    cases i0
    all_goals
    exact A8K
 case rest=>
  obtain⟨rfl,rfl⟩:=hcut;cases wd
  ·skip
   have HOK:Hid (okI ⟨32,d,s,z,i⟩=false):=by show _=_;have h:=HK.out;(try simp only[Bool.true_and,Bool.false_and,Bool.and_true,Bool.and_false]at h);exact h
   go_wp2_with((with_reducible first|refine(CisCs.out _).mono ?_|refine(CisW4i.out _).mono ?_);rintro e w' ⟨rfl,rfl⟩)
   clear hW0;refine wp_region_held_drew (S:=(fun wk=>Since W0 wk)) (by kernel_rfl) kp (fun hHeld=>?_);refine tk 0 ?_;refine tk 1 ?_;refine tk 2 ?_;refine tk 3 ?_;refine tk 5 ?_;refine tk 6 ?_;refine tk 9 ?_;refine wpAnyH_ready (rs:=[4,7]) (by kernel_rfl) (by simp) ?_;refine A1 4 rfl (fun K hK=>?_) ?_
   ·go_simp;refine hK.out _ _ kp (fun hHeld=>?_);clear hK K;try go_frame
    refine rd1 7 (fun K hK=>?_)
    (go_simp;first|((with_reducible first|refine(CisCs.out _).mono ?_|refine(CisW4i.out _).mono ?_);rintro e w' ⟨rfl,rfl⟩)|((with_reducible refine(CY.out _ kp).mono ?_);rintro e w2 ⟨v2,rfl,hr2,hb2,hs2⟩;have HR2:=hid hr2;clear hr2))
    refine hK.out _ _ kp (fun hHeld=>?_);clear hK K;try go_frame
    refine rd1 8 (fun K hK=>?_)
    first|(refine ap [15,(IntKind.u8.wrap (IntKind.i64.wrap (128+s)))] (RowI.below (rl2 15 (IntKind.u8.wrap (IntKind.i64.wrap (128+s)))) hb2) (leB i 4) (HR2.out.ints HY5.out) HPOS.out HLEN.out hs2.size (fun v9 w9 HR9 hb9 hs9=>?_))|(refine ap [15,(IntKind.u8.wrap (IntKind.i64.wrap (128+s)))] (RowI.below (m3 15 (IntKind.u8.wrap (IntKind.i64.wrap (128+s)))) hb2) (leB i 4) (HR2.out.ints HY5.out) HPOS.out HLEN.out hs2.size (fun v9 w9 HR9 hb9 hs9=>?_))
    refine hK.out _ _ kp (fun hHeld=>?_);clear hK K;try go_frame
    refine tk 10 ?_;refine sk 11 ?_;refine sk 12 ?_;refine sk 13 ?_;refine tk 14 ?_;refine tk 15 ?_;exact A5q
   refine A1 7 rfl (fun K hK=>?_) ?_
   ·(go_simp;first|((with_reducible first|refine(CisCs.out _).mono ?_|refine(CisW4i.out _).mono ?_);rintro e w' ⟨rfl,rfl⟩)|((with_reducible refine(CY.out _ kp).mono ?_);rintro e w2 ⟨v2,rfl,hr2,hb2,hs2⟩;have HR2:=hid hr2;clear hr2))
    refine hK.out _ _ kp (fun hHeld=>?_);clear hK K;try go_frame
    refine rd1 4 (fun K hK=>?_);go_simp;refine hK.out _ _ kp (fun hHeld=>?_);clear hK K;try go_frame
    refine rd1 8 (fun K hK=>?_)
    first|(refine ap [15,(IntKind.u8.wrap (IntKind.i64.wrap (128+s)))] (rl2 15 (IntKind.u8.wrap (IntKind.i64.wrap (128+s)))) (leB i 4) ((HR2.out.below bl1).ints HY5.out) HPOS.out HLEN.out (Nat.le_trans hs2.size (by simp)) (fun v9 w9 HR9 hb9 hs9=>?_))|(refine ap [15,(IntKind.u8.wrap (IntKind.i64.wrap (128+s)))] (m3 15 (IntKind.u8.wrap (IntKind.i64.wrap (128+s)))) (leB i 4) ((HR2.out.below f6).ints HY5.out) HPOS.out HLEN.out (Nat.le_trans hs2.size (by simp)) (fun v9 w9 HR9 hb9 hs9=>?_))
    refine hK.out _ _ kp (fun hHeld=>?_);clear hK K;try go_frame
    refine tk 10 ?_;refine sk 11 ?_;refine sk 12 ?_;refine sk 13 ?_;refine tk 14 ?_;refine tk 15 ?_;exact A5q
   exact AllReadyH.nil
  ·skip
   cases d0
   ·skip
    have HOK:Hid (okI ⟨32,d,s,z,i⟩=false):=by show _=_;have h:=HK.out;(try simp only[Bool.true_and,Bool.false_and,Bool.and_true,Bool.and_false]at h);exact h
    go_wp2_with((with_reducible first|refine(CisCs.out _).mono ?_|refine(CisW4i.out _).mono ?_);rintro e w' ⟨rfl,rfl⟩)
    clear hW0;refine wp_region_held_drew (S:=(fun wk=>Since W0 wk)) (by kernel_rfl) kp (fun hHeld=>?_);refine tk 0 ?_;refine tk 1 ?_;refine tk 2 ?_;refine tk 3 ?_;refine tk 5 ?_;refine tk 6 ?_;refine tk 9 ?_;refine wpAnyH_ready (rs:=[4,7]) (by kernel_rfl) (by simp) ?_;refine A1 4 rfl (fun K hK=>?_) ?_
    ·go_simp;refine hK.out _ _ kp (fun hHeld=>?_);clear hK K;try go_frame
     refine rd1 7 (fun K hK=>?_)
     (go_simp;first|((with_reducible first|refine(CisCs.out _).mono ?_|refine(CisW4i.out _).mono ?_);rintro e w' ⟨rfl,rfl⟩)|((with_reducible refine(CY.out _ kp).mono ?_);rintro e w2 ⟨v2,rfl,hr2,hb2,hs2⟩;have HR2:=hid hr2;clear hr2))
     refine hK.out _ _ kp (fun hHeld=>?_);clear hK K;try go_frame
     refine rd1 8 (fun K hK=>?_)
     first|(refine ap [15,(IntKind.u8.wrap (IntKind.i64.wrap (128+s)))] (RowI.below (rl2 15 (IntKind.u8.wrap (IntKind.i64.wrap (128+s)))) hb2) (leB i 4) (HR2.out.ints HY5.out) HPOS.out HLEN.out hs2.size (fun v9 w9 HR9 hb9 hs9=>?_))|(refine ap [15,(IntKind.u8.wrap (IntKind.i64.wrap (128+s)))] (RowI.below (m3 15 (IntKind.u8.wrap (IntKind.i64.wrap (128+s)))) hb2) (leB i 4) (HR2.out.ints HY5.out) HPOS.out HLEN.out hs2.size (fun v9 w9 HR9 hb9 hs9=>?_))
     refine hK.out _ _ kp (fun hHeld=>?_);clear hK K;try go_frame
     refine tk 10 ?_;refine tk 11 ?_;refine tk 12 ?_;refine tk 13 ?_;refine tk 14 ?_;refine tk 15 ?_;exact A5q
    refine A1 7 rfl (fun K hK=>?_) ?_
    ·(go_simp;first|((with_reducible first|refine(CisCs.out _).mono ?_|refine(CisW4i.out _).mono ?_);rintro e w' ⟨rfl,rfl⟩)|((with_reducible refine(CY.out _ kp).mono ?_);rintro e w2 ⟨v2,rfl,hr2,hb2,hs2⟩;have HR2:=hid hr2;clear hr2))
     refine hK.out _ _ kp (fun hHeld=>?_);clear hK K;try go_frame
     refine rd1 4 (fun K hK=>?_);go_simp;refine hK.out _ _ kp (fun hHeld=>?_);clear hK K;try go_frame
     refine rd1 8 (fun K hK=>?_)
     first|(refine ap [15,(IntKind.u8.wrap (IntKind.i64.wrap (128+s)))] (rl2 15 (IntKind.u8.wrap (IntKind.i64.wrap (128+s)))) (leB i 4) ((HR2.out.below bl1).ints HY5.out) HPOS.out HLEN.out (Nat.le_trans hs2.size (by simp)) (fun v9 w9 HR9 hb9 hs9=>?_))|(refine ap [15,(IntKind.u8.wrap (IntKind.i64.wrap (128+s)))] (m3 15 (IntKind.u8.wrap (IntKind.i64.wrap (128+s)))) (leB i 4) ((HR2.out.below f6).ints HY5.out) HPOS.out HLEN.out (Nat.le_trans hs2.size (by simp)) (fun v9 w9 HR9 hb9 hs9=>?_))
     refine hK.out _ _ kp (fun hHeld=>?_);clear hK K;try go_frame
     refine tk 10 ?_;refine tk 11 ?_;refine tk 12 ?_;refine tk 13 ?_;refine tk 14 ?_;refine tk 15 ?_;exact A5q
    exact AllReadyH.nil
   ·skip
    cases hisCs:isC s
    ·rw[hisCs]at CisCs;rw[hisCs]at HK;have HisCs:=hid hisCs;clear hisCs;have HOK:Hid (okI ⟨32,d,s,z,i⟩=false):=by show _=_;have h:=HK.out;(try simp only[Bool.true_and,Bool.false_and,Bool.and_true,Bool.and_false]at h);exact h
     go_wp2_with((with_reducible first|refine(CisCs.out _).mono ?_|refine(CisW4i.out _).mono ?_);rintro e w' ⟨rfl,rfl⟩)
     clear hW0;refine wp_region_held_drew (S:=(fun wk=>Since W0 wk)) (by kernel_rfl) kp (fun hHeld=>?_);refine tk 0 ?_;refine tk 1 ?_;refine tk 2 ?_;refine tk 3 ?_;refine tk 5 ?_;refine tk 6 ?_;refine tk 9 ?_;refine wpAnyH_ready (rs:=[4,7]) (by kernel_rfl) (by simp) ?_;refine A1 4 rfl (fun K hK=>?_) ?_
     ·go_simp;refine hK.out _ _ kp (fun hHeld=>?_);clear hK K;try go_frame
      refine rd1 7 (fun K hK=>?_)
      (go_simp;first|((with_reducible first|refine(CisCs.out _).mono ?_|refine(CisW4i.out _).mono ?_);rintro e w' ⟨rfl,rfl⟩)|((with_reducible refine(CY.out _ kp).mono ?_);rintro e w2 ⟨v2,rfl,hr2,hb2,hs2⟩;have HR2:=hid hr2;clear hr2))
      refine hK.out _ _ kp (fun hHeld=>?_);clear hK K;try go_frame
      refine rd1 8 (fun K hK=>?_)
      first|(refine ap [15,(IntKind.u8.wrap (IntKind.i64.wrap (128+s)))] (RowI.below (rl2 15 (IntKind.u8.wrap (IntKind.i64.wrap (128+s)))) hb2) (leB i 4) (HR2.out.ints HY5.out) HPOS.out HLEN.out hs2.size (fun v9 w9 HR9 hb9 hs9=>?_))|(refine ap [15,(IntKind.u8.wrap (IntKind.i64.wrap (128+s)))] (RowI.below (m3 15 (IntKind.u8.wrap (IntKind.i64.wrap (128+s)))) hb2) (leB i 4) (HR2.out.ints HY5.out) HPOS.out HLEN.out hs2.size (fun v9 w9 HR9 hb9 hs9=>?_))
      exact B0W
     refine A1 7 rfl (fun K hK=>?_) ?_
     ·(go_simp;first|((with_reducible first|refine(CisCs.out _).mono ?_|refine(CisW4i.out _).mono ?_);rintro e w' ⟨rfl,rfl⟩)|((with_reducible refine(CY.out _ kp).mono ?_);rintro e w2 ⟨v2,rfl,hr2,hb2,hs2⟩;have HR2:=hid hr2;clear hr2))
      refine hK.out _ _ kp (fun hHeld=>?_);clear hK K;try go_frame
      refine rd1 4 (fun K hK=>?_);go_simp;refine hK.out _ _ kp (fun hHeld=>?_);clear hK K;try go_frame
      refine rd1 8 (fun K hK=>?_)
      first|(refine ap [15,(IntKind.u8.wrap (IntKind.i64.wrap (128+s)))] (rl2 15 (IntKind.u8.wrap (IntKind.i64.wrap (128+s)))) (leB i 4) ((HR2.out.below bl1).ints HY5.out) HPOS.out HLEN.out (Nat.le_trans hs2.size (by simp)) (fun v9 w9 HR9 hb9 hs9=>?_))|(refine ap [15,(IntKind.u8.wrap (IntKind.i64.wrap (128+s)))] (m3 15 (IntKind.u8.wrap (IntKind.i64.wrap (128+s)))) (leB i 4) ((HR2.out.below f6).ints HY5.out) HPOS.out HLEN.out (Nat.le_trans hs2.size (by simp)) (fun v9 w9 HR9 hb9 hs9=>?_))
      exact B0W
     exact AllReadyH.nil
    ·rw[hisCs]at CisCs;rw[hisCs]at HK;have HisCs:=hid hisCs;clear hisCs;have HOK:Hid (okI ⟨32,d,s,z,i⟩=C9 i):=by show _=_;have h:=HK.out;(try simp only[Bool.true_and,Bool.false_and,Bool.and_true,Bool.and_false]at h);exact h
     go_wp2_with((with_reducible first|refine(CisCs.out _).mono ?_|refine(CisW4i.out _).mono ?_);rintro e w' ⟨rfl,rfl⟩)
     clear hW0;refine wp_region_held_drew (S:=(fun wk=>Since W0 wk)) (by kernel_rfl) kp (fun hHeld=>?_);refine tk 0 ?_;refine tk 1 ?_;refine tk 2 ?_;refine tk 3 ?_;refine tk 5 ?_;refine tk 6 ?_;refine tk 9 ?_;refine wpAnyH_ready (rs:=[4,7]) (by kernel_rfl) (by simp) ?_;refine A1 4 rfl (fun K hK=>?_) ?_
     ·go_simp;refine hK.out _ _ kp (fun hHeld=>?_);clear hK K;try go_frame
      refine rd1 7 (fun K hK=>?_)
      (go_simp;first|((with_reducible first|refine(CisCs.out _).mono ?_|refine(CisW4i.out _).mono ?_);rintro e w' ⟨rfl,rfl⟩)|((with_reducible refine(CY.out _ kp).mono ?_);rintro e w2 ⟨v2,rfl,hr2,hb2,hs2⟩;have HR2:=hid hr2;clear hr2))
      refine hK.out _ _ kp (fun hHeld=>?_);clear hK K;try go_frame
      refine rd1 8 (fun K hK=>?_)
      first|(refine ap [15,(IntKind.u8.wrap (IntKind.i64.wrap (128+s)))] (RowI.below (rl2 15 (IntKind.u8.wrap (IntKind.i64.wrap (128+s)))) hb2) (leB i 4) (HR2.out.ints HY5.out) HPOS.out HLEN.out hs2.size (fun v9 w9 HR9 hb9 hs9=>?_))|(refine ap [15,(IntKind.u8.wrap (IntKind.i64.wrap (128+s)))] (RowI.below (m3 15 (IntKind.u8.wrap (IntKind.i64.wrap (128+s)))) hb2) (leB i 4) (HR2.out.ints HY5.out) HPOS.out HLEN.out hs2.size (fun v9 w9 HR9 hb9 hs9=>?_))
      exact B0X
     refine A1 7 rfl (fun K hK=>?_) ?_
     ·(go_simp;first|((with_reducible first|refine(CisCs.out _).mono ?_|refine(CisW4i.out _).mono ?_);rintro e w' ⟨rfl,rfl⟩)|((with_reducible refine(CY.out _ kp).mono ?_);rintro e w2 ⟨v2,rfl,hr2,hb2,hs2⟩;have HR2:=hid hr2;clear hr2))
      refine hK.out _ _ kp (fun hHeld=>?_);clear hK K;try go_frame
      refine rd1 4 (fun K hK=>?_);go_simp;refine hK.out _ _ kp (fun hHeld=>?_);clear hK K;try go_frame
      refine rd1 8 (fun K hK=>?_)
      first|(refine ap [15,(IntKind.u8.wrap (IntKind.i64.wrap (128+s)))] (rl2 15 (IntKind.u8.wrap (IntKind.i64.wrap (128+s)))) (leB i 4) ((HR2.out.below bl1).ints HY5.out) HPOS.out HLEN.out (Nat.le_trans hs2.size (by simp)) (fun v9 w9 HR9 hb9 hs9=>?_))|(refine ap [15,(IntKind.u8.wrap (IntKind.i64.wrap (128+s)))] (m3 15 (IntKind.u8.wrap (IntKind.i64.wrap (128+s)))) (leB i 4) ((HR2.out.below f6).ints HY5.out) HPOS.out HLEN.out (Nat.le_trans hs2.size (by simp)) (fun v9 w9 HR9 hb9 hs9=>?_))
      exact B0X
     exact AllReadyH.nil
set_option maxHeartbeats 4000000 in
theorem A5j(d s i:Int)(w:World)(hi:I64 i):Calls prog 111 #[.agg #[.int .i64 33,.int .i64 d,.int .i64 s,.int .i64 8,.int .i64 i]] w (MRet ⟨33,d,s,8,i⟩ w):=by
 obtain⟨W0,hW0⟩:∃W,w.alloc (.cells #[.int .i64 33,.int .i64 d,.int .i64 s,.int .i64 8,.int .i64 i] 61)=W:=⟨_,rfl⟩
 have HB:Hid (Below w.heap.size w W0):=by rw[←hW0];exact(Below.refl _ _).alloc (Nat.le_refl _) _
 have hlt0:w.heap.size<W0.heap.size:=by rw[←hW0];simp
 obtain⟨q0,q1,q2,q3,q4⟩:=F5 33 d s 8 i w W0 hW0;have h00:=Since.refl W0;have q0a:=q0 _ h00;have q1a:=q1 _ h00;have q2a:=q2 _ h00;have q3a:=q3 _ h00;have q4a:=q4 _ h00;have HK:Hid (okI ⟨33,d,s,8,i⟩=(((d==0))&&((s==0))&&(isB i))):=by show _=_;rw[Bool.eq_iff_iff];simp[okI,szI,D2,D9,isM,isR,isL,isC,isB,C9]<;>omega
 have CisBi:=hid (fun w=>t5 i w);obtain⟨s0,hs0⟩:∃b,(s==0)=b:=⟨_,rfl⟩
 try rw[hs0]at HK
 obtain⟨i0,hi0⟩:∃b,(i==0)=b:=⟨_,rfl⟩
 try rw[hi0]at HK
 obtain⟨d0,hd0⟩:∃b,(d==0)=b:=⟨_,rfl⟩
 try rw[hd0]at HK
 go_enter func111,ntmps111;go_upto_region 2 with((with_reducible refine(CisBi.out _).mono ?_);rintro e w' ⟨rfl,rfl⟩)
 go_cut[5]from 9 to 24 (fun b wx=>b= .bool (d0&&(s0&&(i0&&false)))∧W0=wx)
 case first=>
  cases d0
  ·skip
   exact A8e
  ·skip
   cases s0
   ·skip
    exact A8e
   ·skip
    cases i0
    all_goals
    skip
    exact A8e
 case rest=>
  obtain⟨rfl,rfl⟩:=hcut;cases d0
  ·skip
   have HOK:Hid (okI ⟨33,d,s,8,i⟩=false):=by show _=_;have h:=HK.out;(try simp only[Bool.true_and,Bool.false_and,Bool.and_true,Bool.and_false]at h);exact h
   go_wp2_with((with_reducible refine(CisBi.out _).mono ?_);rintro e w' ⟨rfl,rfl⟩)
   clear hW0;refine wp_region_held_drew (S:=(fun wk=>Since W0 wk)) (by kernel_rfl) kp (fun hHeld=>?_);refine tk 0 ?_;refine tk 1 ?_;refine tk 2 ?_;refine tk 3 ?_;refine tk 5 ?_;refine tk 6 ?_;refine tk 7 ?_;refine tk 8 ?_;refine sk 9 ?_;refine sk 10 ?_;refine sk 11 ?_;refine tk 12 ?_;refine tk 13 ?_;refine sk 14 ?_;refine sk 15 ?_;refine sk 16 ?_;refine tk 17 ?_;refine rd1 4 (fun K hK=>?_);go_simp;refine hK.out _ _ kp (fun hHeld=>?_);clear hK K;try go_frame
   refine tk 18 ?_;refine tk 19 ?_;exact A4Q
  ·skip
   cases s0
   ·skip
    have HOK:Hid (okI ⟨33,d,s,8,i⟩=false):=by show _=_;have h:=HK.out;(try simp only[Bool.true_and,Bool.false_and,Bool.and_true,Bool.and_false]at h);exact h
    go_wp2_with((with_reducible refine(CisBi.out _).mono ?_);rintro e w' ⟨rfl,rfl⟩)
    clear hW0;refine wp_region_held_drew (S:=(fun wk=>Since W0 wk)) (by kernel_rfl) kp (fun hHeld=>?_);refine tk 0 ?_;refine tk 1 ?_;refine tk 2 ?_;refine tk 3 ?_;refine tk 5 ?_;refine tk 6 ?_;refine tk 7 ?_;refine tk 8 ?_;refine tk 9 ?_;refine tk 10 ?_;refine tk 11 ?_;refine tk 12 ?_;refine tk 13 ?_;refine sk 14 ?_;refine sk 15 ?_;refine sk 16 ?_;refine tk 17 ?_;refine rd1 4 (fun K hK=>?_);go_simp;refine hK.out _ _ kp (fun hHeld=>?_);clear hK K;try go_frame
    refine tk 18 ?_;refine tk 19 ?_;exact A4Q
   ·skip
    have HOK:Hid (okI ⟨33,d,s,8,i⟩=isB i):=by show _=_;have h:=HK.out;(try simp only[Bool.true_and,Bool.false_and,Bool.and_true,Bool.and_false]at h);exact h
    go_wp2_with((with_reducible refine(CisBi.out _).mono ?_);rintro e w' ⟨rfl,rfl⟩)
    clear hW0;refine wp_region_held_drew (S:=(fun wk=>Since W0 wk)) (by kernel_rfl) kp (fun hHeld=>?_);refine tk 0 ?_;refine tk 1 ?_;refine tk 2 ?_;refine tk 3 ?_;refine tk 5 ?_;refine tk 6 ?_;refine tk 7 ?_;refine tk 8 ?_;refine tk 9 ?_;refine tk 10 ?_;refine tk 11 ?_;refine tk 12 ?_;refine tk 13 ?_;refine tk 14 ?_;refine tk 15 ?_;refine wpAnyH_ready (rs:=[4,16]) (by kernel_rfl) (by simp) ?_;refine A1 4 rfl (fun K hK=>?_) ?_
    ·go_simp;refine hK.out _ _ kp (fun hHeld=>?_);clear hK K;try go_frame
     refine rd1 16 (fun K hK=>?_)
     (go_simp;first|((with_reducible refine(CisBi.out _).mono ?_);rintro e w' ⟨rfl,rfl⟩))
     refine hK.out _ _ kp (fun hHeld=>?_);clear hK K;try go_frame
     refine tk 17 ?_;refine tk 18 ?_;refine tk 19 ?_;exact A5r
    refine A1 16 rfl (fun K hK=>?_) ?_
    ·(go_simp;first|((with_reducible refine(CisBi.out _).mono ?_);rintro e w' ⟨rfl,rfl⟩))
     refine hK.out _ _ kp (fun hHeld=>?_);clear hK K;try go_frame
     refine tk 17 ?_;refine rd1 4 (fun K hK=>?_);go_simp;refine hK.out _ _ kp (fun hHeld=>?_);clear hK K;try go_frame
     refine tk 18 ?_;refine tk 19 ?_;exact A5r
    exact AllReadyH.nil
set_option maxHeartbeats 4000000 in
theorem A5k(d s z i:Int)(w:World)(hi:I64 i)(h8:(z==8)=false):Calls prog 111 #[.agg #[.int .i64 33,.int .i64 d,.int .i64 s,.int .i64 z,.int .i64 i]] w (MRet ⟨33,d,s,z,i⟩ w):=by
 obtain⟨W0,hW0⟩:∃W,w.alloc (.cells #[.int .i64 33,.int .i64 d,.int .i64 s,.int .i64 z,.int .i64 i] 61)=W:=⟨_,rfl⟩
 have HB:Hid (Below w.heap.size w W0):=by rw[←hW0];exact(Below.refl _ _).alloc (Nat.le_refl _) _
 have hlt0:w.heap.size<W0.heap.size:=by rw[←hW0];simp
 obtain⟨q0,q1,q2,q3,q4⟩:=F5 33 d s z i w W0 hW0;have h00:=Since.refl W0;have H8:Hid (¬z=8):=by show¬_;simpa using h8
 have q0a:=q0 _ h00;have q1a:=q1 _ h00;have q2a:=q2 _ h00;have q3a:=q3 _ h00;have q4a:=q4 _ h00;have HK:Hid (okI ⟨33,d,s,z,i⟩=(((z==32))&&((d==0))&&((s==0))&&(C9 i))):=by show _=_;have h8b:=h8;simp at h8b;rw[Bool.eq_iff_iff];simp[okI,szI,D2,D9,isM,isR,isL,isC,isB,C9]<;>omega
 have CisW4i:=hid (fun w=>F7 i w);have CY:Hid (∀wk,Since W0 wk→Calls prog 112 #[.int .i64 i,.int .i64 (4)] wk fun e w'=>∃v,e= .returned v∧RowI w' W0.heap.size 5 .u8 v (leB i 4)∧Below wk.heap.size wk w'∧Since W0 w'):=fun wk h=>J4 (J6 i 4 wk hi (by decide)) h
 have hml:(leB i 4).length=4:=by simp[mmB,A3]
 have HLEN:Hid (([(0:Int)]).length+(leB i 4).length≤100000):=by show _≤_;rw[hml];decide
 have HPOS:Hid (0<(leB i 4).length):=by show 0<_;omega
 have HY5:Hid ((leB i 4).length≤140737488351232):=by show _≤_;omega
 clear hml;obtain⟨wd,hwd⟩:∃b,(z==32)=b:=⟨_,rfl⟩
 try rw[hwd]at HK
 obtain⟨s0,hs0⟩:∃b,(s==0)=b:=⟨_,rfl⟩
 try rw[hs0]at HK
 obtain⟨i0,hi0⟩:∃b,(i==0)=b:=⟨_,rfl⟩
 try rw[hi0]at HK
 obtain⟨d0,hd0⟩:∃b,(d==0)=b:=⟨_,rfl⟩
 try rw[hd0]at HK
 go_enter func111,ntmps111;go_upto_region 2 with((with_reducible refine(CisW4i.out _).mono ?_);rintro e w' ⟨rfl,rfl⟩)
 go_cut[5]from 9 to 24 (fun b wx=>b= .bool (d0&&(s0&&(i0&&wd)))∧W0=wx)
 case first=>
  cases d0
  ·skip
   exact A8f
  ·skip
   cases s0
   ·skip
    exact A8f
   ·skip
    cases i0
    all_goals
    skip
    exact A8f
 case rest=>
  obtain⟨rfl,rfl⟩:=hcut;cases wd
  ·exact A8L
  ·skip
   cases d0
   ·exact A8L
   ·skip
    cases s0
    ·exact A8L
    ·skip
     have HOK:Hid (okI ⟨33,d,s,z,i⟩=C9 i):=by show _=_;have h:=HK.out;(try simp only[Bool.true_and,Bool.false_and,Bool.and_true,Bool.and_false]at h);exact h
     go_wp2_with(first|((with_reducible refine(CisW4i.out _).mono ?_);rintro e w' ⟨rfl,rfl⟩)|((with_reducible refine(CY.out _ kp).mono ?_);rintro e w2 ⟨v2,rfl,hr2,hb2,hs2⟩;have HR2:=hid hr2;clear hr2;have q0b:=q0 _ hs2;have q1b:=q1 _ hs2;have q2b:=q2 _ hs2;have q3b:=q3 _ hs2;have q4b:=q4 _ hs2;have HBW2:=hid hb2;have HSI2:=hid hs2;obtain⟨a2,n2,rfl⟩:=HR2.out.shape;clear hb2)|(at_builtin;refine E5 rfl _ _ rfl W0.heap.size _ [233] rfl (RowI.below (RowI.lit W0 #[.int .u8 233] [233] .u8 5 W0.heap.size 1 (Nat.le_refl _) rfl rfl (by unfold maxLen;simp)) HBW2.out) _ (leB i 4) rfl (HR2.out.ints HY5.out) HPOS.out HLEN.out HSI2.out.size ?_;intro v9 w9 hr9 hb9;have HR9:=hid hr9;have hs9:=B3 HSI2.out hb9;clear hr9;have q0c:=q0 _ hs9;have q1c:=q1 _ hs9;have q2c:=q2 _ hs9;have q3c:=q3 _ hs9;have q4c:=q4 _ hs9))
     all_goals go_ret2
     all_goals exact MRet.mk HOK.out.symm (fun h=>RowI.to (RowI.mono HR9.out HB.out.size) (by first|rfl|(have hb1:=B2 h;simp[D2,D9,isR,isM,isL,isC,isB,C9,inZ]at hb1;simp[A5,IntKind.wrap_u8,IntKind.wrap_i64,H8.out]<;>omega))) (A2 HB.out (by first|exact hs9|exact A9 hs9 1))
theorem B0V{p:Prop}(h:p:=by
 refine hK.out _ _ kp (fun hHeld=>?_);clear hK K;try go_frame
 refine tk 12 ?_;refine tk 13 ?_;refine wpAnyH_done (by kernel_rfl) ?_ _;go_wp2_with fail
 go_ret2
 exact MRet.mk HOK.out.symm (fun h=>RowI.to (RowI.mono HR9.out HB.out.size) HEQ.out) (A2 HB.out (by first|exact hs9|exact A9 hs9 1))):p:=h
theorem B0U{p:Prop}(h:p:=by
 go_wp2_with((with_reducible first|refine(CisRd.out _).mono ?_|refine(CisRs.out _).mono ?_|refine(CinZ.out _).mono ?_|refine(CDI.out _).mono ?_);rintro e w' ⟨rfl,rfl⟩)
 go_meet
 case rel=>exact⟨by simp[*],rfl⟩):p:=h
theorem A5p{p:Prop}(h:p:=by
 go_wp2_with((with_reducible first|refine(CisRd.out _).mono ?_|refine(CisRs.out _).mono ?_|refine(CinZ.out _).mono ?_|refine(CDI.out _).mono ?_);rintro e w' ⟨rfl,rfl⟩)
 go_ret2
 exact MRet.mk HOK.out.symm (fun h=>absurd h (by rw[HOK.out];simp)) HB.out):p:=h
theorem B0T{p:Prop}(h:p:=by
 go_wp2_with((with_reducible first|refine(CisRd.out _).mono ?_|refine(CisRs.out _).mono ?_|refine(CinZ.out _).mono ?_|refine(CDI.out _).mono ?_|refine(CSG.out _).mono ?_|refine(CMR.out _).mono ?_);rintro e w' ⟨rfl,rfl⟩)
 clear hW0;refine wp_region_held_drew (S:=(fun wk=>Since W0 wk)) (by kernel_rfl) kp (fun hHeld=>?_);refine tk 0 ?_;refine tk 1 ?_;refine tk 2 ?_;refine tk 5 ?_;refine tk 6 ?_;refine tk 7 ?_;refine tk 8 ?_;refine tk 9 ?_;refine rd1 3 (fun K hK=>?_)
 (go_simp;first|((with_reducible refine(CMR.out _).mono ?_);rintro e w' ⟨rfl,rfl⟩)|((with_reducible refine(CY.out _ (by decide) _ kp).mono ?_);rintro e w2 ⟨v2,rfl,hr2,hb2,hs2⟩;have HR2:=hid hr2;clear hr2))
 refine hK.out _ _ kp (fun hHeld=>?_);clear hK K;try go_frame
 refine wpAnyH_ready (rs:=[4,10]) (by kernel_rfl) (by simp) ?_;refine A1 4 rfl (fun K hK=>?_) ?_
 ·go_simp;refine hK.out _ _ kp (fun hHeld=>?_);clear hK K;try go_frame
  refine rd1 10 (fun K hK=>?_)
  (go_simp;first|((with_reducible refine(CMR.out _).mono ?_);rintro e w' ⟨rfl,rfl⟩)|((with_reducible refine(CY.out _ (by decide) _ kp).mono ?_);rintro e w2 ⟨v2,rfl,hr2,hb2,hs2⟩;have HR2:=hid hr2;clear hr2))
  refine hK.out _ _ kp (fun hHeld=>?_);clear hK K;try go_frame
  refine rd1 11 (fun K hK=>?_)
  first|(refine ap [129,mrB D d] (RowI.below (rl2 129 (mrB D d)) hb2) (leB i nb) (HR2.out.ints HY5.out) HPOS.out HLEN.out hs2.size (fun v9 w9 HR9 hb9 hs9=>?_))|(refine ap [129,mrB D d] (RowI.below (m3 129 (mrB D d)) hb2) (leB i nb) (HR2.out.ints HY5.out) HPOS.out HLEN.out hs2.size (fun v9 w9 HR9 hb9 hs9=>?_))
  exact B0V
 refine A1 10 rfl (fun K hK=>?_) ?_
 ·(go_simp;first|((with_reducible refine(CMR.out _).mono ?_);rintro e w' ⟨rfl,rfl⟩)|((with_reducible refine(CY.out _ (by decide) _ kp).mono ?_);rintro e w2 ⟨v2,rfl,hr2,hb2,hs2⟩;have HR2:=hid hr2;clear hr2))
  refine hK.out _ _ kp (fun hHeld=>?_);clear hK K;try go_frame
  refine rd1 4 (fun K hK=>?_);go_simp;refine hK.out _ _ kp (fun hHeld=>?_);clear hK K;try go_frame
  refine rd1 11 (fun K hK=>?_)
  first|(refine ap [129,mrB D d] (rl2 129 (mrB D d)) (leB i nb) ((HR2.out.below bl1).ints HY5.out) HPOS.out HLEN.out (Nat.le_trans hs2.size (by simp)) (fun v9 w9 HR9 hb9 hs9=>?_))|(refine ap [129,mrB D d] (m3 129 (mrB D d)) (leB i nb) ((HR2.out.below f6).ints HY5.out) HPOS.out HLEN.out (Nat.le_trans hs2.size (by simp)) (fun v9 w9 HR9 hb9 hs9=>?_))
  exact B0V
 exact AllReadyH.nil):p:=h
set_option maxHeartbeats 80000000 in
theorem T6(o z d s i:Int)(w:World)(ho:o=14∨o=15∨o=16∨o=17∨o=18∨o=19)(hz:z=8∨z=16∨z=32)(hi:I64 i):Calls prog 110 #[.agg #[.int .i64 o,.int .i64 d,.int .i64 s,.int .i64 z,.int .i64 i]] w (MRet ⟨o,d,s,z,i⟩ w):=by
 obtain⟨W0,hW0⟩:∃W,w.alloc (.cells #[.int .i64 o,.int .i64 d,.int .i64 s,.int .i64 z,.int .i64 i] 61)=W:=⟨_,rfl⟩
 have HB:Hid (Below w.heap.size w W0):=by rw[←hW0];exact(Below.refl _ _).alloc (Nat.le_refl _) _
 have hlt0:w.heap.size<W0.heap.size:=by rw[←hW0];simp
 obtain⟨q0,q1,q2,q3,q4⟩:=F5 o d s z i w W0 hW0;have h00:=Since.refl W0;have q0a:=q0 _ h00;have q1a:=q1 _ h00;have q2a:=q2 _ h00;have q3a:=q3 _ h00;have q4a:=q4 _ h00;have CisRd:=hid (fun w=>B9 d w);have CisRs:=hid (fun w=>B9 s w);have CinZ:=hid (fun w=>Y5 i z w hz);have CDI:=hid (fun w=>M6 o w (by omega));obtain⟨x,hx⟩:∃x:Ins,(⟨o,d,s,z,i⟩:Ins)=x:=⟨_,rfl⟩
 rw[hx];obtain⟨g,hg⟩:∃g,sgB i z=g:=⟨_,rfl⟩
 obtain⟨D,hD⟩:∃D,M7 o=D:=⟨_,rfl⟩
 obtain⟨nb,hnb⟩:∃nb,(z / 8).toNat=nb:=⟨_,rfl⟩
 rw[hD]at CDI;have CMR:=hid (fun w=>O3 D d w);obtain⟨rd,hrd⟩:∃b,isR d=b:=⟨_,rfl⟩
 obtain⟨rs,hrs⟩:∃b,isR s=b:=⟨_,rfl⟩
 obtain⟨s0,hs0⟩:∃b,(s==0)=b:=⟨_,rfl⟩
 obtain⟨zb,hzb⟩:∃b,inZ i z=b:=⟨_,rfl⟩
 have HK8:Hid (z=8→okI x=false):=hid (by rw[←hx];rintro rfl;rcases ho with rfl|rfl|rfl|rfl|rfl|rfl<;>simp[okI,szI]);have HK:Hid (z≠8→okI x=(rd&&(s0&&zb))):=hid (by rw[←hx,←hrd,←hs0,←hzb];intro h8;rcases ho with rfl|rfl|rfl|rfl|rfl|rfl<;>rcases hz with rfl|rfl|rfl<;>first|exact absurd rfl h8|simp[okI,szI,D2]);have HBO:Hid (A5 x=if -128≤g∧g≤127 then[131,mrB D d,i%256]else 129::mrB D d::leB i nb):=hid (by rw[←hx,←hg,←hD,←hnb];rcases ho with rfl|rfl|rfl|rfl|rfl|rfl<;>simp[A5]);have CSG0:Hid (zb=true→∀w,Calls prog 105 #[.int .i64 i,.int .i64 z] w fun e w'=>e= .returned (.int .i64 g)∧w=w'):=hid (fun h w=>by
  have h2:0≤i:=by rw[h]at hzb;simp[inZ]at hzb;exact hzb.1
  rw[←hg];exact E3 i z w hi (by omega) hz)
 have hn8:nb=1∨nb=2∨nb=4:=by rw[←hnb];rcases hz with rfl|rfl|rfl<;>decide
 have CY:Hid (∀m:Int,m=z / 8→∀wk,Since W0 wk→Calls prog 112 #[.int .i64 i,.int .i64 (IntKind.i64.wrap m)] wk fun e w'=>∃v,e= .returned v∧RowI w' W0.heap.size 5 .u8 v (leB i nb)∧Below wk.heap.size wk w'∧Since W0 w'):=hid (fun m hm wk h=>by
  have e:IntKind.i64.wrap m=(nb:Int):=by rw[hm,←hnb];rcases hz with rfl|rfl|rfl<;>decide+kernel
  rw[e];exact J4 (J6 i nb wk hi (by omega)) h)
 have hml:(leB i nb).length=nb:=by simp[A3]
 have HLEN:Hid (([(0:Int),0]).length+(leB i nb).length≤100000):=by show _≤_;rw[hml];simp only[List.length_cons,List.length_nil];omega
 have HPOS:Hid (0<(leB i nb).length):=by show 0<_;omega
 have HY5:Hid ((leB i nb).length≤140737488351232):=by show _≤_;omega
 rw[hrd]at CisRd;rw[hrs]at CisRs;rw[hzb]at CinZ;clear hrd hrs hx hg hD hnb hzb hn8 hml;have hs1:(s !=0)= !s0:=by simp[bne,hs0]
 obtain⟨e0,he0⟩:∃b,(i==0)=b:=⟨_,rfl⟩
 rcases ho with rfl|rfl|rfl|rfl|rfl|rfl<;>rcases hz with rfl|rfl|rfl
 all_goals
  go_enter func110,ntmps110;go_upto_region 3 with((with_reducible first|refine(CisRd.out _).mono ?_|refine(CisRs.out _).mono ?_|refine(CinZ.out _).mono ?_|refine(CDI.out _).mono ?_);rintro e w' ⟨rfl,rfl⟩)
  go_cut[6]from 19 to 31 (fun b wx=>b= .bool (rd&&(rs&&e0))∧W0=wx)
  case first=>
   cases rd
   rotate_left
   cases rs
   all_goals
   exact B0U
  case rest=>
   obtain⟨rfl,rfl⟩:=hcut;go_upto_region 4 with((with_reducible first|refine(CisRd.out _).mono ?_|refine(CisRs.out _).mono ?_|refine(CinZ.out _).mono ?_|refine(CDI.out _).mono ?_);rintro e w' ⟨rfl,rfl⟩)
   go_cut[7]from 32 to 44 (fun b wx=>b= .bool (rd&&(s0&&e0))∧W0=wx)
   case first=>
    cases rd
    rotate_left
    cases s0
    all_goals
    exact B0U
   case rest=>
    obtain⟨rfl,rfl⟩:=hcut;generalize(rd&&(s0&&e0))=one at*
    generalize(rd&&(rs&&e0))=rg at*
    try(have HOK:Hid (okI x=false):=hid (HK8.out rfl);exact A5p)
    all_goals
     cases rd
     ·have HOK:Hid (okI x=false):=hid (HK.out (by decide));exact A5p
     ·cases s0
      ·have HOK:Hid (okI x=false):=hid (HK.out (by decide));exact A5p
      ·cases zb
       ·have HOK:Hid (okI x=false):=hid (HK.out (by decide));exact A5p
       ·have HOK:Hid (okI x=true):=hid (HK.out (by decide));have CSG:=hid (CSG0.out rfl);by_cases hs: -128≤g∧g≤127
        ·have HRW:Hid (∀{wk:World} {v:Value} (u:Int),RowI wk w.heap.size 5 .u8 v [131,mrB D d,u]→u=i%256→RowI wk w.heap.size 5 .u8 v (A5 x)):=fun u h e=>by rw[HBO.out,if_pos hs,←e];exact h
         have u1:decide (-128≤g)=true:=decide_eq_true hs.1;have u2:decide (g≤127)=true:=decide_eq_true hs.2;clear hs;go_wp2_with((with_reducible first|refine(CisRd.out _).mono ?_|refine(CisRs.out _).mono ?_|refine(CinZ.out _).mono ?_|refine(CDI.out _).mono ?_|refine(CSG.out _).mono ?_|refine(CMR.out _).mono ?_);rintro e w' ⟨rfl,rfl⟩)
         clear hW0;refine wp_region_held_drew (S:=(fun wk=>Since W0 wk)) (by kernel_rfl) kp (fun hHeld=>?_);refine tk 0 ?_;refine tk 1 ?_;refine tk 2 ?_;refine tk 4 ?_;refine tk 5 ?_;refine tk 6 ?_;refine tk 7 ?_;refine rd1 3 (fun K hK=>?_)
         (go_simp;first|((with_reducible refine(CMR.out _).mono ?_);rintro e w' ⟨rfl,rfl⟩))
         refine hK.out _ _ kp (fun hHeld=>?_);clear hK K;try go_frame
         refine rd1 8 (fun K hK=>?_);go_simp;refine hK.out _ _ kp (fun hHeld=>?_);clear hK K;try go_frame
         refine tk 9 ?_;refine tk 10 ?_;refine wpAnyH_done (by kernel_rfl) ?_ _;go_wp2_with fail
         go_ret2
         exact MRet.mk HOK.out.symm (fun h=>HRW.out _ (RowI.lit W0 #[.int .u8 131,.int .u8 _,.int .u8 _] [131,_,_] .u8 5 w.heap.size 3 HB.out.size rfl rfl (by unfold maxLen;simp)) (by simp[IntKind.wrap_u8,I1])) (J3 HB.out)
        ·have HEQ:Hid ([129,mrB D d]++leB i nb=A5 x):=by show _=_;rw[HBO.out,if_neg hs];rfl
         obtain⟨u1,hu1⟩:∃b,decide (-128≤g)=b:=⟨_,rfl⟩
         obtain⟨u2,hu2⟩:∃b,decide (g≤127)=b:=⟨_,rfl⟩
         have huu:(u1&&u2)=false:=by rw[←hu1,←hu2,Bool.eq_false_iff];intro h;simp only[Bool.and_eq_true,decide_eq_true_eq]at h;exact hs h
         clear hs;cases u1
         ·clear huu;exact B0T
         ·cases u2
          ·clear huu;exact B0T
          ·simp at huu
end Go.Proofs.YtdojafpjipcbjaaGreat
