/- -/
import Derived.Deep.CutRange
import Derived.Test.YtdojafpjipcbjaaGreatK8
import Derived.Test.YtdojafpjipcbjaaGreatK12
open Go.Proofs.Tryz
open Go.Lib (hid)
set_option maxRecDepth 100000
namespace Go.Proofs.YtdojafpjipcbjaaGreat
open Go.RowKit
set_option linter.unusedVariables false
set_option linter.unusedSimpArgs false
theorem A4Y{p:Prop}(h:p:=by
 refine rd1 7 (fun K hK=>?_);go_simp;refine hK.out _ _ kp (fun hHeld=>?_);clear hK K;try go_frame
 refine tk 24 ?_;refine tk 25 ?_;exact A2u
 ):p:=h
theorem A4X{p:Prop}(h:p:=by
 refine rd1 9 (fun K hK=>?_);go_simp;refine hK.out _ _ kp (fun hHeld=>?_);clear hK K;try go_frame
 refine tk 26 ?_;refine tk 27 ?_;exact A2u
 ):p:=h
theorem B0Y{p:Prop}(h:p:=by
 refine rd1 17 (fun K hK=>?_)
 (go_simp;first|((with_reducible first|refine(CisCs.out _).mono ?_|refine(CisLd.out _).mono ?_|refine(CMR.out _).mono ?_);rintro e w' ⟨rfl,rfl⟩))
 refine hK.out _ _ kp (fun hHeld=>?_);clear hK K;try go_frame
 refine tk 18 ?_;refine tk 19 ?_;refine tk 20 ?_;refine tk 21 ?_;refine tk 22 ?_;refine tk 23 ?_;refine tk 24 ?_;refine tk 25 ?_;exact A4R):p:=h
theorem B0Z{p:Prop}(h:p:=by
 refine rd1 17 (fun K hK=>?_)
 (go_simp;first|((with_reducible first|refine(CisCs.out _).mono ?_|refine(CisLd.out _).mono ?_|refine(CMR.out _).mono ?_);rintro e w' ⟨rfl,rfl⟩))
 refine hK.out _ _ kp (fun hHeld=>?_);clear hK K;try go_frame
 refine tk 18 ?_;refine tk 19 ?_;refine sk 20 ?_;refine sk 21 ?_;refine sk 22 ?_;refine tk 23 ?_;refine tk 24 ?_;refine tk 25 ?_;exact A2u):p:=h
theorem B0a{p:Prop}(h:p:=by
 refine rd1 19 (fun K hK=>?_)
 (go_simp;first|((with_reducible first|refine(CisCi.out _).mono ?_|refine(CisRd.out _).mono ?_|refine(CisRs.out _).mono ?_|refine(CMR.out _).mono ?_);rintro e w' ⟨rfl,rfl⟩))
 refine hK.out _ _ kp (fun hHeld=>?_);clear hK K;try go_frame
 refine tk 20 ?_;refine tk 21 ?_;refine sk 22 ?_;refine sk 23 ?_;refine sk 24 ?_;refine tk 25 ?_;refine tk 26 ?_;refine tk 27 ?_;exact A2u):p:=h
theorem A8M{p:Prop}(h:p:=by
 skip
 go_wp2_with((with_reducible first|refine(CisCs.out _).mono ?_|refine(CisLd.out _).mono ?_|refine(CMR.out _).mono ?_);rintro e w' ⟨rfl,rfl⟩)
 go_meet
 case rel=>exact⟨by simp[*],rfl⟩):p:=h
theorem A8N{p:Prop}(h:p:=by
 skip
 go_wp2_with((with_reducible first|refine(CisCi.out _).mono ?_|refine(CisRd.out _).mono ?_|refine(CisRs.out _).mono ?_|refine(CMR.out _).mono ?_);rintro e w' ⟨rfl,rfl⟩)
 go_meet
 case rel=>exact⟨by simp[*],rfl⟩):p:=h
theorem B0b{p:Prop}(h:p:=by
 refine rd1 19 (fun K hK=>?_)
 (go_simp;first|((with_reducible first|refine(CisCi.out _).mono ?_|refine(CisRd.out _).mono ?_|refine(CisRs.out _).mono ?_|refine(CMR.out _).mono ?_);rintro e w' ⟨rfl,rfl⟩))
 refine hK.out _ _ kp (fun hHeld=>?_);clear hK K;try go_frame
 refine tk 20 ?_;refine tk 21 ?_;refine tk 22 ?_;refine tk 23 ?_;refine rd1 24 (fun K hK=>?_)
 (go_simp;first|((with_reducible first|refine(CisCi.out _).mono ?_|refine(CisRd.out _).mono ?_|refine(CisRs.out _).mono ?_|refine(CMR.out _).mono ?_);rintro e w' ⟨rfl,rfl⟩))
 refine hK.out _ _ kp (fun hHeld=>?_);clear hK K;try go_frame
 refine tk 25 ?_;refine tk 26 ?_;refine tk 27 ?_;exact A4R):p:=h
theorem A2u{p:Prop}(h:p:=by
 refine wpAnyH_done (by kernel_rfl) ?_ _;go_wp2_with fail
 go_ret2
 exact MRet.mk HOK.out.symm (fun h=>absurd h (by rw[HOK.out];simp)) (J3 HB.out)):p:=h
theorem A4R{p:Prop}(h:p:=by
 refine wpAnyH_done (by kernel_rfl) ?_ _;go_wp2_with fail
 go_ret2
 exact MRet.mk HOK.out.symm (fun h=>RowI.to (RowI.lit W0 #[_,_,_] [_,_,_] .u8 5 w.heap.size 3 HB.out.size rfl rfl (by unfold maxLen;simp)) (by first|rfl|(have hb1:=B2 h;simp[D2,D9,isR,isM,isL,isC,isB,C9,inZ]at hb1;simp[A5,IntKind.wrap_u8,IntKind.wrap_i64,N7,I1]<;>omega))) (J3 HB.out)):p:=h
set_option maxHeartbeats 4000000 in
theorem A8E(d s z i:Int)(w:World)(hi:I64 i):Calls prog 111 #[.agg #[.int .i64 29,.int .i64 d,.int .i64 s,.int .i64 z,.int .i64 i]] w (MRet ⟨29,d,s,z,i⟩ w):=by
 obtain⟨W0,hW0⟩:∃W,w.alloc (.cells #[.int .i64 29,.int .i64 d,.int .i64 s,.int .i64 z,.int .i64 i] 61)=W:=⟨_,rfl⟩
 have HB:Hid (Below w.heap.size w W0):=by rw[←hW0];exact(Below.refl _ _).alloc (Nat.le_refl _) _
 have hlt0:w.heap.size<W0.heap.size:=by rw[←hW0];simp
 obtain⟨q0,q1,q2,q3,q4⟩:=F5 29 d s z i w W0 hW0;have h00:=Since.refl W0;have q0a:=q0 _ h00;have q1a:=q1 _ h00;have q2a:=q2 _ h00;have q3a:=q3 _ h00;have q4a:=q4 _ h00;have HK:Hid (okI ⟨29,d,s,z,i⟩=(((z==32))&&(isL d)&&(isC s)&&((i==0)))):=by show _=_;rw[Bool.eq_iff_iff];simp[okI,szI,D2,D9,isM,isR,isL,isC,isB,C9]<;>omega
 have CisCs:=hid (fun w=>R3 s w);have CisLd:=hid (fun w=>y7 d w);have CMR:=hid (fun w=>O3 0 d w);obtain⟨wd,hwd⟩:∃b,(z==32)=b:=⟨_,rfl⟩
 try rw[hwd]at HK
 obtain⟨s0,hs0⟩:∃b,(s==0)=b:=⟨_,rfl⟩
 try rw[hs0]at HK
 obtain⟨i0,hi0⟩:∃b,(i==0)=b:=⟨_,rfl⟩
 try rw[hi0]at HK
 obtain⟨d0,hd0⟩:∃b,(d==0)=b:=⟨_,rfl⟩
 try rw[hd0]at HK
 go_enter func111,ntmps111;go_upto_region 2 with((with_reducible first|refine(CisCs.out _).mono ?_|refine(CisLd.out _).mono ?_|refine(CMR.out _).mono ?_);rintro e w' ⟨rfl,rfl⟩)
 go_cut[5]from 9 to 24 (fun b wx=>b= .bool (d0&&(s0&&(i0&&wd)))∧W0=wx)
 case first=>
  cases d0
  ·exact A8M
  ·skip
   cases s0
   ·exact A8M
   ·skip
    cases i0
    all_goals
    exact A8M
 case rest=>
  obtain⟨rfl,rfl⟩:=hcut;cases wd
  ·skip
   have HOK:Hid (okI ⟨29,d,s,z,i⟩=false):=by show _=_;have h:=HK.out;(try simp only[Bool.true_and,Bool.false_and,Bool.and_true,Bool.and_false]at h);exact h
   go_wp2_with((with_reducible first|refine(CisCs.out _).mono ?_|refine(CisLd.out _).mono ?_|refine(CMR.out _).mono ?_);rintro e w' ⟨rfl,rfl⟩)
   clear hW0;refine wp_region_held_drew (S:=(fun wk=>Since W0 wk)) (by kernel_rfl) kp (fun hHeld=>?_);refine tk 0 ?_;refine tk 1 ?_;refine tk 2 ?_;refine tk 3 ?_;refine tk 4 ?_;refine tk 5 ?_;refine tk 8 ?_;refine rd1 6 (fun K hK=>?_)
   (go_simp;first|((with_reducible first|refine(CisCs.out _).mono ?_|refine(CisLd.out _).mono ?_|refine(CMR.out _).mono ?_);rintro e w' ⟨rfl,rfl⟩))
   refine hK.out _ _ kp (fun hHeld=>?_);clear hK K;try go_frame
   refine tk 9 ?_;refine sk 10 ?_;refine sk 11 ?_;refine sk 12 ?_;refine tk 13 ?_;refine tk 14 ?_;refine sk 15 ?_;refine sk 16 ?_;refine sk 17 ?_;refine tk 18 ?_;refine tk 19 ?_;refine sk 20 ?_;refine sk 21 ?_;refine sk 22 ?_;refine tk 23 ?_;exact A4Y
  ·skip
   cases hisLd:isL d
   ·rw[hisLd]at CisLd;rw[hisLd]at HK;have HisLd:=hid hisLd;clear hisLd;have HOK:Hid (okI ⟨29,d,s,z,i⟩=false):=by show _=_;have h:=HK.out;(try simp only[Bool.true_and,Bool.false_and,Bool.and_true,Bool.and_false]at h);exact h
    go_wp2_with((with_reducible first|refine(CisCs.out _).mono ?_|refine(CisLd.out _).mono ?_|refine(CMR.out _).mono ?_);rintro e w' ⟨rfl,rfl⟩)
    clear hW0;refine wp_region_held_drew (S:=(fun wk=>Since W0 wk)) (by kernel_rfl) kp (fun hHeld=>?_);refine tk 0 ?_;refine tk 1 ?_;refine tk 2 ?_;refine tk 3 ?_;refine tk 4 ?_;refine tk 5 ?_;refine tk 8 ?_;refine rd1 6 (fun K hK=>?_)
    (go_simp;first|((with_reducible first|refine(CisCs.out _).mono ?_|refine(CisLd.out _).mono ?_|refine(CMR.out _).mono ?_);rintro e w' ⟨rfl,rfl⟩))
    refine hK.out _ _ kp (fun hHeld=>?_);clear hK K;try go_frame
    refine tk 9 ?_;refine tk 10 ?_;refine tk 11 ?_;refine wpAnyH_ready (rs:=[7,12]) (by kernel_rfl) (by simp) ?_;refine A1 7 rfl (fun K hK=>?_) ?_
    ·go_simp;refine hK.out _ _ kp (fun hHeld=>?_);clear hK K;try go_frame
     refine rd1 12 (fun K hK=>?_)
     (go_simp;first|((with_reducible first|refine(CisCs.out _).mono ?_|refine(CisLd.out _).mono ?_|refine(CMR.out _).mono ?_);rintro e w' ⟨rfl,rfl⟩))
     refine hK.out _ _ kp (fun hHeld=>?_);clear hK K;try go_frame
     refine tk 13 ?_;refine tk 14 ?_;refine sk 15 ?_;refine sk 16 ?_;refine sk 17 ?_;refine tk 18 ?_;refine tk 19 ?_;refine sk 20 ?_;refine sk 21 ?_;refine sk 22 ?_;refine tk 23 ?_;refine tk 24 ?_;refine tk 25 ?_;exact A2u
    refine A1 12 rfl (fun K hK=>?_) ?_
    ·(go_simp;first|((with_reducible first|refine(CisCs.out _).mono ?_|refine(CisLd.out _).mono ?_|refine(CMR.out _).mono ?_);rintro e w' ⟨rfl,rfl⟩))
     refine hK.out _ _ kp (fun hHeld=>?_);clear hK K;try go_frame
     refine tk 13 ?_;refine tk 14 ?_;refine sk 15 ?_;refine sk 16 ?_;refine sk 17 ?_;refine tk 18 ?_;refine tk 19 ?_;refine sk 20 ?_;refine sk 21 ?_;refine sk 22 ?_;refine tk 23 ?_;exact A4Y
    exact AllReadyH.nil
   ·rw[hisLd]at CisLd;rw[hisLd]at HK;have HisLd:=hid hisLd;clear hisLd;cases hisCs:isC s
    ·rw[hisCs]at CisCs;rw[hisCs]at HK;have HisCs:=hid hisCs;clear hisCs;have HOK:Hid (okI ⟨29,d,s,z,i⟩=false):=by show _=_;have h:=HK.out;(try simp only[Bool.true_and,Bool.false_and,Bool.and_true,Bool.and_false]at h);exact h
     go_wp2_with((with_reducible first|refine(CisCs.out _).mono ?_|refine(CisLd.out _).mono ?_|refine(CMR.out _).mono ?_);rintro e w' ⟨rfl,rfl⟩)
     clear hW0;refine wp_region_held_drew (S:=(fun wk=>Since W0 wk)) (by kernel_rfl) kp (fun hHeld=>?_);refine tk 0 ?_;refine tk 1 ?_;refine tk 2 ?_;refine tk 3 ?_;refine tk 4 ?_;refine tk 5 ?_;refine tk 8 ?_;refine rd1 6 (fun K hK=>?_)
     (go_simp;first|((with_reducible first|refine(CisCs.out _).mono ?_|refine(CisLd.out _).mono ?_|refine(CMR.out _).mono ?_);rintro e w' ⟨rfl,rfl⟩))
     refine hK.out _ _ kp (fun hHeld=>?_);clear hK K;try go_frame
     refine tk 9 ?_;refine tk 10 ?_;refine tk 11 ?_;refine wpAnyH_ready (rs:=[7,12]) (by kernel_rfl) (by simp) ?_;refine A1 7 rfl (fun K hK=>?_) ?_
     ·go_simp;refine hK.out _ _ kp (fun hHeld=>?_);clear hK K;try go_frame
      refine rd1 12 (fun K hK=>?_)
      (go_simp;first|((with_reducible first|refine(CisCs.out _).mono ?_|refine(CisLd.out _).mono ?_|refine(CMR.out _).mono ?_);rintro e w' ⟨rfl,rfl⟩))
      refine hK.out _ _ kp (fun hHeld=>?_);clear hK K;try go_frame
      refine tk 13 ?_;refine tk 14 ?_;refine tk 15 ?_;refine tk 16 ?_;exact B0Z
     refine A1 12 rfl (fun K hK=>?_) ?_
     ·(go_simp;first|((with_reducible first|refine(CisCs.out _).mono ?_|refine(CisLd.out _).mono ?_|refine(CMR.out _).mono ?_);rintro e w' ⟨rfl,rfl⟩))
      refine hK.out _ _ kp (fun hHeld=>?_);clear hK K;try go_frame
      refine tk 13 ?_;refine tk 14 ?_;refine tk 15 ?_;refine tk 16 ?_;refine wpAnyH_ready (rs:=[7,17]) (by kernel_rfl) (by simp) ?_;refine A1 7 rfl (fun K hK=>?_) ?_
      ·go_simp;refine hK.out _ _ kp (fun hHeld=>?_);clear hK K;try go_frame
       exact B0Z
      refine A1 17 rfl (fun K hK=>?_) ?_
      ·(go_simp;first|((with_reducible first|refine(CisCs.out _).mono ?_|refine(CisLd.out _).mono ?_|refine(CMR.out _).mono ?_);rintro e w' ⟨rfl,rfl⟩))
       refine hK.out _ _ kp (fun hHeld=>?_);clear hK K;try go_frame
       refine tk 18 ?_;refine tk 19 ?_;refine sk 20 ?_;refine sk 21 ?_;refine sk 22 ?_;refine tk 23 ?_;exact A4Y
      exact AllReadyH.nil
     exact AllReadyH.nil
    ·rw[hisCs]at CisCs;rw[hisCs]at HK;have HisCs:=hid hisCs;clear hisCs;have HOK:Hid (okI ⟨29,d,s,z,i⟩=i0):=by show _=_;have h:=HK.out;(try simp only[Bool.true_and,Bool.false_and,Bool.and_true,Bool.and_false]at h);exact h
     go_wp2_with((with_reducible first|refine(CisCs.out _).mono ?_|refine(CisLd.out _).mono ?_|refine(CMR.out _).mono ?_);rintro e w' ⟨rfl,rfl⟩)
     clear hW0;refine wp_region_held_drew (S:=(fun wk=>Since W0 wk)) (by kernel_rfl) kp (fun hHeld=>?_);refine tk 0 ?_;refine tk 1 ?_;refine tk 2 ?_;refine tk 3 ?_;refine tk 4 ?_;refine tk 5 ?_;refine tk 8 ?_;refine rd1 6 (fun K hK=>?_)
     (go_simp;first|((with_reducible first|refine(CisCs.out _).mono ?_|refine(CisLd.out _).mono ?_|refine(CMR.out _).mono ?_);rintro e w' ⟨rfl,rfl⟩))
     refine hK.out _ _ kp (fun hHeld=>?_);clear hK K;try go_frame
     refine tk 9 ?_;refine tk 10 ?_;refine tk 11 ?_;refine wpAnyH_ready (rs:=[7,12]) (by kernel_rfl) (by simp) ?_;refine A1 7 rfl (fun K hK=>?_) ?_
     ·go_simp;refine hK.out _ _ kp (fun hHeld=>?_);clear hK K;try go_frame
      refine rd1 12 (fun K hK=>?_)
      (go_simp;first|((with_reducible first|refine(CisCs.out _).mono ?_|refine(CisLd.out _).mono ?_|refine(CMR.out _).mono ?_);rintro e w' ⟨rfl,rfl⟩))
      refine hK.out _ _ kp (fun hHeld=>?_);clear hK K;try go_frame
      refine tk 13 ?_;refine tk 14 ?_;refine tk 15 ?_;refine tk 16 ?_;exact B0Y
     refine A1 12 rfl (fun K hK=>?_) ?_
     ·(go_simp;first|((with_reducible first|refine(CisCs.out _).mono ?_|refine(CisLd.out _).mono ?_|refine(CMR.out _).mono ?_);rintro e w' ⟨rfl,rfl⟩))
      refine hK.out _ _ kp (fun hHeld=>?_);clear hK K;try go_frame
      refine tk 13 ?_;refine tk 14 ?_;refine tk 15 ?_;refine tk 16 ?_;refine wpAnyH_ready (rs:=[7,17]) (by kernel_rfl) (by simp) ?_;refine A1 7 rfl (fun K hK=>?_) ?_
      ·go_simp;refine hK.out _ _ kp (fun hHeld=>?_);clear hK K;try go_frame
       exact B0Y
      refine A1 17 rfl (fun K hK=>?_) ?_
      ·(go_simp;first|((with_reducible first|refine(CisCs.out _).mono ?_|refine(CisLd.out _).mono ?_|refine(CMR.out _).mono ?_);rintro e w' ⟨rfl,rfl⟩))
       refine hK.out _ _ kp (fun hHeld=>?_);clear hK K;try go_frame
       refine tk 18 ?_;refine tk 19 ?_;refine tk 20 ?_;refine tk 21 ?_;refine tk 22 ?_;refine tk 23 ?_;refine rd1 7 (fun K hK=>?_);go_simp;refine hK.out _ _ kp (fun hHeld=>?_);clear hK K;try go_frame
       refine tk 24 ?_;refine tk 25 ?_;exact A4R
      exact AllReadyH.nil
     exact AllReadyH.nil
set_option maxHeartbeats 4000000 in
theorem A8C(d s z i:Int)(w:World)(hi:I64 i):Calls prog 111 #[.agg #[.int .i64 31,.int .i64 d,.int .i64 s,.int .i64 z,.int .i64 i]] w (MRet ⟨31,d,s,z,i⟩ w):=by
 obtain⟨W0,hW0⟩:∃W,w.alloc (.cells #[.int .i64 31,.int .i64 d,.int .i64 s,.int .i64 z,.int .i64 i] 61)=W:=⟨_,rfl⟩
 have HB:Hid (Below w.heap.size w W0):=by rw[←hW0];exact(Below.refl _ _).alloc (Nat.le_refl _) _
 have hlt0:w.heap.size<W0.heap.size:=by rw[←hW0];simp
 obtain⟨q0,q1,q2,q3,q4⟩:=F5 31 d s z i w W0 hW0;have h00:=Since.refl W0;have q0a:=q0 _ h00;have q1a:=q1 _ h00;have q2a:=q2 _ h00;have q3a:=q3 _ h00;have q4a:=q4 _ h00;have HK:Hid (okI ⟨31,d,s,z,i⟩=(((z==32))&&(isR d)&&(isR s)&&(isC i))):=by show _=_;rw[Bool.eq_iff_iff];simp[okI,szI,D2,D9,isM,isR,isL,isC,isB,C9]<;>omega
 have CisCi:=hid (fun w=>R3 i w);have CisRd:=hid (fun w=>B9 d w);have CisRs:=hid (fun w=>B9 s w);have CMR:=hid (fun w=>O3 d s w);obtain⟨wd,hwd⟩:∃b,(z==32)=b:=⟨_,rfl⟩
 try rw[hwd]at HK
 obtain⟨s0,hs0⟩:∃b,(s==0)=b:=⟨_,rfl⟩
 try rw[hs0]at HK
 obtain⟨i0,hi0⟩:∃b,(i==0)=b:=⟨_,rfl⟩
 try rw[hi0]at HK
 obtain⟨d0,hd0⟩:∃b,(d==0)=b:=⟨_,rfl⟩
 try rw[hd0]at HK
 go_enter func111,ntmps111;go_upto_region 2 with((with_reducible first|refine(CisCi.out _).mono ?_|refine(CisRd.out _).mono ?_|refine(CisRs.out _).mono ?_|refine(CMR.out _).mono ?_);rintro e w' ⟨rfl,rfl⟩)
 go_cut[5]from 9 to 24 (fun b wx=>b= .bool (d0&&(s0&&(i0&&wd)))∧W0=wx)
 case first=>
  cases d0
  ·exact A8N
  ·skip
   cases s0
   ·exact A8N
   ·skip
    cases i0
    all_goals
    exact A8N
 case rest=>
  obtain⟨rfl,rfl⟩:=hcut;cases wd
  ·skip
   have HOK:Hid (okI ⟨31,d,s,z,i⟩=false):=by show _=_;have h:=HK.out;(try simp only[Bool.true_and,Bool.false_and,Bool.and_true,Bool.and_false]at h);exact h
   go_wp2_with((with_reducible first|refine(CisCi.out _).mono ?_|refine(CisRd.out _).mono ?_|refine(CisRs.out _).mono ?_|refine(CMR.out _).mono ?_);rintro e w' ⟨rfl,rfl⟩)
   clear hW0;refine wp_region_held_drew (S:=(fun wk=>Since W0 wk)) (by kernel_rfl) kp (fun hHeld=>?_);refine tk 0 ?_;refine tk 1 ?_;refine tk 2 ?_;refine tk 3 ?_;refine tk 4 ?_;refine tk 5 ?_;refine tk 6 ?_;refine tk 7 ?_;refine tk 10 ?_;refine rd1 8 (fun K hK=>?_)
   (go_simp;first|((with_reducible first|refine(CisCi.out _).mono ?_|refine(CisRd.out _).mono ?_|refine(CisRs.out _).mono ?_|refine(CMR.out _).mono ?_);rintro e w' ⟨rfl,rfl⟩))
   refine hK.out _ _ kp (fun hHeld=>?_);clear hK K;try go_frame
   refine tk 11 ?_;refine sk 12 ?_;refine sk 13 ?_;refine sk 14 ?_;refine tk 15 ?_;refine tk 16 ?_;refine sk 17 ?_;refine sk 18 ?_;refine sk 19 ?_;refine tk 20 ?_;refine tk 21 ?_;refine sk 22 ?_;refine sk 23 ?_;refine sk 24 ?_;refine tk 25 ?_;exact A4X
  ·skip
   cases hisRd:isR d
   ·rw[hisRd]at CisRd;rw[hisRd]at HK;have HisRd:=hid hisRd;clear hisRd;have HOK:Hid (okI ⟨31,d,s,z,i⟩=false):=by show _=_;have h:=HK.out;(try simp only[Bool.true_and,Bool.false_and,Bool.and_true,Bool.and_false]at h);exact h
    go_wp2_with((with_reducible first|refine(CisCi.out _).mono ?_|refine(CisRd.out _).mono ?_|refine(CisRs.out _).mono ?_|refine(CMR.out _).mono ?_);rintro e w' ⟨rfl,rfl⟩)
    clear hW0;refine wp_region_held_drew (S:=(fun wk=>Since W0 wk)) (by kernel_rfl) kp (fun hHeld=>?_);refine tk 0 ?_;refine tk 1 ?_;refine tk 2 ?_;refine tk 3 ?_;refine tk 4 ?_;refine tk 5 ?_;refine tk 6 ?_;refine tk 7 ?_;refine tk 10 ?_;refine rd1 8 (fun K hK=>?_)
    (go_simp;first|((with_reducible first|refine(CisCi.out _).mono ?_|refine(CisRd.out _).mono ?_|refine(CisRs.out _).mono ?_|refine(CMR.out _).mono ?_);rintro e w' ⟨rfl,rfl⟩))
    refine hK.out _ _ kp (fun hHeld=>?_);clear hK K;try go_frame
    refine tk 11 ?_;refine tk 12 ?_;refine tk 13 ?_;refine wpAnyH_ready (rs:=[9,14]) (by kernel_rfl) (by simp) ?_;refine A1 9 rfl (fun K hK=>?_) ?_
    ·go_simp;refine hK.out _ _ kp (fun hHeld=>?_);clear hK K;try go_frame
     refine rd1 14 (fun K hK=>?_)
     (go_simp;first|((with_reducible first|refine(CisCi.out _).mono ?_|refine(CisRd.out _).mono ?_|refine(CisRs.out _).mono ?_|refine(CMR.out _).mono ?_);rintro e w' ⟨rfl,rfl⟩))
     refine hK.out _ _ kp (fun hHeld=>?_);clear hK K;try go_frame
     refine tk 15 ?_;refine tk 16 ?_;refine sk 17 ?_;refine sk 18 ?_;refine sk 19 ?_;refine tk 20 ?_;refine tk 21 ?_;refine sk 22 ?_;refine sk 23 ?_;refine sk 24 ?_;refine tk 25 ?_;refine tk 26 ?_;refine tk 27 ?_;exact A2u
    refine A1 14 rfl (fun K hK=>?_) ?_
    ·(go_simp;first|((with_reducible first|refine(CisCi.out _).mono ?_|refine(CisRd.out _).mono ?_|refine(CisRs.out _).mono ?_|refine(CMR.out _).mono ?_);rintro e w' ⟨rfl,rfl⟩))
     refine hK.out _ _ kp (fun hHeld=>?_);clear hK K;try go_frame
     refine tk 15 ?_;refine tk 16 ?_;refine sk 17 ?_;refine sk 18 ?_;refine sk 19 ?_;refine tk 20 ?_;refine tk 21 ?_;refine sk 22 ?_;refine sk 23 ?_;refine sk 24 ?_;refine tk 25 ?_;exact A4X
    exact AllReadyH.nil
   ·rw[hisRd]at CisRd;rw[hisRd]at HK;have HisRd:=hid hisRd;clear hisRd;cases hisRs:isR s
    ·rw[hisRs]at CisRs;rw[hisRs]at HK;have HisRs:=hid hisRs;clear hisRs;have HOK:Hid (okI ⟨31,d,s,z,i⟩=false):=by show _=_;have h:=HK.out;(try simp only[Bool.true_and,Bool.false_and,Bool.and_true,Bool.and_false]at h);exact h
     go_wp2_with((with_reducible first|refine(CisCi.out _).mono ?_|refine(CisRd.out _).mono ?_|refine(CisRs.out _).mono ?_|refine(CMR.out _).mono ?_);rintro e w' ⟨rfl,rfl⟩)
     clear hW0;refine wp_region_held_drew (S:=(fun wk=>Since W0 wk)) (by kernel_rfl) kp (fun hHeld=>?_);refine tk 0 ?_;refine tk 1 ?_;refine tk 2 ?_;refine tk 3 ?_;refine tk 4 ?_;refine tk 5 ?_;refine tk 6 ?_;refine tk 7 ?_;refine tk 10 ?_;refine rd1 8 (fun K hK=>?_)
     (go_simp;first|((with_reducible first|refine(CisCi.out _).mono ?_|refine(CisRd.out _).mono ?_|refine(CisRs.out _).mono ?_|refine(CMR.out _).mono ?_);rintro e w' ⟨rfl,rfl⟩))
     refine hK.out _ _ kp (fun hHeld=>?_);clear hK K;try go_frame
     refine tk 11 ?_;refine tk 12 ?_;refine tk 13 ?_;refine wpAnyH_ready (rs:=[9,14]) (by kernel_rfl) (by simp) ?_;refine A1 9 rfl (fun K hK=>?_) ?_
     ·go_simp;refine hK.out _ _ kp (fun hHeld=>?_);clear hK K;try go_frame
      refine rd1 14 (fun K hK=>?_)
      (go_simp;first|((with_reducible first|refine(CisCi.out _).mono ?_|refine(CisRd.out _).mono ?_|refine(CisRs.out _).mono ?_|refine(CMR.out _).mono ?_);rintro e w' ⟨rfl,rfl⟩))
      refine hK.out _ _ kp (fun hHeld=>?_);clear hK K;try go_frame
      refine tk 15 ?_;refine tk 16 ?_;refine tk 17 ?_;refine tk 18 ?_;exact B0a
     refine A1 14 rfl (fun K hK=>?_) ?_
     ·(go_simp;first|((with_reducible first|refine(CisCi.out _).mono ?_|refine(CisRd.out _).mono ?_|refine(CisRs.out _).mono ?_|refine(CMR.out _).mono ?_);rintro e w' ⟨rfl,rfl⟩))
      refine hK.out _ _ kp (fun hHeld=>?_);clear hK K;try go_frame
      refine tk 15 ?_;refine tk 16 ?_;refine tk 17 ?_;refine tk 18 ?_;refine wpAnyH_ready (rs:=[9,19]) (by kernel_rfl) (by simp) ?_;refine A1 9 rfl (fun K hK=>?_) ?_
      ·go_simp;refine hK.out _ _ kp (fun hHeld=>?_);clear hK K;try go_frame
       exact B0a
      refine A1 19 rfl (fun K hK=>?_) ?_
      ·(go_simp;first|((with_reducible first|refine(CisCi.out _).mono ?_|refine(CisRd.out _).mono ?_|refine(CisRs.out _).mono ?_|refine(CMR.out _).mono ?_);rintro e w' ⟨rfl,rfl⟩))
       refine hK.out _ _ kp (fun hHeld=>?_);clear hK K;try go_frame
       refine tk 20 ?_;refine tk 21 ?_;refine sk 22 ?_;refine sk 23 ?_;refine sk 24 ?_;refine tk 25 ?_;exact A4X
      exact AllReadyH.nil
     exact AllReadyH.nil
    ·rw[hisRs]at CisRs;rw[hisRs]at HK;have HisRs:=hid hisRs;clear hisRs;have HOK:Hid (okI ⟨31,d,s,z,i⟩=isC i):=by show _=_;have h:=HK.out;(try simp only[Bool.true_and,Bool.false_and,Bool.and_true,Bool.and_false]at h);exact h
     go_wp2_with((with_reducible first|refine(CisCi.out _).mono ?_|refine(CisRd.out _).mono ?_|refine(CisRs.out _).mono ?_|refine(CMR.out _).mono ?_);rintro e w' ⟨rfl,rfl⟩)
     clear hW0;refine wp_region_held_drew (S:=(fun wk=>Since W0 wk)) (by kernel_rfl) kp (fun hHeld=>?_);refine tk 0 ?_;refine tk 1 ?_;refine tk 2 ?_;refine tk 3 ?_;refine tk 4 ?_;refine tk 5 ?_;refine tk 6 ?_;refine tk 7 ?_;refine tk 10 ?_;refine rd1 8 (fun K hK=>?_)
     (go_simp;first|((with_reducible first|refine(CisCi.out _).mono ?_|refine(CisRd.out _).mono ?_|refine(CisRs.out _).mono ?_|refine(CMR.out _).mono ?_);rintro e w' ⟨rfl,rfl⟩))
     refine hK.out _ _ kp (fun hHeld=>?_);clear hK K;try go_frame
     refine tk 11 ?_;refine tk 12 ?_;refine tk 13 ?_;refine wpAnyH_ready (rs:=[9,14]) (by kernel_rfl) (by simp) ?_;refine A1 9 rfl (fun K hK=>?_) ?_
     ·go_simp;refine hK.out _ _ kp (fun hHeld=>?_);clear hK K;try go_frame
      refine rd1 14 (fun K hK=>?_)
      (go_simp;first|((with_reducible first|refine(CisCi.out _).mono ?_|refine(CisRd.out _).mono ?_|refine(CisRs.out _).mono ?_|refine(CMR.out _).mono ?_);rintro e w' ⟨rfl,rfl⟩))
      refine hK.out _ _ kp (fun hHeld=>?_);clear hK K;try go_frame
      refine tk 15 ?_;refine tk 16 ?_;refine tk 17 ?_;refine tk 18 ?_;exact B0b
     refine A1 14 rfl (fun K hK=>?_) ?_
     ·(go_simp;first|((with_reducible first|refine(CisCi.out _).mono ?_|refine(CisRd.out _).mono ?_|refine(CisRs.out _).mono ?_|refine(CMR.out _).mono ?_);rintro e w' ⟨rfl,rfl⟩))
      refine hK.out _ _ kp (fun hHeld=>?_);clear hK K;try go_frame
      refine tk 15 ?_;refine tk 16 ?_;refine tk 17 ?_;refine tk 18 ?_;refine wpAnyH_ready (rs:=[9,19]) (by kernel_rfl) (by simp) ?_;refine A1 9 rfl (fun K hK=>?_) ?_
      ·go_simp;refine hK.out _ _ kp (fun hHeld=>?_);clear hK K;try go_frame
       exact B0b
      refine A1 19 rfl (fun K hK=>?_) ?_
      ·(go_simp;first|((with_reducible first|refine(CisCi.out _).mono ?_|refine(CisRd.out _).mono ?_|refine(CisRs.out _).mono ?_|refine(CMR.out _).mono ?_);rintro e w' ⟨rfl,rfl⟩))
       refine hK.out _ _ kp (fun hHeld=>?_);clear hK K;try go_frame
       refine tk 20 ?_;refine tk 21 ?_;refine tk 22 ?_;refine tk 23 ?_;refine wpAnyH_ready (rs:=[9,24]) (by kernel_rfl) (by simp) ?_;refine A1 9 rfl (fun K hK=>?_) ?_
       ·go_simp;refine hK.out _ _ kp (fun hHeld=>?_);clear hK K;try go_frame
        refine rd1 24 (fun K hK=>?_)
        (go_simp;first|((with_reducible first|refine(CisCi.out _).mono ?_|refine(CisRd.out _).mono ?_|refine(CisRs.out _).mono ?_|refine(CMR.out _).mono ?_);rintro e w' ⟨rfl,rfl⟩))
        refine hK.out _ _ kp (fun hHeld=>?_);clear hK K;try go_frame
        refine tk 25 ?_;refine tk 26 ?_;refine tk 27 ?_;exact A4R
       refine A1 24 rfl (fun K hK=>?_) ?_
       ·(go_simp;first|((with_reducible first|refine(CisCi.out _).mono ?_|refine(CisRd.out _).mono ?_|refine(CisRs.out _).mono ?_|refine(CMR.out _).mono ?_);rintro e w' ⟨rfl,rfl⟩))
        refine hK.out _ _ kp (fun hHeld=>?_);clear hK K;try go_frame
        refine tk 25 ?_;refine rd1 9 (fun K hK=>?_);go_simp;refine hK.out _ _ kp (fun hHeld=>?_);clear hK K;try go_frame
        refine tk 26 ?_;refine tk 27 ?_;exact A4R
       exact AllReadyH.nil
      exact AllReadyH.nil
     exact AllReadyH.nil
end Go.Proofs.YtdojafpjipcbjaaGreat
