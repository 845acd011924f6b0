/- Walks of the reference's coders, operation by operation and size by size. -/
import Derived.Deep.CutRange
import Derived.Test.YtdojafpjipcbjaaJ12
import Derived.Test.YtdojafpjipcbjaaJ16
namespace Go.Proofs.Ytdojafpjipcbjaa
open Go.RowKit
set_option linter.unusedVariables false
set_option linter.unusedSimpArgs false
theorem qMh7 {p : Prop} (h : p := by
  skip
  go_wp2_with (first | ((go_at_call 65; first | (with_reducible refine (CisBi.out _).mono ?_)); rintro e w' ⟨rfl, rfl⟩) | ((go_at_call 34; first | (with_reducible refine (CisCs.out _).mono ?_)); rintro e w' ⟨rfl, rfl⟩))
  go_meet
  case rel => exact ⟨by simp [*], rfl⟩) : p := h
theorem qMh6 {p : Prop} (h : p := by
  skip
  go_wp2_with (first | ((go_at_call 34; first | (with_reducible refine (CisCs.out _).mono ?_)); rintro e w' ⟨rfl, rfl⟩) | ((go_at_call 65; first | (with_reducible refine (CisW4i.out _).mono ?_)); rintro e w' ⟨rfl, rfl⟩))
  go_meet
  case rel => exact ⟨by simp [*], rfl⟩) : p := h
theorem qMh5 {p : Prop} (h : p := by
  refine wpAnyH_done (by kernel_rfl) ?_ _
  go_wp2_with fail
  go_ret2
  exact MRet.mk HOK.out.symm (fun h => absurd h (by rw [HOK.out]; simp)) (bel_litd HB.out)) : p := h
theorem qMh4 {p : Prop} (h : p := by
  refine hK.out _ _ kp (fun hHeld => ?_); clear hK K; try go_frame
  refine tk 10 ?_; refine tk 11 ?_; refine tk 12 ?_; refine tk 13 ?_; refine tk 14 ?_; refine tk 15 ?_
  refine tk 16 ?_; refine tk 17 ?_
  refine rd1 18 (fun K hK => ?_)
  (go_simp; first | ((go_at_call 34; first | (with_reducible refine (CisCs.out _).mono ?_)); rintro e w' ⟨rfl, rfl⟩) | ((go_at_call 65; first | (with_reducible refine (CisW4i.out _).mono ?_)); rintro e w' ⟨rfl, rfl⟩) | ((go_at_call 67; with_reducible refine (CY.out _ kp).mono ?_); rintro e w2 ⟨v2, rfl, hr2, hb2, hs2⟩; have HR2 := Lib.hid hr2; clear hr2))
  refine hK.out _ _ kp (fun hHeld => ?_); clear hK K; try go_frame
  refine tk 19 ?_; refine tk 20 ?_; refine sk 21 ?_; refine sk 22 ?_; refine sk 23 ?_; refine tk 24 ?_
  refine tk 25 ?_; refine tk 26 ?_
  refine wpAnyH_done (by kernel_rfl) ?_ _
  go_wp2_with fail
  go_ret2
  exact MRet.mk HOK.out.symm (fun h => absurd h (by rw [HOK.out]; simp)) (below_hop HB.out (by first | exact hs9 | exact below_drewN hs9 1))) : p := h
theorem qMh3 {p : Prop} (h : p := by
  refine sk 16 ?_; refine sk 17 ?_; refine sk 18 ?_; refine tk 19 ?_; refine tk 20 ?_; refine sk 21 ?_
  refine sk 22 ?_; refine sk 23 ?_; refine tk 24 ?_; refine tk 25 ?_; refine tk 26 ?_
  refine wpAnyH_done (by kernel_rfl) ?_ _
  go_wp2_with fail
  go_ret2
  exact MRet.mk HOK.out.symm (fun h => absurd h (by rw [HOK.out]; simp)) (below_hop HB.out (by first | exact hs9 | exact below_drewN hs9 1))) : p := h
theorem qMh2 {p : Prop} (h : p := by
  refine wpAnyH_done (by kernel_rfl) ?_ _
  go_wp2_with fail
  go_ret2
  exact MRet.mk HOK.out.symm (fun h => RowI.to (RowI.lit W0 #[_, _] [_, _] .u8 5 w.heap.size 2 HB.out.size rfl rfl (by unfold maxLen; simp)) (by first | rfl | (have hb1 := ok_fit h; simp [fitI, fitJ, isR, isM, isL, isC, isB, isW4, inZ] at hb1; simp [bodyI, IntKind.wrap_u8, IntKind.wrap_i64, ariI, i64_and255] <;> omega))) (bel_litd HB.out)) : p := h
theorem qMh1 {p : Prop} (h : p := by
  refine hK.out _ _ kp (fun hHeld => ?_); clear hK K; try go_frame
  refine tk 10 ?_; refine tk 11 ?_; refine tk 12 ?_; refine tk 13 ?_; refine tk 14 ?_; refine tk 15 ?_
  refine tk 16 ?_; refine tk 17 ?_
  refine rd1 18 (fun K hK => ?_)
  (go_simp; first | ((go_at_call 34; first | (with_reducible refine (CisCs.out _).mono ?_)); rintro e w' ⟨rfl, rfl⟩) | ((go_at_call 65; first | (with_reducible refine (CisW4i.out _).mono ?_)); rintro e w' ⟨rfl, rfl⟩) | ((go_at_call 67; with_reducible refine (CY.out _ kp).mono ?_); rintro e w2 ⟨v2, rfl, hr2, hb2, hs2⟩; have HR2 := Lib.hid hr2; clear hr2))
  refine hK.out _ _ kp (fun hHeld => ?_); clear hK K; try go_frame
  refine tk 19 ?_; refine tk 20 ?_; refine tk 21 ?_; refine tk 22 ?_
  refine rd1 23 (fun K hK => ?_)
  (go_simp; first | ((go_at_call 34; first | (with_reducible refine (CisCs.out _).mono ?_)); rintro e w' ⟨rfl, rfl⟩) | ((go_at_call 65; first | (with_reducible refine (CisW4i.out _).mono ?_)); rintro e w' ⟨rfl, rfl⟩) | ((go_at_call 67; with_reducible refine (CY.out _ kp).mono ?_); rintro e w2 ⟨v2, rfl, hr2, hb2, hs2⟩; have HR2 := Lib.hid hr2; clear hr2))
  refine hK.out _ _ kp (fun hHeld => ?_); clear hK K; try go_frame
  refine tk 24 ?_; refine tk 25 ?_; refine tk 26 ?_
  refine wpAnyH_done (by kernel_rfl) ?_ _
  go_wp2_with fail
  go_ret2
  exact MRet.mk HOK.out.symm (fun h => RowI.to (RowI.mono HR9.out HB.out.size) (by first | rfl | (have hb1 := ok_fit h; simp [fitI, fitJ, isR, isM, isL, isC, isB, isW4, inZ] at hb1; simp [bodyI, IntKind.wrap_u8, IntKind.wrap_i64, H8.out] <;> omega))) (below_hop HB.out (by first | exact hs9 | exact below_drewN hs9 1))) : p := h
theorem qMh0 {p : Prop} (h : p := by
  skip
  have HOK : Hid (okI ⟨33, d, s, z, i⟩ = false) := by show _ = _; have h := HK.out; (try simp only [Bool.true_and, Bool.false_and, Bool.and_true, Bool.and_false] at h); exact h
  go_wp2_with (first | ((go_at_call 65; first | (with_reducible refine (CisW4i.out _).mono ?_)); rintro e w' ⟨rfl, rfl⟩) | ((go_at_call 67; with_reducible refine (CY.out _ kp).mono ?_); rintro e w2 ⟨v2, rfl, hr2, hb2, hs2⟩; have HR2 := Lib.hid hr2; clear hr2; have q0b := q0 _ hs2; have q1b := q1 _ hs2; have q2b := q2 _ hs2; have q3b := q3 _ hs2; have q4b := q4 _ hs2; have HBW2 := Lib.hid hb2; have HSI2 := Lib.hid hs2; obtain ⟨a2, n2, rfl⟩ := HR2.out.shape; clear hb2) | (at_builtin; refine wpList_app_u8 rfl _ _ rfl W0.heap.size _ [233] rfl (RowI.below (RowI.lit W0 #[.int .u8 233] [233] .u8 5 W0.heap.size 1 (Nat.le_refl _) rfl rfl (by unfold maxLen; simp)) HBW2.out) _ (leB i 4) rfl (HR2.out.ints HY5.out) HPOS.out HLEN.out HSI2.out.size ?_; intro v9 w9 hr9 hb9; have HR9 := Lib.hid hr9; have hs9 := since_step HSI2.out hb9; clear hr9; have q0c := q0 _ hs9; have q1c := q1 _ hs9; have q2c := q2 _ hs9; have q3c := q3 _ hs9; have q4c := q4 _ hs9))
  all_goals go_ret2
  all_goals exact MRet.mk HOK.out.symm (fun h => absurd h (by rw [HOK.out]; simp)) (below_hop HB.out (by first | exact hs9 | exact below_drewN hs9 1))) : p := h
set_option maxRecDepth 100000 in
set_option maxHeartbeats 4000000 in
theorem ref_32s (d s i : Int) (w : World) (hi : I64 i) : Calls Try.prog 50 #[.agg #[.int .i64 32, .int .i64 d, .int .i64 s, .int .i64 8, .int .i64 i]] w (MRet ⟨32, d, s, 8, i⟩ w) := by
  obtain ⟨W0, hW0⟩ : ∃ W, w.alloc (.cells #[.int .i64 32, .int .i64 d, .int .i64 s, .int .i64 8, .int .i64 i] 25) = W := ⟨_, rfl⟩
  have HB : Hid (Below w.heap.size w W0) := by rw [← hW0]; exact (Below.refl _ _).alloc (Nat.le_refl _) _
  have hlt0 : w.heap.size < W0.heap.size := by rw [← hW0]; simp
  obtain ⟨q0, q1, q2, q3, q4⟩ := ins_box 32 d s 8 i w W0 hW0
  have h00 := Since.refl W0
  have q0a := q0 _ h00
  have q1a := q1 _ h00
  have q2a := q2 _ h00
  have q3a := q3 _ h00
  have q4a := q4 _ h00
  have HK : Hid (okI ⟨32, d, s, 8, i⟩ = (((d == 0)) && (isC s) && (isB i))) := by show _ = _; rw [Bool.eq_iff_iff]; simp [okI, szI, fitI, fitJ, isM, isR, isL, isC, isB, isW4] <;> omega
  have CisBi := Lib.hid (fun w => between_8 i w)
  have CisCs := Lib.hid (fun w => isCond_ref s w)
  obtain ⟨s0, hs0⟩ : ∃ b, (s == 0) = b := ⟨_, rfl⟩
  try rw [hs0] at HK
  obtain ⟨i0, hi0⟩ : ∃ b, (i == 0) = b := ⟨_, rfl⟩
  try rw [hi0] at HK
  obtain ⟨d0, hd0⟩ : ∃ b, (d == 0) = b := ⟨_, rfl⟩
  try rw [hd0] at HK
  go_enter Try.func50, Try.ntmps50
  go_upto_region 2 with (first | ((go_at_call 65; first | (with_reducible refine (CisBi.out _).mono ?_)); rintro e w' ⟨rfl, rfl⟩) | ((go_at_call 34; first | (with_reducible refine (CisCs.out _).mono ?_)); rintro e w' ⟨rfl, rfl⟩))
  go_cut [5] from 9 to 24 (fun b wx => b = .bool (d0 && (s0 && (i0 && false))) ∧ W0 = wx)
  case first =>
    cases d0
    · exact qMh7
    · skip
      cases s0
      · exact qMh7
      · skip
        cases i0
        all_goals
         exact qMh7
  case rest =>
    obtain ⟨rfl, rfl⟩ := hcut
    cases d0
    · skip
      have HOK : Hid (okI ⟨32, d, s, 8, i⟩ = false) := by show _ = _; have h := HK.out; (try simp only [Bool.true_and, Bool.false_and, Bool.and_true, Bool.and_false] at h); exact h
      go_wp2_with (first | ((go_at_call 65; first | (with_reducible refine (CisBi.out _).mono ?_)); rintro e w' ⟨rfl, rfl⟩) | ((go_at_call 34; first | (with_reducible refine (CisCs.out _).mono ?_)); rintro e w' ⟨rfl, rfl⟩))
      clear hW0
      refine wp_region_held_drew (S := (fun wk => Since W0 wk)) (by kernel_rfl) kp (fun hHeld => ?_)
      refine tk 0 ?_; refine tk 1 ?_; refine tk 2 ?_; refine tk 3 ?_; refine tk 4 ?_; refine tk 5 ?_; refine tk 6 ?_
      refine tk 7 ?_; refine tk 9 ?_; refine tk 10 ?_; refine tk 11 ?_; refine tk 12 ?_; refine sk 13 ?_; refine sk 14 ?_
      refine sk 15 ?_; refine tk 16 ?_; refine tk 17 ?_; refine sk 18 ?_; refine sk 19 ?_; refine sk 20 ?_
      refine tk 21 ?_
      refine rd1 8 (fun K hK => ?_)
      go_simp
      refine hK.out _ _ kp (fun hHeld => ?_); clear hK K; try go_frame
      refine tk 22 ?_; refine tk 23 ?_
      exact qMh5
    · skip
      cases hisCs : isC s
      · rw [hisCs] at CisCs
        rw [hisCs] at HK
        have HisCs := Lib.hid hisCs
        clear hisCs
        have HOK : Hid (okI ⟨32, d, s, 8, i⟩ = false) := by show _ = _; have h := HK.out; (try simp only [Bool.true_and, Bool.false_and, Bool.and_true, Bool.and_false] at h); exact h
        go_wp2_with (first | ((go_at_call 65; first | (with_reducible refine (CisBi.out _).mono ?_)); rintro e w' ⟨rfl, rfl⟩) | ((go_at_call 34; first | (with_reducible refine (CisCs.out _).mono ?_)); rintro e w' ⟨rfl, rfl⟩))
        clear hW0
        refine wp_region_held_drew (S := (fun wk => Since W0 wk)) (by kernel_rfl) kp (fun hHeld => ?_)
        refine tk 0 ?_; refine tk 1 ?_; refine tk 2 ?_; refine tk 3 ?_; refine tk 4 ?_; refine tk 5 ?_; refine tk 6 ?_
        refine tk 7 ?_; refine tk 9 ?_; refine tk 10 ?_; refine tk 11 ?_; refine tk 12 ?_; refine tk 13 ?_; refine tk 14 ?_
        refine wpAnyH_ready (rs := [8, 15]) (by kernel_rfl) (by simp) ?_
        refine AllReadyH_consL 8 rfl (fun K hK => ?_) ?_
        · go_simp
          refine hK.out _ _ kp (fun hHeld => ?_); clear hK K; try go_frame
          refine rd1 15 (fun K hK => ?_)
          (go_simp; first | ((go_at_call 65; first | (with_reducible refine (CisBi.out _).mono ?_)); rintro e w' ⟨rfl, rfl⟩) | ((go_at_call 34; first | (with_reducible refine (CisCs.out _).mono ?_)); rintro e w' ⟨rfl, rfl⟩))
          refine hK.out _ _ kp (fun hHeld => ?_); clear hK K; try go_frame
          refine tk 16 ?_; refine tk 17 ?_; refine sk 18 ?_; refine sk 19 ?_; refine sk 20 ?_; refine tk 21 ?_
          refine tk 22 ?_; refine tk 23 ?_
          exact qMh5
        refine AllReadyH_consL 15 rfl (fun K hK => ?_) ?_
        · (go_simp; first | ((go_at_call 65; first | (with_reducible refine (CisBi.out _).mono ?_)); rintro e w' ⟨rfl, rfl⟩) | ((go_at_call 34; first | (with_reducible refine (CisCs.out _).mono ?_)); rintro e w' ⟨rfl, rfl⟩))
          refine hK.out _ _ kp (fun hHeld => ?_); clear hK K; try go_frame
          refine tk 16 ?_; refine tk 17 ?_; refine sk 18 ?_; refine sk 19 ?_; refine sk 20 ?_; refine tk 21 ?_
          refine rd1 8 (fun K hK => ?_)
          go_simp
          refine hK.out _ _ kp (fun hHeld => ?_); clear hK K; try go_frame
          refine tk 22 ?_; refine tk 23 ?_
          exact qMh5
        exact AllReadyH.nil
      · rw [hisCs] at CisCs
        rw [hisCs] at HK
        have HisCs := Lib.hid hisCs
        clear hisCs
        have HOK : Hid (okI ⟨32, d, s, 8, i⟩ = isB i) := by show _ = _; have h := HK.out; (try simp only [Bool.true_and, Bool.false_and, Bool.and_true, Bool.and_false] at h); exact h
        go_wp2_with (first | ((go_at_call 65; first | (with_reducible refine (CisBi.out _).mono ?_)); rintro e w' ⟨rfl, rfl⟩) | ((go_at_call 34; first | (with_reducible refine (CisCs.out _).mono ?_)); rintro e w' ⟨rfl, rfl⟩))
        clear hW0
        refine wp_region_held_drew (S := (fun wk => Since W0 wk)) (by kernel_rfl) kp (fun hHeld => ?_)
        refine tk 0 ?_; refine tk 1 ?_; refine tk 2 ?_; refine tk 3 ?_; refine tk 4 ?_; refine tk 5 ?_; refine tk 6 ?_
        refine tk 7 ?_; refine tk 9 ?_; refine tk 10 ?_; refine tk 11 ?_; refine tk 12 ?_; refine tk 13 ?_; refine tk 14 ?_
        refine wpAnyH_ready (rs := [8, 15]) (by kernel_rfl) (by simp) ?_
        refine AllReadyH_consL 8 rfl (fun K hK => ?_) ?_
        · go_simp
          refine hK.out _ _ kp (fun hHeld => ?_); clear hK K; try go_frame
          refine rd1 15 (fun K hK => ?_)
          (go_simp; first | ((go_at_call 65; first | (with_reducible refine (CisBi.out _).mono ?_)); rintro e w' ⟨rfl, rfl⟩) | ((go_at_call 34; first | (with_reducible refine (CisCs.out _).mono ?_)); rintro e w' ⟨rfl, rfl⟩))
          refine hK.out _ _ kp (fun hHeld => ?_); clear hK K; try go_frame
          refine tk 16 ?_; refine tk 17 ?_; refine tk 18 ?_; refine tk 19 ?_
          refine rd1 20 (fun K hK => ?_)
          (go_simp; first | ((go_at_call 65; first | (with_reducible refine (CisBi.out _).mono ?_)); rintro e w' ⟨rfl, rfl⟩) | ((go_at_call 34; first | (with_reducible refine (CisCs.out _).mono ?_)); rintro e w' ⟨rfl, rfl⟩))
          refine hK.out _ _ kp (fun hHeld => ?_); clear hK K; try go_frame
          refine tk 21 ?_; refine tk 22 ?_; refine tk 23 ?_
          exact qMh2
        refine AllReadyH_consL 15 rfl (fun K hK => ?_) ?_
        · (go_simp; first | ((go_at_call 65; first | (with_reducible refine (CisBi.out _).mono ?_)); rintro e w' ⟨rfl, rfl⟩) | ((go_at_call 34; first | (with_reducible refine (CisCs.out _).mono ?_)); rintro e w' ⟨rfl, rfl⟩))
          refine hK.out _ _ kp (fun hHeld => ?_); clear hK K; try go_frame
          refine tk 16 ?_; refine tk 17 ?_; refine tk 18 ?_; refine tk 19 ?_
          refine wpAnyH_ready (rs := [8, 20]) (by kernel_rfl) (by simp) ?_
          refine AllReadyH_consL 8 rfl (fun K hK => ?_) ?_
          · go_simp
            refine hK.out _ _ kp (fun hHeld => ?_); clear hK K; try go_frame
            refine rd1 20 (fun K hK => ?_)
            (go_simp; first | ((go_at_call 65; first | (with_reducible refine (CisBi.out _).mono ?_)); rintro e w' ⟨rfl, rfl⟩) | ((go_at_call 34; first | (with_reducible refine (CisCs.out _).mono ?_)); rintro e w' ⟨rfl, rfl⟩))
            refine hK.out _ _ kp (fun hHeld => ?_); clear hK K; try go_frame
            refine tk 21 ?_; refine tk 22 ?_; refine tk 23 ?_
            exact qMh2
          refine AllReadyH_consL 20 rfl (fun K hK => ?_) ?_
          · (go_simp; first | ((go_at_call 65; first | (with_reducible refine (CisBi.out _).mono ?_)); rintro e w' ⟨rfl, rfl⟩) | ((go_at_call 34; first | (with_reducible refine (CisCs.out _).mono ?_)); rintro e w' ⟨rfl, rfl⟩))
            refine hK.out _ _ kp (fun hHeld => ?_); clear hK K; try go_frame
            refine tk 21 ?_
            refine rd1 8 (fun K hK => ?_)
            go_simp
            refine hK.out _ _ kp (fun hHeld => ?_); clear hK K; try go_frame
            refine tk 22 ?_; refine tk 23 ?_
            exact qMh2
          exact AllReadyH.nil
        exact AllReadyH.nil
set_option maxRecDepth 100000 in
set_option maxHeartbeats 4000000 in
theorem ref_32l (d s z i : Int) (w : World) (hi : I64 i) (h8 : (z == 8) = false) : Calls Try.prog 50 #[.agg #[.int .i64 32, .int .i64 d, .int .i64 s, .int .i64 z, .int .i64 i]] w (MRet ⟨32, d, s, z, i⟩ w) := by
  obtain ⟨W0, hW0⟩ : ∃ W, w.alloc (.cells #[.int .i64 32, .int .i64 d, .int .i64 s, .int .i64 z, .int .i64 i] 25) = W := ⟨_, rfl⟩
  have HB : Hid (Below w.heap.size w W0) := by rw [← hW0]; exact (Below.refl _ _).alloc (Nat.le_refl _) _
  have hlt0 : w.heap.size < W0.heap.size := by rw [← hW0]; simp
  obtain ⟨q0, q1, q2, q3, q4⟩ := ins_box 32 d s z i w W0 hW0
  have h00 := Since.refl W0
  have H8 : Hid (¬ z = 8) := by show ¬ _; simpa using h8
  have q0a := q0 _ h00
  have q1a := q1 _ h00
  have q2a := q2 _ h00
  have q3a := q3 _ h00
  have q4a := q4 _ h00
  have HK : Hid (okI ⟨32, d, s, z, i⟩ = (((z == 32)) && ((d == 0)) && (isC s) && (isW4 i))) := by show _ = _; have h8b := h8; simp at h8b; rw [Bool.eq_iff_iff]; simp [okI, szI, fitI, fitJ, isM, isR, isL, isC, isB, isW4] <;> omega
  have CisCs := Lib.hid (fun w => isCond_ref s w)
  have CisW4i := Lib.hid (fun w => between_32 i w)
  have CY : Hid (∀ wk, Since W0 wk → Calls Try.prog 67 #[.int .i64 i, .int .i64 (4)] wk fun e w' => ∃ v, e = .returned v ∧ RowI w' W0.heap.size 5 .u8 v (leB i 4) ∧ Below wk.heap.size wk w' ∧ Since W0 w') := fun wk h => acc_r (little_any i 4 wk hi (by decide)) h
  have hml : (leB i 4).length = 4 := by simp [mmB, leB_length]
  have HLEN : Hid (([(0 : Int), (0 : Int)]).length + (leB i 4).length ≤ 100000) := by show _ ≤ _; rw [hml]; decide
  have HPOS : Hid (0 < (leB i 4).length) := by show 0 < _; omega
  have HY5 : Hid ((leB i 4).length ≤ 140737488351232) := by show _ ≤ _; omega
  clear hml
  obtain ⟨wd, hwd⟩ : ∃ b, (z == 32) = b := ⟨_, rfl⟩
  try rw [hwd] at HK
  obtain ⟨s0, hs0⟩ : ∃ b, (s == 0) = b := ⟨_, rfl⟩
  try rw [hs0] at HK
  obtain ⟨i0, hi0⟩ : ∃ b, (i == 0) = b := ⟨_, rfl⟩
  try rw [hi0] at HK
  obtain ⟨d0, hd0⟩ : ∃ b, (d == 0) = b := ⟨_, rfl⟩
  try rw [hd0] at HK
  go_enter Try.func50, Try.ntmps50
  go_upto_region 2 with (first | ((go_at_call 34; first | (with_reducible refine (CisCs.out _).mono ?_)); rintro e w' ⟨rfl, rfl⟩) | ((go_at_call 65; first | (with_reducible refine (CisW4i.out _).mono ?_)); rintro e w' ⟨rfl, rfl⟩))
  go_cut [5] from 9 to 24 (fun b wx => b = .bool (d0 && (s0 && (i0 && wd))) ∧ W0 = wx)
  case first =>
    cases d0
    · exact qMh6
    · skip
      cases s0
      · exact qMh6
      · skip
        cases i0
        all_goals
         exact qMh6
  case rest =>
    obtain ⟨rfl, rfl⟩ := hcut
    cases wd
    · skip
      have HOK : Hid (okI ⟨32, d, s, z, i⟩ = false) := by show _ = _; have h := HK.out; (try simp only [Bool.true_and, Bool.false_and, Bool.and_true, Bool.and_false] at h); exact h
      go_wp2_with (first | ((go_at_call 34; first | (with_reducible refine (CisCs.out _).mono ?_)); rintro e w' ⟨rfl, rfl⟩) | ((go_at_call 65; first | (with_reducible refine (CisW4i.out _).mono ?_)); rintro e w' ⟨rfl, rfl⟩))
      clear hW0
      refine wp_region_held_drew (S := (fun wk => Since W0 wk)) (by kernel_rfl) kp (fun hHeld => ?_)
      refine tk 0 ?_; refine tk 1 ?_; refine tk 2 ?_; refine tk 3 ?_; refine tk 5 ?_; refine tk 6 ?_; refine tk 9 ?_
      refine wpAnyH_ready (rs := [4, 7]) (by kernel_rfl) (by simp) ?_
      refine AllReadyH_consL 4 rfl (fun K hK => ?_) ?_
      · go_simp
        refine hK.out _ _ kp (fun hHeld => ?_); clear hK K; try go_frame
        refine rd1 7 (fun K hK => ?_)
        (go_simp; first | ((go_at_call 34; first | (with_reducible refine (CisCs.out _).mono ?_)); rintro e w' ⟨rfl, rfl⟩) | ((go_at_call 65; first | (with_reducible refine (CisW4i.out _).mono ?_)); rintro e w' ⟨rfl, rfl⟩) | ((go_at_call 67; with_reducible refine (CY.out _ kp).mono ?_); rintro e w2 ⟨v2, rfl, hr2, hb2, hs2⟩; have HR2 := Lib.hid hr2; clear hr2))
        refine hK.out _ _ kp (fun hHeld => ?_); clear hK K; try go_frame
        refine rd1 8 (fun K hK => ?_)
        first | (refine ap [15, (IntKind.u8.wrap (IntKind.i64.wrap (128 + s)))] (RowI.below (rl2 15 (IntKind.u8.wrap (IntKind.i64.wrap (128 + s)))) hb2) (leB i 4) (HR2.out.ints HY5.out) HPOS.out HLEN.out hs2.size (fun v9 w9 HR9 hb9 hs9 => ?_)) | (refine ap [15, (IntKind.u8.wrap (IntKind.i64.wrap (128 + s)))] (RowI.below (rl2d 15 (IntKind.u8.wrap (IntKind.i64.wrap (128 + s)))) hb2) (leB i 4) (HR2.out.ints HY5.out) HPOS.out HLEN.out hs2.size (fun v9 w9 HR9 hb9 hs9 => ?_))
        refine hK.out _ _ kp (fun hHeld => ?_); clear hK K; try go_frame
        refine tk 10 ?_; refine sk 11 ?_; refine sk 12 ?_; refine sk 13 ?_; refine tk 14 ?_; refine tk 15 ?_
        exact qMh3
      refine AllReadyH_consL 7 rfl (fun K hK => ?_) ?_
      · (go_simp; first | ((go_at_call 34; first | (with_reducible refine (CisCs.out _).mono ?_)); rintro e w' ⟨rfl, rfl⟩) | ((go_at_call 65; first | (with_reducible refine (CisW4i.out _).mono ?_)); rintro e w' ⟨rfl, rfl⟩) | ((go_at_call 67; with_reducible refine (CY.out _ kp).mono ?_); rintro e w2 ⟨v2, rfl, hr2, hb2, hs2⟩; have HR2 := Lib.hid hr2; clear hr2))
        refine hK.out _ _ kp (fun hHeld => ?_); clear hK K; try go_frame
        refine rd1 4 (fun K hK => ?_)
        go_simp
        refine hK.out _ _ kp (fun hHeld => ?_); clear hK K; try go_frame
        refine rd1 8 (fun K hK => ?_)
        first | (refine ap [15, (IntKind.u8.wrap (IntKind.i64.wrap (128 + s)))] (rl2 15 (IntKind.u8.wrap (IntKind.i64.wrap (128 + s)))) (leB i 4) ((HR2.out.below bl1).ints HY5.out) HPOS.out HLEN.out (Nat.le_trans hs2.size (by simp)) (fun v9 w9 HR9 hb9 hs9 => ?_)) | (refine ap [15, (IntKind.u8.wrap (IntKind.i64.wrap (128 + s)))] (rl2d 15 (IntKind.u8.wrap (IntKind.i64.wrap (128 + s)))) (leB i 4) ((HR2.out.below bl1d).ints HY5.out) HPOS.out HLEN.out (Nat.le_trans hs2.size (by simp)) (fun v9 w9 HR9 hb9 hs9 => ?_))
        refine hK.out _ _ kp (fun hHeld => ?_); clear hK K; try go_frame
        refine tk 10 ?_; refine sk 11 ?_; refine sk 12 ?_; refine sk 13 ?_; refine tk 14 ?_; refine tk 15 ?_
        exact qMh3
      exact AllReadyH.nil
    · skip
      cases d0
      · skip
        have HOK : Hid (okI ⟨32, d, s, z, i⟩ = false) := by show _ = _; have h := HK.out; (try simp only [Bool.true_and, Bool.false_and, Bool.and_true, Bool.and_false] at h); exact h
        go_wp2_with (first | ((go_at_call 34; first | (with_reducible refine (CisCs.out _).mono ?_)); rintro e w' ⟨rfl, rfl⟩) | ((go_at_call 65; first | (with_reducible refine (CisW4i.out _).mono ?_)); rintro e w' ⟨rfl, rfl⟩))
        clear hW0
        refine wp_region_held_drew (S := (fun wk => Since W0 wk)) (by kernel_rfl) kp (fun hHeld => ?_)
        refine tk 0 ?_; refine tk 1 ?_; refine tk 2 ?_; refine tk 3 ?_; refine tk 5 ?_; refine tk 6 ?_; refine tk 9 ?_
        refine wpAnyH_ready (rs := [4, 7]) (by kernel_rfl) (by simp) ?_
        refine AllReadyH_consL 4 rfl (fun K hK => ?_) ?_
        · go_simp
          refine hK.out _ _ kp (fun hHeld => ?_); clear hK K; try go_frame
          refine rd1 7 (fun K hK => ?_)
          (go_simp; first | ((go_at_call 34; first | (with_reducible refine (CisCs.out _).mono ?_)); rintro e w' ⟨rfl, rfl⟩) | ((go_at_call 65; first | (with_reducible refine (CisW4i.out _).mono ?_)); rintro e w' ⟨rfl, rfl⟩) | ((go_at_call 67; with_reducible refine (CY.out _ kp).mono ?_); rintro e w2 ⟨v2, rfl, hr2, hb2, hs2⟩; have HR2 := Lib.hid hr2; clear hr2))
          refine hK.out _ _ kp (fun hHeld => ?_); clear hK K; try go_frame
          refine rd1 8 (fun K hK => ?_)
          first | (refine ap [15, (IntKind.u8.wrap (IntKind.i64.wrap (128 + s)))] (RowI.below (rl2 15 (IntKind.u8.wrap (IntKind.i64.wrap (128 + s)))) hb2) (leB i 4) (HR2.out.ints HY5.out) HPOS.out HLEN.out hs2.size (fun v9 w9 HR9 hb9 hs9 => ?_)) | (refine ap [15, (IntKind.u8.wrap (IntKind.i64.wrap (128 + s)))] (RowI.below (rl2d 15 (IntKind.u8.wrap (IntKind.i64.wrap (128 + s)))) hb2) (leB i 4) (HR2.out.ints HY5.out) HPOS.out HLEN.out hs2.size (fun v9 w9 HR9 hb9 hs9 => ?_))
          refine hK.out _ _ kp (fun hHeld => ?_); clear hK K; try go_frame
          refine tk 10 ?_; refine tk 11 ?_; refine tk 12 ?_; refine tk 13 ?_; refine tk 14 ?_; refine tk 15 ?_
          exact qMh3
        refine AllReadyH_consL 7 rfl (fun K hK => ?_) ?_
        · (go_simp; first | ((go_at_call 34; first | (with_reducible refine (CisCs.out _).mono ?_)); rintro e w' ⟨rfl, rfl⟩) | ((go_at_call 65; first | (with_reducible refine (CisW4i.out _).mono ?_)); rintro e w' ⟨rfl, rfl⟩) | ((go_at_call 67; with_reducible refine (CY.out _ kp).mono ?_); rintro e w2 ⟨v2, rfl, hr2, hb2, hs2⟩; have HR2 := Lib.hid hr2; clear hr2))
          refine hK.out _ _ kp (fun hHeld => ?_); clear hK K; try go_frame
          refine rd1 4 (fun K hK => ?_)
          go_simp
          refine hK.out _ _ kp (fun hHeld => ?_); clear hK K; try go_frame
          refine rd1 8 (fun K hK => ?_)
          first | (refine ap [15, (IntKind.u8.wrap (IntKind.i64.wrap (128 + s)))] (rl2 15 (IntKind.u8.wrap (IntKind.i64.wrap (128 + s)))) (leB i 4) ((HR2.out.below bl1).ints HY5.out) HPOS.out HLEN.out (Nat.le_trans hs2.size (by simp)) (fun v9 w9 HR9 hb9 hs9 => ?_)) | (refine ap [15, (IntKind.u8.wrap (IntKind.i64.wrap (128 + s)))] (rl2d 15 (IntKind.u8.wrap (IntKind.i64.wrap (128 + s)))) (leB i 4) ((HR2.out.below bl1d).ints HY5.out) HPOS.out HLEN.out (Nat.le_trans hs2.size (by simp)) (fun v9 w9 HR9 hb9 hs9 => ?_))
          refine hK.out _ _ kp (fun hHeld => ?_); clear hK K; try go_frame
          refine tk 10 ?_; refine tk 11 ?_; refine tk 12 ?_; refine tk 13 ?_; refine tk 14 ?_; refine tk 15 ?_
          exact qMh3
        exact AllReadyH.nil
      · skip
        cases hisCs : isC s
        · rw [hisCs] at CisCs
          rw [hisCs] at HK
          have HisCs := Lib.hid hisCs
          clear hisCs
          have HOK : Hid (okI ⟨32, d, s, z, i⟩ = false) := by show _ = _; have h := HK.out; (try simp only [Bool.true_and, Bool.false_and, Bool.and_true, Bool.and_false] at h); exact h
          go_wp2_with (first | ((go_at_call 34; first | (with_reducible refine (CisCs.out _).mono ?_)); rintro e w' ⟨rfl, rfl⟩) | ((go_at_call 65; first | (with_reducible refine (CisW4i.out _).mono ?_)); rintro e w' ⟨rfl, rfl⟩))
          clear hW0
          refine wp_region_held_drew (S := (fun wk => Since W0 wk)) (by kernel_rfl) kp (fun hHeld => ?_)
          refine tk 0 ?_; refine tk 1 ?_; refine tk 2 ?_; refine tk 3 ?_; refine tk 5 ?_; refine tk 6 ?_; refine tk 9 ?_
          refine wpAnyH_ready (rs := [4, 7]) (by kernel_rfl) (by simp) ?_
          refine AllReadyH_consL 4 rfl (fun K hK => ?_) ?_
          · go_simp
            refine hK.out _ _ kp (fun hHeld => ?_); clear hK K; try go_frame
            refine rd1 7 (fun K hK => ?_)
            (go_simp; first | ((go_at_call 34; first | (with_reducible refine (CisCs.out _).mono ?_)); rintro e w' ⟨rfl, rfl⟩) | ((go_at_call 65; first | (with_reducible refine (CisW4i.out _).mono ?_)); rintro e w' ⟨rfl, rfl⟩) | ((go_at_call 67; with_reducible refine (CY.out _ kp).mono ?_); rintro e w2 ⟨v2, rfl, hr2, hb2, hs2⟩; have HR2 := Lib.hid hr2; clear hr2))
            refine hK.out _ _ kp (fun hHeld => ?_); clear hK K; try go_frame
            refine rd1 8 (fun K hK => ?_)
            first | (refine ap [15, (IntKind.u8.wrap (IntKind.i64.wrap (128 + s)))] (RowI.below (rl2 15 (IntKind.u8.wrap (IntKind.i64.wrap (128 + s)))) hb2) (leB i 4) (HR2.out.ints HY5.out) HPOS.out HLEN.out hs2.size (fun v9 w9 HR9 hb9 hs9 => ?_)) | (refine ap [15, (IntKind.u8.wrap (IntKind.i64.wrap (128 + s)))] (RowI.below (rl2d 15 (IntKind.u8.wrap (IntKind.i64.wrap (128 + s)))) hb2) (leB i 4) (HR2.out.ints HY5.out) HPOS.out HLEN.out hs2.size (fun v9 w9 HR9 hb9 hs9 => ?_))
            exact qMh4
          refine AllReadyH_consL 7 rfl (fun K hK => ?_) ?_
          · (go_simp; first | ((go_at_call 34; first | (with_reducible refine (CisCs.out _).mono ?_)); rintro e w' ⟨rfl, rfl⟩) | ((go_at_call 65; first | (with_reducible refine (CisW4i.out _).mono ?_)); rintro e w' ⟨rfl, rfl⟩) | ((go_at_call 67; with_reducible refine (CY.out _ kp).mono ?_); rintro e w2 ⟨v2, rfl, hr2, hb2, hs2⟩; have HR2 := Lib.hid hr2; clear hr2))
            refine hK.out _ _ kp (fun hHeld => ?_); clear hK K; try go_frame
            refine rd1 4 (fun K hK => ?_)
            go_simp
            refine hK.out _ _ kp (fun hHeld => ?_); clear hK K; try go_frame
            refine rd1 8 (fun K hK => ?_)
            first | (refine ap [15, (IntKind.u8.wrap (IntKind.i64.wrap (128 + s)))] (rl2 15 (IntKind.u8.wrap (IntKind.i64.wrap (128 + s)))) (leB i 4) ((HR2.out.below bl1).ints HY5.out) HPOS.out HLEN.out (Nat.le_trans hs2.size (by simp)) (fun v9 w9 HR9 hb9 hs9 => ?_)) | (refine ap [15, (IntKind.u8.wrap (IntKind.i64.wrap (128 + s)))] (rl2d 15 (IntKind.u8.wrap (IntKind.i64.wrap (128 + s)))) (leB i 4) ((HR2.out.below bl1d).ints HY5.out) HPOS.out HLEN.out (Nat.le_trans hs2.size (by simp)) (fun v9 w9 HR9 hb9 hs9 => ?_))
            exact qMh4
          exact AllReadyH.nil
        · rw [hisCs] at CisCs
          rw [hisCs] at HK
          have HisCs := Lib.hid hisCs
          clear hisCs
          have HOK : Hid (okI ⟨32, d, s, z, i⟩ = isW4 i) := by show _ = _; have h := HK.out; (try simp only [Bool.true_and, Bool.false_and, Bool.and_true, Bool.and_false] at h); exact h
          go_wp2_with (first | ((go_at_call 34; first | (with_reducible refine (CisCs.out _).mono ?_)); rintro e w' ⟨rfl, rfl⟩) | ((go_at_call 65; first | (with_reducible refine (CisW4i.out _).mono ?_)); rintro e w' ⟨rfl, rfl⟩))
          clear hW0
          refine wp_region_held_drew (S := (fun wk => Since W0 wk)) (by kernel_rfl) kp (fun hHeld => ?_)
          refine tk 0 ?_; refine tk 1 ?_; refine tk 2 ?_; refine tk 3 ?_; refine tk 5 ?_; refine tk 6 ?_; refine tk 9 ?_
          refine wpAnyH_ready (rs := [4, 7]) (by kernel_rfl) (by simp) ?_
          refine AllReadyH_consL 4 rfl (fun K hK => ?_) ?_
          · go_simp
            refine hK.out _ _ kp (fun hHeld => ?_); clear hK K; try go_frame
            refine rd1 7 (fun K hK => ?_)
            (go_simp; first | ((go_at_call 34; first | (with_reducible refine (CisCs.out _).mono ?_)); rintro e w' ⟨rfl, rfl⟩) | ((go_at_call 65; first | (with_reducible refine (CisW4i.out _).mono ?_)); rintro e w' ⟨rfl, rfl⟩) | ((go_at_call 67; with_reducible refine (CY.out _ kp).mono ?_); rintro e w2 ⟨v2, rfl, hr2, hb2, hs2⟩; have HR2 := Lib.hid hr2; clear hr2))
            refine hK.out _ _ kp (fun hHeld => ?_); clear hK K; try go_frame
            refine rd1 8 (fun K hK => ?_)
            first | (refine ap [15, (IntKind.u8.wrap (IntKind.i64.wrap (128 + s)))] (RowI.below (rl2 15 (IntKind.u8.wrap (IntKind.i64.wrap (128 + s)))) hb2) (leB i 4) (HR2.out.ints HY5.out) HPOS.out HLEN.out hs2.size (fun v9 w9 HR9 hb9 hs9 => ?_)) | (refine ap [15, (IntKind.u8.wrap (IntKind.i64.wrap (128 + s)))] (RowI.below (rl2d 15 (IntKind.u8.wrap (IntKind.i64.wrap (128 + s)))) hb2) (leB i 4) (HR2.out.ints HY5.out) HPOS.out HLEN.out hs2.size (fun v9 w9 HR9 hb9 hs9 => ?_))
            exact qMh1
          refine AllReadyH_consL 7 rfl (fun K hK => ?_) ?_
          · (go_simp; first | ((go_at_call 34; first | (with_reducible refine (CisCs.out _).mono ?_)); rintro e w' ⟨rfl, rfl⟩) | ((go_at_call 65; first | (with_reducible refine (CisW4i.out _).mono ?_)); rintro e w' ⟨rfl, rfl⟩) | ((go_at_call 67; with_reducible refine (CY.out _ kp).mono ?_); rintro e w2 ⟨v2, rfl, hr2, hb2, hs2⟩; have HR2 := Lib.hid hr2; clear hr2))
            refine hK.out _ _ kp (fun hHeld => ?_); clear hK K; try go_frame
            refine rd1 4 (fun K hK => ?_)
            go_simp
            refine hK.out _ _ kp (fun hHeld => ?_); clear hK K; try go_frame
            refine rd1 8 (fun K hK => ?_)
            first | (refine ap [15, (IntKind.u8.wrap (IntKind.i64.wrap (128 + s)))] (rl2 15 (IntKind.u8.wrap (IntKind.i64.wrap (128 + s)))) (leB i 4) ((HR2.out.below bl1).ints HY5.out) HPOS.out HLEN.out (Nat.le_trans hs2.size (by simp)) (fun v9 w9 HR9 hb9 hs9 => ?_)) | (refine ap [15, (IntKind.u8.wrap (IntKind.i64.wrap (128 + s)))] (rl2d 15 (IntKind.u8.wrap (IntKind.i64.wrap (128 + s)))) (leB i 4) ((HR2.out.below bl1d).ints HY5.out) HPOS.out HLEN.out (Nat.le_trans hs2.size (by simp)) (fun v9 w9 HR9 hb9 hs9 => ?_))
            exact qMh1
          exact AllReadyH.nil
set_option maxRecDepth 100000 in
set_option maxHeartbeats 4000000 in
theorem ref_33s (d s i : Int) (w : World) (hi : I64 i) : Calls Try.prog 50 #[.agg #[.int .i64 33, .int .i64 d, .int .i64 s, .int .i64 8, .int .i64 i]] w (MRet ⟨33, d, s, 8, i⟩ w) := by
  obtain ⟨W0, hW0⟩ : ∃ W, w.alloc (.cells #[.int .i64 33, .int .i64 d, .int .i64 s, .int .i64 8, .int .i64 i] 25) = W := ⟨_, rfl⟩
  have HB : Hid (Below w.heap.size w W0) := by rw [← hW0]; exact (Below.refl _ _).alloc (Nat.le_refl _) _
  have hlt0 : w.heap.size < W0.heap.size := by rw [← hW0]; simp
  obtain ⟨q0, q1, q2, q3, q4⟩ := ins_box 33 d s 8 i w W0 hW0
  have h00 := Since.refl W0
  have q0a := q0 _ h00
  have q1a := q1 _ h00
  have q2a := q2 _ h00
  have q3a := q3 _ h00
  have q4a := q4 _ h00
  have HK : Hid (okI ⟨33, d, s, 8, i⟩ = (((d == 0)) && ((s == 0)) && (isB i))) := by show _ = _; rw [Bool.eq_iff_iff]; simp [okI, szI, fitI, fitJ, isM, isR, isL, isC, isB, isW4] <;> omega
  have CisBi := Lib.hid (fun w => between_8 i w)
  obtain ⟨s0, hs0⟩ : ∃ b, (s == 0) = b := ⟨_, rfl⟩
  try rw [hs0] at HK
  obtain ⟨i0, hi0⟩ : ∃ b, (i == 0) = b := ⟨_, rfl⟩
  try rw [hi0] at HK
  obtain ⟨d0, hd0⟩ : ∃ b, (d == 0) = b := ⟨_, rfl⟩
  try rw [hd0] at HK
  go_enter Try.func50, Try.ntmps50
  go_upto_region 2 with (first | ((go_at_call 65; first | (with_reducible refine (CisBi.out _).mono ?_)); rintro e w' ⟨rfl, rfl⟩))
  go_cut [5] from 9 to 24 (fun b wx => b = .bool (d0 && (s0 && (i0 && false))) ∧ W0 = wx)
  case first =>
    cases d0
    · skip
      go_wp2_with (first | ((go_at_call 65; first | (with_reducible refine (CisBi.out _).mono ?_)); rintro e w' ⟨rfl, rfl⟩))
      go_meet
      case rel => exact ⟨by simp [*], rfl⟩
    · skip
      cases s0
      · skip
        go_wp2_with (first | ((go_at_call 65; first | (with_reducible refine (CisBi.out _).mono ?_)); rintro e w' ⟨rfl, rfl⟩))
        go_meet
        case rel => exact ⟨by simp [*], rfl⟩
      · skip
        cases i0
        all_goals
         skip
         go_wp2_with (first | ((go_at_call 65; first | (with_reducible refine (CisBi.out _).mono ?_)); rintro e w' ⟨rfl, rfl⟩))
         go_meet
         case rel => exact ⟨by simp [*], rfl⟩
  case rest =>
    obtain ⟨rfl, rfl⟩ := hcut
    cases d0
    · skip
      have HOK : Hid (okI ⟨33, d, s, 8, i⟩ = false) := by show _ = _; have h := HK.out; (try simp only [Bool.true_and, Bool.false_and, Bool.and_true, Bool.and_false] at h); exact h
      go_wp2_with (first | ((go_at_call 65; first | (with_reducible refine (CisBi.out _).mono ?_)); rintro e w' ⟨rfl, rfl⟩))
      clear hW0
      refine wp_region_held_drew (S := (fun wk => Since W0 wk)) (by kernel_rfl) kp (fun hHeld => ?_)
      refine tk 0 ?_; refine tk 1 ?_; refine tk 2 ?_; refine tk 3 ?_; refine tk 5 ?_; refine tk 6 ?_; refine tk 7 ?_
      refine tk 8 ?_; refine sk 9 ?_; refine sk 10 ?_; refine sk 11 ?_; refine tk 12 ?_; refine tk 13 ?_; refine sk 14 ?_
      refine sk 15 ?_; refine sk 16 ?_; refine tk 17 ?_
      refine rd1 4 (fun K hK => ?_)
      go_simp
      refine hK.out _ _ kp (fun hHeld => ?_); clear hK K; try go_frame
      refine tk 18 ?_; refine tk 19 ?_
      exact qMh5
    · skip
      cases s0
      · skip
        have HOK : Hid (okI ⟨33, d, s, 8, i⟩ = false) := by show _ = _; have h := HK.out; (try simp only [Bool.true_and, Bool.false_and, Bool.and_true, Bool.and_false] at h); exact h
        go_wp2_with (first | ((go_at_call 65; first | (with_reducible refine (CisBi.out _).mono ?_)); rintro e w' ⟨rfl, rfl⟩))
        clear hW0
        refine wp_region_held_drew (S := (fun wk => Since W0 wk)) (by kernel_rfl) kp (fun hHeld => ?_)
        refine tk 0 ?_; refine tk 1 ?_; refine tk 2 ?_; refine tk 3 ?_; refine tk 5 ?_; refine tk 6 ?_; refine tk 7 ?_
        refine tk 8 ?_; refine tk 9 ?_; refine tk 10 ?_; refine tk 11 ?_; refine tk 12 ?_; refine tk 13 ?_; refine sk 14 ?_
        refine sk 15 ?_; refine sk 16 ?_; refine tk 17 ?_
        refine rd1 4 (fun K hK => ?_)
        go_simp
        refine hK.out _ _ kp (fun hHeld => ?_); clear hK K; try go_frame
        refine tk 18 ?_; refine tk 19 ?_
        exact qMh5
      · skip
        have HOK : Hid (okI ⟨33, d, s, 8, i⟩ = isB i) := by show _ = _; have h := HK.out; (try simp only [Bool.true_and, Bool.false_and, Bool.and_true, Bool.and_false] at h); exact h
        go_wp2_with (first | ((go_at_call 65; first | (with_reducible refine (CisBi.out _).mono ?_)); rintro e w' ⟨rfl, rfl⟩))
        clear hW0
        refine wp_region_held_drew (S := (fun wk => Since W0 wk)) (by kernel_rfl) kp (fun hHeld => ?_)
        refine tk 0 ?_; refine tk 1 ?_; refine tk 2 ?_; refine tk 3 ?_; refine tk 5 ?_; refine tk 6 ?_; refine tk 7 ?_
        refine tk 8 ?_; refine tk 9 ?_; refine tk 10 ?_; refine tk 11 ?_; refine tk 12 ?_; refine tk 13 ?_; refine tk 14 ?_
        refine tk 15 ?_
        refine wpAnyH_ready (rs := [4, 16]) (by kernel_rfl) (by simp) ?_
        refine AllReadyH_consL 4 rfl (fun K hK => ?_) ?_
        · go_simp
          refine hK.out _ _ kp (fun hHeld => ?_); clear hK K; try go_frame
          refine rd1 16 (fun K hK => ?_)
          (go_simp; first | ((go_at_call 65; first | (with_reducible refine (CisBi.out _).mono ?_)); rintro e w' ⟨rfl, rfl⟩))
          refine hK.out _ _ kp (fun hHeld => ?_); clear hK K; try go_frame
          refine tk 17 ?_; refine tk 18 ?_; refine tk 19 ?_
          exact qMh2
        refine AllReadyH_consL 16 rfl (fun K hK => ?_) ?_
        · (go_simp; first | ((go_at_call 65; first | (with_reducible refine (CisBi.out _).mono ?_)); rintro e w' ⟨rfl, rfl⟩))
          refine hK.out _ _ kp (fun hHeld => ?_); clear hK K; try go_frame
          refine tk 17 ?_
          refine rd1 4 (fun K hK => ?_)
          go_simp
          refine hK.out _ _ kp (fun hHeld => ?_); clear hK K; try go_frame
          refine tk 18 ?_; refine tk 19 ?_
          exact qMh2
        exact AllReadyH.nil
set_option maxRecDepth 100000 in
set_option maxHeartbeats 4000000 in
theorem ref_33l (d s z i : Int) (w : World) (hi : I64 i) (h8 : (z == 8) = false) : Calls Try.prog 50 #[.agg #[.int .i64 33, .int .i64 d, .int .i64 s, .int .i64 z, .int .i64 i]] w (MRet ⟨33, d, s, z, i⟩ w) := by
  obtain ⟨W0, hW0⟩ : ∃ W, w.alloc (.cells #[.int .i64 33, .int .i64 d, .int .i64 s, .int .i64 z, .int .i64 i] 25) = W := ⟨_, rfl⟩
  have HB : Hid (Below w.heap.size w W0) := by rw [← hW0]; exact (Below.refl _ _).alloc (Nat.le_refl _) _
  have hlt0 : w.heap.size < W0.heap.size := by rw [← hW0]; simp
  obtain ⟨q0, q1, q2, q3, q4⟩ := ins_box 33 d s z i w W0 hW0
  have h00 := Since.refl W0
  have H8 : Hid (¬ z = 8) := by show ¬ _; simpa using h8
  have q0a := q0 _ h00
  have q1a := q1 _ h00
  have q2a := q2 _ h00
  have q3a := q3 _ h00
  have q4a := q4 _ h00
  have HK : Hid (okI ⟨33, d, s, z, i⟩ = (((z == 32)) && ((d == 0)) && ((s == 0)) && (isW4 i))) := by show _ = _; have h8b := h8; simp at h8b; rw [Bool.eq_iff_iff]; simp [okI, szI, fitI, fitJ, isM, isR, isL, isC, isB, isW4] <;> omega
  have CisW4i := Lib.hid (fun w => between_32 i w)
  have CY : Hid (∀ wk, Since W0 wk → Calls Try.prog 67 #[.int .i64 i, .int .i64 (4)] wk fun e w' => ∃ v, e = .returned v ∧ RowI w' W0.heap.size 5 .u8 v (leB i 4) ∧ Below wk.heap.size wk w' ∧ Since W0 w') := fun wk h => acc_r (little_any i 4 wk hi (by decide)) h
  have hml : (leB i 4).length = 4 := by simp [mmB, leB_length]
  have HLEN : Hid (([(0 : Int)]).length + (leB i 4).length ≤ 100000) := by show _ ≤ _; rw [hml]; decide
  have HPOS : Hid (0 < (leB i 4).length) := by show 0 < _; omega
  have HY5 : Hid ((leB i 4).length ≤ 140737488351232) := by show _ ≤ _; omega
  clear hml
  obtain ⟨wd, hwd⟩ : ∃ b, (z == 32) = b := ⟨_, rfl⟩
  try rw [hwd] at HK
  obtain ⟨s0, hs0⟩ : ∃ b, (s == 0) = b := ⟨_, rfl⟩
  try rw [hs0] at HK
  obtain ⟨i0, hi0⟩ : ∃ b, (i == 0) = b := ⟨_, rfl⟩
  try rw [hi0] at HK
  obtain ⟨d0, hd0⟩ : ∃ b, (d == 0) = b := ⟨_, rfl⟩
  try rw [hd0] at HK
  go_enter Try.func50, Try.ntmps50
  go_upto_region 2 with (first | ((go_at_call 65; first | (with_reducible refine (CisW4i.out _).mono ?_)); rintro e w' ⟨rfl, rfl⟩))
  go_cut [5] from 9 to 24 (fun b wx => b = .bool (d0 && (s0 && (i0 && wd))) ∧ W0 = wx)
  case first =>
    cases d0
    · skip
      go_wp2_with (first | ((go_at_call 65; first | (with_reducible refine (CisW4i.out _).mono ?_)); rintro e w' ⟨rfl, rfl⟩))
      go_meet
      case rel => exact ⟨by simp [*], rfl⟩
    · skip
      cases s0
      · skip
        go_wp2_with (first | ((go_at_call 65; first | (with_reducible refine (CisW4i.out _).mono ?_)); rintro e w' ⟨rfl, rfl⟩))
        go_meet
        case rel => exact ⟨by simp [*], rfl⟩
      · skip
        cases i0
        all_goals
         skip
         go_wp2_with (first | ((go_at_call 65; first | (with_reducible refine (CisW4i.out _).mono ?_)); rintro e w' ⟨rfl, rfl⟩))
         go_meet
         case rel => exact ⟨by simp [*], rfl⟩
  case rest =>
    obtain ⟨rfl, rfl⟩ := hcut
    cases wd
    · exact qMh0
    · skip
      cases d0
      · exact qMh0
      · skip
        cases s0
        · exact qMh0
        · skip
          have HOK : Hid (okI ⟨33, d, s, z, i⟩ = isW4 i) := by show _ = _; have h := HK.out; (try simp only [Bool.true_and, Bool.false_and, Bool.and_true, Bool.and_false] at h); exact h
          go_wp2_with (first | ((go_at_call 65; first | (with_reducible refine (CisW4i.out _).mono ?_)); rintro e w' ⟨rfl, rfl⟩) | ((go_at_call 67; with_reducible refine (CY.out _ kp).mono ?_); rintro e w2 ⟨v2, rfl, hr2, hb2, hs2⟩; have HR2 := Lib.hid hr2; clear hr2; have q0b := q0 _ hs2; have q1b := q1 _ hs2; have q2b := q2 _ hs2; have q3b := q3 _ hs2; have q4b := q4 _ hs2; have HBW2 := Lib.hid hb2; have HSI2 := Lib.hid hs2; obtain ⟨a2, n2, rfl⟩ := HR2.out.shape; clear hb2) | (at_builtin; refine wpList_app_u8 rfl _ _ rfl W0.heap.size _ [233] rfl (RowI.below (RowI.lit W0 #[.int .u8 233] [233] .u8 5 W0.heap.size 1 (Nat.le_refl _) rfl rfl (by unfold maxLen; simp)) HBW2.out) _ (leB i 4) rfl (HR2.out.ints HY5.out) HPOS.out HLEN.out HSI2.out.size ?_; intro v9 w9 hr9 hb9; have HR9 := Lib.hid hr9; have hs9 := since_step HSI2.out hb9; clear hr9; have q0c := q0 _ hs9; have q1c := q1 _ hs9; have q2c := q2 _ hs9; have q3c := q3 _ hs9; have q4c := q4 _ hs9))
          all_goals go_ret2
          all_goals exact MRet.mk HOK.out.symm (fun h => RowI.to (RowI.mono HR9.out HB.out.size) (by first | rfl | (have hb1 := ok_fit h; simp [fitI, fitJ, isR, isM, isL, isC, isB, isW4, inZ] at hb1; simp [bodyI, IntKind.wrap_u8, IntKind.wrap_i64, H8.out] <;> omega))) (below_hop HB.out (by first | exact hs9 | exact below_drewN hs9 1))
end Go.Proofs.Ytdojafpjipcbjaa
