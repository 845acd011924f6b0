/- Walks of the reference's coders, operation by operation and size by size. -/
import Derived.Deep.CutRange
import Derived.Test.YtdojafpjipcbjaaJ12
import Derived.Test.YtdojafpjipcbjaaJ16
namespace Go.Proofs.Ytdojafpjipcbjaa
open Go.RowKit
set_option linter.unusedVariables false
set_option linter.unusedSimpArgs false
theorem qMf5 {p : Prop} (h : p := by
  refine rd1 15 (fun K hK => ?_)
  (go_simp; first | ((go_at_call 70; first | (with_reducible refine (CisLs.out _).mono ?_)); rintro e w' ⟨rfl, rfl⟩) | ((go_at_call 64; first | (with_reducible refine (CisRd.out _).mono ?_)); rintro e w' ⟨rfl, rfl⟩) | ((go_at_call 66; with_reducible refine (CMR.out _).mono ?_); rintro e w' ⟨rfl, rfl⟩))
  refine hK.out _ _ kp (fun hHeld => ?_); clear hK K; try go_frame
  refine tk 16 ?_; refine tk 17 ?_; refine sk 18 ?_; refine sk 19 ?_; refine sk 20 ?_; refine tk 21 ?_
  refine tk 22 ?_; refine tk 23 ?_
  exact qMf4) : p := h
theorem qMf4 {p : Prop} (h : p := by
  refine wpAnyH_done (by kernel_rfl) ?_ _
  go_wp2_with fail
  go_ret2
  exact MRet.mk HOK.out.symm (fun h => absurd h (by rw [HOK.out]; simp)) (bel_litd HB.out)) : p := h
theorem qMf3 {p : Prop} (h : p := by
  skip
  go_wp2_with (first | ((go_at_call 70; first | (with_reducible refine (CisLs.out _).mono ?_)); rintro e w' ⟨rfl, rfl⟩) | ((go_at_call 64; first | (with_reducible refine (CisRd.out _).mono ?_)); rintro e w' ⟨rfl, rfl⟩) | ((go_at_call 66; with_reducible refine (CMR.out _).mono ?_); rintro e w' ⟨rfl, rfl⟩))
  go_meet
  case rel => exact ⟨by simp [*], rfl⟩) : p := h
theorem qMf2 {p : Prop} (h : p := by
  go_wp2_with fail
  all_goals go_ret2
  all_goals exact MRet.mk HOK.out.symm (fun h => RowI.to (RowI.lit W0 #[_] [_] .u8 5 w.heap.size 1 HB.out.size rfl rfl (by unfold maxLen; simp)) (by first | rfl | (have hb1 := ok_fit h; simp [fitI, fitJ, isR, isM, isL, isC, isB, isW4, inZ] at hb1; simp [bodyI, IntKind.wrap_u8, IntKind.wrap_i64, ariI, i64_and255] <;> omega))) (bel_lit HB.out)) : p := h
theorem qMf1 {p : Prop} (h : p := by
  cases d0
  · skip
    go_wp2_with fail
    go_meet
    case rel => exact ⟨by simp [*], rfl⟩
  · skip
    cases s0
    · skip
      go_wp2_with fail
      go_meet
      case rel => exact ⟨by simp [*], rfl⟩
    · skip
      cases i0
      all_goals
       skip
       go_wp2_with fail
       go_meet
       case rel => exact ⟨by simp [*], rfl⟩) : p := h
theorem qMf0 {p : Prop} (h : p := by
  refine rd1 15 (fun K hK => ?_)
  (go_simp; first | ((go_at_call 70; first | (with_reducible refine (CisLs.out _).mono ?_)); rintro e w' ⟨rfl, rfl⟩) | ((go_at_call 64; first | (with_reducible refine (CisRd.out _).mono ?_)); rintro e w' ⟨rfl, rfl⟩) | ((go_at_call 66; with_reducible refine (CMR.out _).mono ?_); rintro e w' ⟨rfl, rfl⟩))
  refine hK.out _ _ kp (fun hHeld => ?_); clear hK K; try go_frame
  refine tk 16 ?_; refine tk 17 ?_; refine tk 18 ?_; refine tk 19 ?_; refine tk 20 ?_; refine tk 21 ?_
  refine tk 22 ?_; refine tk 23 ?_
  refine wpAnyH_done (by kernel_rfl) ?_ _
  go_wp2_with fail
  go_ret2
  exact MRet.mk HOK.out.symm (fun h => RowI.to (RowI.lit W0 #[_, _, _] [_, _, _] .u8 5 w.heap.size 3 HB.out.size rfl rfl (by unfold maxLen; simp)) (by first | rfl | (have hb1 := ok_fit h; simp [fitI, fitJ, isR, isM, isL, isC, isB, isW4, inZ] at hb1; simp [bodyI, IntKind.wrap_u8, IntKind.wrap_i64, ariI, i64_and255] <;> omega))) (bel_litd HB.out)) : p := h
set_option maxRecDepth 100000 in
set_option maxHeartbeats 4000000 in
theorem ref_28 (d s z i : Int) (w : World) (hi : I64 i) : Calls Try.prog 50 #[.agg #[.int .i64 28, .int .i64 d, .int .i64 s, .int .i64 z, .int .i64 i]] w (MRet ⟨28, d, s, z, i⟩ w) := by
  obtain ⟨W0, hW0⟩ : ∃ W, w.alloc (.cells #[.int .i64 28, .int .i64 d, .int .i64 s, .int .i64 z, .int .i64 i] 25) = W := ⟨_, rfl⟩
  have HB : Hid (Below w.heap.size w W0) := by rw [← hW0]; exact (Below.refl _ _).alloc (Nat.le_refl _) _
  have hlt0 : w.heap.size < W0.heap.size := by rw [← hW0]; simp
  obtain ⟨q0, q1, q2, q3, q4⟩ := ins_box 28 d s z i w W0 hW0
  have h00 := Since.refl W0
  have q0a := q0 _ h00
  have q1a := q1 _ h00
  have q2a := q2 _ h00
  have q3a := q3 _ h00
  have q4a := q4 _ h00
  have HK : Hid (okI ⟨28, d, s, z, i⟩ = (((d == 0 && (s == 0 && (i == 0 && z == 32)))))) := by show _ = _; rw [Bool.eq_iff_iff]; simp [okI, szI, fitI, fitJ, isM, isR, isL, isC, isB, isW4] <;> omega
  obtain ⟨wd, hwd⟩ : ∃ b, (z == 32) = b := ⟨_, rfl⟩
  try rw [hwd] at HK
  obtain ⟨s0, hs0⟩ : ∃ b, (s == 0) = b := ⟨_, rfl⟩
  try rw [hs0] at HK
  obtain ⟨i0, hi0⟩ : ∃ b, (i == 0) = b := ⟨_, rfl⟩
  try rw [hi0] at HK
  obtain ⟨d0, hd0⟩ : ∃ b, (d == 0) = b := ⟨_, rfl⟩
  try rw [hd0] at HK
  go_enter Try.func50, Try.ntmps50
  go_upto_region 2 with fail
  go_cut [5] from 9 to 24 (fun b wx => b = .bool (d0 && (s0 && (i0 && wd))) ∧ W0 = wx)
  case first =>
    exact qMf1
  case rest =>
    obtain ⟨rfl, rfl⟩ := hcut
    generalize (d0 && (s0 && (i0 && wd))) = non at *
    have HOK : Hid (okI ⟨28, d, s, z, i⟩ = non) := by show _ = _; have h := HK.out; (try simp only [Bool.true_and, Bool.false_and, Bool.and_true, Bool.and_false] at h); exact h
    exact qMf2
set_option maxRecDepth 100000 in
set_option maxHeartbeats 4000000 in
theorem ref_30 (d s z i : Int) (w : World) (hi : I64 i) : Calls Try.prog 50 #[.agg #[.int .i64 30, .int .i64 d, .int .i64 s, .int .i64 z, .int .i64 i]] w (MRet ⟨30, d, s, z, i⟩ w) := by
  obtain ⟨W0, hW0⟩ : ∃ W, w.alloc (.cells #[.int .i64 30, .int .i64 d, .int .i64 s, .int .i64 z, .int .i64 i] 25) = W := ⟨_, rfl⟩
  have HB : Hid (Below w.heap.size w W0) := by rw [← hW0]; exact (Below.refl _ _).alloc (Nat.le_refl _) _
  have hlt0 : w.heap.size < W0.heap.size := by rw [← hW0]; simp
  obtain ⟨q0, q1, q2, q3, q4⟩ := ins_box 30 d s z i w W0 hW0
  have h00 := Since.refl W0
  have q0a := q0 _ h00
  have q1a := q1 _ h00
  have q2a := q2 _ h00
  have q3a := q3 _ h00
  have q4a := q4 _ h00
  have HK : Hid (okI ⟨30, d, s, z, i⟩ = (((z == 32)) && (isR d) && (isL s) && ((i == 0)))) := by show _ = _; rw [Bool.eq_iff_iff]; simp [okI, szI, fitI, fitJ, isM, isR, isL, isC, isB, isW4] <;> omega
  have CisLs := Lib.hid (fun w => low_ref s w)
  have CisRd := Lib.hid (fun w => isReg_ref d w)
  have CMR := Lib.hid (fun w => rmr_any d s w)
  obtain ⟨wd, hwd⟩ : ∃ b, (z == 32) = b := ⟨_, rfl⟩
  try rw [hwd] at HK
  obtain ⟨s0, hs0⟩ : ∃ b, (s == 0) = b := ⟨_, rfl⟩
  try rw [hs0] at HK
  obtain ⟨i0, hi0⟩ : ∃ b, (i == 0) = b := ⟨_, rfl⟩
  try rw [hi0] at HK
  obtain ⟨d0, hd0⟩ : ∃ b, (d == 0) = b := ⟨_, rfl⟩
  try rw [hd0] at HK
  go_enter Try.func50, Try.ntmps50
  go_upto_region 2 with (first | ((go_at_call 70; first | (with_reducible refine (CisLs.out _).mono ?_)); rintro e w' ⟨rfl, rfl⟩) | ((go_at_call 64; first | (with_reducible refine (CisRd.out _).mono ?_)); rintro e w' ⟨rfl, rfl⟩) | ((go_at_call 66; with_reducible refine (CMR.out _).mono ?_); rintro e w' ⟨rfl, rfl⟩))
  go_cut [5] from 9 to 24 (fun b wx => b = .bool (d0 && (s0 && (i0 && wd))) ∧ W0 = wx)
  case first =>
    cases d0
    · exact qMf3
    · skip
      cases s0
      · exact qMf3
      · skip
        cases i0
        all_goals
         exact qMf3
  case rest =>
    obtain ⟨rfl, rfl⟩ := hcut
    cases wd
    · skip
      have HOK : Hid (okI ⟨30, d, s, z, i⟩ = false) := by show _ = _; have h := HK.out; (try simp only [Bool.true_and, Bool.false_and, Bool.and_true, Bool.and_false] at h); exact h
      go_wp2_with (first | ((go_at_call 70; first | (with_reducible refine (CisLs.out _).mono ?_)); rintro e w' ⟨rfl, rfl⟩) | ((go_at_call 64; first | (with_reducible refine (CisRd.out _).mono ?_)); rintro e w' ⟨rfl, rfl⟩) | ((go_at_call 66; with_reducible refine (CMR.out _).mono ?_); rintro e w' ⟨rfl, rfl⟩))
      clear hW0
      refine wp_region_held_drew (S := (fun wk => Since W0 wk)) (by kernel_rfl) kp (fun hHeld => ?_)
      refine tk 0 ?_; refine tk 1 ?_; refine tk 2 ?_; refine tk 3 ?_; refine tk 6 ?_
      refine rd1 4 (fun K hK => ?_)
      (go_simp; first | ((go_at_call 70; first | (with_reducible refine (CisLs.out _).mono ?_)); rintro e w' ⟨rfl, rfl⟩) | ((go_at_call 64; first | (with_reducible refine (CisRd.out _).mono ?_)); rintro e w' ⟨rfl, rfl⟩) | ((go_at_call 66; with_reducible refine (CMR.out _).mono ?_); rintro e w' ⟨rfl, rfl⟩))
      refine hK.out _ _ kp (fun hHeld => ?_); clear hK K; try go_frame
      refine tk 7 ?_; refine sk 8 ?_; refine sk 9 ?_; refine sk 10 ?_; refine tk 11 ?_; refine tk 12 ?_; refine sk 13 ?_
      refine sk 14 ?_; refine sk 15 ?_; refine tk 16 ?_; refine tk 17 ?_; refine sk 18 ?_; refine sk 19 ?_
      refine sk 20 ?_; refine tk 21 ?_
      refine rd1 5 (fun K hK => ?_)
      go_simp
      refine hK.out _ _ kp (fun hHeld => ?_); clear hK K; try go_frame
      refine tk 22 ?_; refine tk 23 ?_
      exact qMf4
    · skip
      cases hisRd : isR d
      · rw [hisRd] at CisRd
        rw [hisRd] at HK
        have HisRd := Lib.hid hisRd
        clear hisRd
        have HOK : Hid (okI ⟨30, d, s, z, i⟩ = false) := by show _ = _; have h := HK.out; (try simp only [Bool.true_and, Bool.false_and, Bool.and_true, Bool.and_false] at h); exact h
        go_wp2_with (first | ((go_at_call 70; first | (with_reducible refine (CisLs.out _).mono ?_)); rintro e w' ⟨rfl, rfl⟩) | ((go_at_call 64; first | (with_reducible refine (CisRd.out _).mono ?_)); rintro e w' ⟨rfl, rfl⟩) | ((go_at_call 66; with_reducible refine (CMR.out _).mono ?_); rintro e w' ⟨rfl, rfl⟩))
        clear hW0
        refine wp_region_held_drew (S := (fun wk => Since W0 wk)) (by kernel_rfl) kp (fun hHeld => ?_)
        refine tk 0 ?_; refine tk 1 ?_; refine tk 2 ?_; refine tk 3 ?_; refine tk 6 ?_
        refine rd1 4 (fun K hK => ?_)
        (go_simp; first | ((go_at_call 70; first | (with_reducible refine (CisLs.out _).mono ?_)); rintro e w' ⟨rfl, rfl⟩) | ((go_at_call 64; first | (with_reducible refine (CisRd.out _).mono ?_)); rintro e w' ⟨rfl, rfl⟩) | ((go_at_call 66; with_reducible refine (CMR.out _).mono ?_); rintro e w' ⟨rfl, rfl⟩))
        refine hK.out _ _ kp (fun hHeld => ?_); clear hK K; try go_frame
        refine tk 7 ?_; refine tk 8 ?_; refine tk 9 ?_
        refine wpAnyH_ready (rs := [5, 10]) (by kernel_rfl) (by simp) ?_
        refine AllReadyH_consL 5 rfl (fun K hK => ?_) ?_
        · go_simp
          refine hK.out _ _ kp (fun hHeld => ?_); clear hK K; try go_frame
          refine rd1 10 (fun K hK => ?_)
          (go_simp; first | ((go_at_call 70; first | (with_reducible refine (CisLs.out _).mono ?_)); rintro e w' ⟨rfl, rfl⟩) | ((go_at_call 64; first | (with_reducible refine (CisRd.out _).mono ?_)); rintro e w' ⟨rfl, rfl⟩) | ((go_at_call 66; with_reducible refine (CMR.out _).mono ?_); rintro e w' ⟨rfl, rfl⟩))
          refine hK.out _ _ kp (fun hHeld => ?_); clear hK K; try go_frame
          refine tk 11 ?_; refine tk 12 ?_; refine sk 13 ?_; refine sk 14 ?_; refine sk 15 ?_; refine tk 16 ?_
          refine tk 17 ?_; refine sk 18 ?_; refine sk 19 ?_; refine sk 20 ?_; refine tk 21 ?_; refine tk 22 ?_
          refine tk 23 ?_
          exact qMf4
        refine AllReadyH_consL 10 rfl (fun K hK => ?_) ?_
        · (go_simp; first | ((go_at_call 70; first | (with_reducible refine (CisLs.out _).mono ?_)); rintro e w' ⟨rfl, rfl⟩) | ((go_at_call 64; first | (with_reducible refine (CisRd.out _).mono ?_)); rintro e w' ⟨rfl, rfl⟩) | ((go_at_call 66; with_reducible refine (CMR.out _).mono ?_); rintro e w' ⟨rfl, rfl⟩))
          refine hK.out _ _ kp (fun hHeld => ?_); clear hK K; try go_frame
          refine tk 11 ?_; refine tk 12 ?_; refine sk 13 ?_; refine sk 14 ?_; refine sk 15 ?_; refine tk 16 ?_
          refine tk 17 ?_; refine sk 18 ?_; refine sk 19 ?_; refine sk 20 ?_; refine tk 21 ?_
          refine rd1 5 (fun K hK => ?_)
          go_simp
          refine hK.out _ _ kp (fun hHeld => ?_); clear hK K; try go_frame
          refine tk 22 ?_; refine tk 23 ?_
          exact qMf4
        exact AllReadyH.nil
      · rw [hisRd] at CisRd
        rw [hisRd] at HK
        have HisRd := Lib.hid hisRd
        clear hisRd
        cases hisLs : isL s
        · rw [hisLs] at CisLs
          rw [hisLs] at HK
          have HisLs := Lib.hid hisLs
          clear hisLs
          have HOK : Hid (okI ⟨30, d, s, z, i⟩ = false) := by show _ = _; have h := HK.out; (try simp only [Bool.true_and, Bool.false_and, Bool.and_true, Bool.and_false] at h); exact h
          go_wp2_with (first | ((go_at_call 70; first | (with_reducible refine (CisLs.out _).mono ?_)); rintro e w' ⟨rfl, rfl⟩) | ((go_at_call 64; first | (with_reducible refine (CisRd.out _).mono ?_)); rintro e w' ⟨rfl, rfl⟩) | ((go_at_call 66; with_reducible refine (CMR.out _).mono ?_); rintro e w' ⟨rfl, rfl⟩))
          clear hW0
          refine wp_region_held_drew (S := (fun wk => Since W0 wk)) (by kernel_rfl) kp (fun hHeld => ?_)
          refine tk 0 ?_; refine tk 1 ?_; refine tk 2 ?_; refine tk 3 ?_; refine tk 6 ?_
          refine rd1 4 (fun K hK => ?_)
          (go_simp; first | ((go_at_call 70; first | (with_reducible refine (CisLs.out _).mono ?_)); rintro e w' ⟨rfl, rfl⟩) | ((go_at_call 64; first | (with_reducible refine (CisRd.out _).mono ?_)); rintro e w' ⟨rfl, rfl⟩) | ((go_at_call 66; with_reducible refine (CMR.out _).mono ?_); rintro e w' ⟨rfl, rfl⟩))
          refine hK.out _ _ kp (fun hHeld => ?_); clear hK K; try go_frame
          refine tk 7 ?_; refine tk 8 ?_; refine tk 9 ?_
          refine wpAnyH_ready (rs := [5, 10]) (by kernel_rfl) (by simp) ?_
          refine AllReadyH_consL 5 rfl (fun K hK => ?_) ?_
          · go_simp
            refine hK.out _ _ kp (fun hHeld => ?_); clear hK K; try go_frame
            refine rd1 10 (fun K hK => ?_)
            (go_simp; first | ((go_at_call 70; first | (with_reducible refine (CisLs.out _).mono ?_)); rintro e w' ⟨rfl, rfl⟩) | ((go_at_call 64; first | (with_reducible refine (CisRd.out _).mono ?_)); rintro e w' ⟨rfl, rfl⟩) | ((go_at_call 66; with_reducible refine (CMR.out _).mono ?_); rintro e w' ⟨rfl, rfl⟩))
            refine hK.out _ _ kp (fun hHeld => ?_); clear hK K; try go_frame
            refine tk 11 ?_; refine tk 12 ?_; refine tk 13 ?_; refine tk 14 ?_
            exact qMf5
          refine AllReadyH_consL 10 rfl (fun K hK => ?_) ?_
          · (go_simp; first | ((go_at_call 70; first | (with_reducible refine (CisLs.out _).mono ?_)); rintro e w' ⟨rfl, rfl⟩) | ((go_at_call 64; first | (with_reducible refine (CisRd.out _).mono ?_)); rintro e w' ⟨rfl, rfl⟩) | ((go_at_call 66; with_reducible refine (CMR.out _).mono ?_); rintro e w' ⟨rfl, rfl⟩))
            refine hK.out _ _ kp (fun hHeld => ?_); clear hK K; try go_frame
            refine tk 11 ?_; refine tk 12 ?_; refine tk 13 ?_; refine tk 14 ?_
            refine wpAnyH_ready (rs := [5, 15]) (by kernel_rfl) (by simp) ?_
            refine AllReadyH_consL 5 rfl (fun K hK => ?_) ?_
            · go_simp
              refine hK.out _ _ kp (fun hHeld => ?_); clear hK K; try go_frame
              exact qMf5
            refine AllReadyH_consL 15 rfl (fun K hK => ?_) ?_
            · (go_simp; first | ((go_at_call 70; first | (with_reducible refine (CisLs.out _).mono ?_)); rintro e w' ⟨rfl, rfl⟩) | ((go_at_call 64; first | (with_reducible refine (CisRd.out _).mono ?_)); rintro e w' ⟨rfl, rfl⟩) | ((go_at_call 66; with_reducible refine (CMR.out _).mono ?_); rintro e w' ⟨rfl, rfl⟩))
              refine hK.out _ _ kp (fun hHeld => ?_); clear hK K; try go_frame
              refine tk 16 ?_; refine tk 17 ?_; refine sk 18 ?_; refine sk 19 ?_; refine sk 20 ?_; refine tk 21 ?_
              refine rd1 5 (fun K hK => ?_)
              go_simp
              refine hK.out _ _ kp (fun hHeld => ?_); clear hK K; try go_frame
              refine tk 22 ?_; refine tk 23 ?_
              exact qMf4
            exact AllReadyH.nil
          exact AllReadyH.nil
        · rw [hisLs] at CisLs
          rw [hisLs] at HK
          have HisLs := Lib.hid hisLs
          clear hisLs
          have HOK : Hid (okI ⟨30, d, s, z, i⟩ = i0) := by show _ = _; have h := HK.out; (try simp only [Bool.true_and, Bool.false_and, Bool.and_true, Bool.and_false] at h); exact h
          go_wp2_with (first | ((go_at_call 70; first | (with_reducible refine (CisLs.out _).mono ?_)); rintro e w' ⟨rfl, rfl⟩) | ((go_at_call 64; first | (with_reducible refine (CisRd.out _).mono ?_)); rintro e w' ⟨rfl, rfl⟩) | ((go_at_call 66; with_reducible refine (CMR.out _).mono ?_); rintro e w' ⟨rfl, rfl⟩))
          clear hW0
          refine wp_region_held_drew (S := (fun wk => Since W0 wk)) (by kernel_rfl) kp (fun hHeld => ?_)
          refine tk 0 ?_; refine tk 1 ?_; refine tk 2 ?_; refine tk 3 ?_; refine tk 6 ?_
          refine rd1 4 (fun K hK => ?_)
          (go_simp; first | ((go_at_call 70; first | (with_reducible refine (CisLs.out _).mono ?_)); rintro e w' ⟨rfl, rfl⟩) | ((go_at_call 64; first | (with_reducible refine (CisRd.out _).mono ?_)); rintro e w' ⟨rfl, rfl⟩) | ((go_at_call 66; with_reducible refine (CMR.out _).mono ?_); rintro e w' ⟨rfl, rfl⟩))
          refine hK.out _ _ kp (fun hHeld => ?_); clear hK K; try go_frame
          refine tk 7 ?_; refine tk 8 ?_; refine tk 9 ?_
          refine wpAnyH_ready (rs := [5, 10]) (by kernel_rfl) (by simp) ?_
          refine AllReadyH_consL 5 rfl (fun K hK => ?_) ?_
          · go_simp
            refine hK.out _ _ kp (fun hHeld => ?_); clear hK K; try go_frame
            refine rd1 10 (fun K hK => ?_)
            (go_simp; first | ((go_at_call 70; first | (with_reducible refine (CisLs.out _).mono ?_)); rintro e w' ⟨rfl, rfl⟩) | ((go_at_call 64; first | (with_reducible refine (CisRd.out _).mono ?_)); rintro e w' ⟨rfl, rfl⟩) | ((go_at_call 66; with_reducible refine (CMR.out _).mono ?_); rintro e w' ⟨rfl, rfl⟩))
            refine hK.out _ _ kp (fun hHeld => ?_); clear hK K; try go_frame
            refine tk 11 ?_; refine tk 12 ?_; refine tk 13 ?_; refine tk 14 ?_
            exact qMf0
          refine AllReadyH_consL 10 rfl (fun K hK => ?_) ?_
          · (go_simp; first | ((go_at_call 70; first | (with_reducible refine (CisLs.out _).mono ?_)); rintro e w' ⟨rfl, rfl⟩) | ((go_at_call 64; first | (with_reducible refine (CisRd.out _).mono ?_)); rintro e w' ⟨rfl, rfl⟩) | ((go_at_call 66; with_reducible refine (CMR.out _).mono ?_); rintro e w' ⟨rfl, rfl⟩))
            refine hK.out _ _ kp (fun hHeld => ?_); clear hK K; try go_frame
            refine tk 11 ?_; refine tk 12 ?_; refine tk 13 ?_; refine tk 14 ?_
            refine wpAnyH_ready (rs := [5, 15]) (by kernel_rfl) (by simp) ?_
            refine AllReadyH_consL 5 rfl (fun K hK => ?_) ?_
            · go_simp
              refine hK.out _ _ kp (fun hHeld => ?_); clear hK K; try go_frame
              exact qMf0
            refine AllReadyH_consL 15 rfl (fun K hK => ?_) ?_
            · (go_simp; first | ((go_at_call 70; first | (with_reducible refine (CisLs.out _).mono ?_)); rintro e w' ⟨rfl, rfl⟩) | ((go_at_call 64; first | (with_reducible refine (CisRd.out _).mono ?_)); rintro e w' ⟨rfl, rfl⟩) | ((go_at_call 66; with_reducible refine (CMR.out _).mono ?_); rintro e w' ⟨rfl, rfl⟩))
              refine hK.out _ _ kp (fun hHeld => ?_); clear hK K; try go_frame
              refine tk 16 ?_; refine tk 17 ?_; refine tk 18 ?_; refine tk 19 ?_; refine tk 20 ?_; refine tk 21 ?_
              refine rd1 5 (fun K hK => ?_)
              go_simp
              refine hK.out _ _ kp (fun hHeld => ?_); clear hK K; try go_frame
              refine tk 22 ?_; refine tk 23 ?_
              refine wpAnyH_done (by kernel_rfl) ?_ _
              go_wp2_with fail
              go_ret2
              exact MRet.mk HOK.out.symm (fun h => RowI.to (RowI.lit W0 #[_, _, _] [_, _, _] .u8 5 w.heap.size 3 HB.out.size rfl rfl (by unfold maxLen; simp)) (by first | rfl | (have hb1 := ok_fit h; simp [fitI, fitJ, isR, isM, isL, isC, isB, isW4, inZ] at hb1; simp [bodyI, IntKind.wrap_u8, IntKind.wrap_i64, ariI, i64_and255] <;> omega))) (bel_litd HB.out)
            exact AllReadyH.nil
          exact AllReadyH.nil
set_option maxRecDepth 100000 in
set_option maxHeartbeats 4000000 in
theorem ref_34 (d s z i : Int) (w : World) (hi : I64 i) : Calls Try.prog 50 #[.agg #[.int .i64 34, .int .i64 d, .int .i64 s, .int .i64 z, .int .i64 i]] w (MRet ⟨34, d, s, z, i⟩ w) := by
  obtain ⟨W0, hW0⟩ : ∃ W, w.alloc (.cells #[.int .i64 34, .int .i64 d, .int .i64 s, .int .i64 z, .int .i64 i] 25) = W := ⟨_, rfl⟩
  have HB : Hid (Below w.heap.size w W0) := by rw [← hW0]; exact (Below.refl _ _).alloc (Nat.le_refl _) _
  have hlt0 : w.heap.size < W0.heap.size := by rw [← hW0]; simp
  obtain ⟨q0, q1, q2, q3, q4⟩ := ins_box 34 d s z i w W0 hW0
  have h00 := Since.refl W0
  have q0a := q0 _ h00
  have q1a := q1 _ h00
  have q2a := q2 _ h00
  have q3a := q3 _ h00
  have q4a := q4 _ h00
  have HK : Hid (okI ⟨34, d, s, z, i⟩ = (((d == 0 && (s == 0 && (i == 0 && z == 32)))))) := by show _ = _; rw [Bool.eq_iff_iff]; simp [okI, szI, fitI, fitJ, isM, isR, isL, isC, isB, isW4] <;> omega
  obtain ⟨wd, hwd⟩ : ∃ b, (z == 32) = b := ⟨_, rfl⟩
  try rw [hwd] at HK
  obtain ⟨s0, hs0⟩ : ∃ b, (s == 0) = b := ⟨_, rfl⟩
  try rw [hs0] at HK
  obtain ⟨i0, hi0⟩ : ∃ b, (i == 0) = b := ⟨_, rfl⟩
  try rw [hi0] at HK
  obtain ⟨d0, hd0⟩ : ∃ b, (d == 0) = b := ⟨_, rfl⟩
  try rw [hd0] at HK
  go_enter Try.func50, Try.ntmps50
  go_upto_region 2 with fail
  go_cut [5] from 9 to 24 (fun b wx => b = .bool (d0 && (s0 && (i0 && wd))) ∧ W0 = wx)
  case first =>
    exact qMf1
  case rest =>
    obtain ⟨rfl, rfl⟩ := hcut
    generalize (d0 && (s0 && (i0 && wd))) = non at *
    have HOK : Hid (okI ⟨34, d, s, z, i⟩ = non) := by show _ = _; have h := HK.out; (try simp only [Bool.true_and, Bool.false_and, Bool.and_true, Bool.and_false] at h); exact h
    exact qMf2
set_option maxRecDepth 100000 in
set_option maxHeartbeats 4000000 in
theorem ref_35 (d s z i : Int) (w : World) (hi : I64 i) : Calls Try.prog 50 #[.agg #[.int .i64 35, .int .i64 d, .int .i64 s, .int .i64 z, .int .i64 i]] w (MRet ⟨35, d, s, z, i⟩ w) := by
  obtain ⟨W0, hW0⟩ : ∃ W, w.alloc (.cells #[.int .i64 35, .int .i64 d, .int .i64 s, .int .i64 z, .int .i64 i] 25) = W := ⟨_, rfl⟩
  have HB : Hid (Below w.heap.size w W0) := by rw [← hW0]; exact (Below.refl _ _).alloc (Nat.le_refl _) _
  have hlt0 : w.heap.size < W0.heap.size := by rw [← hW0]; simp
  obtain ⟨q0, q1, q2, q3, q4⟩ := ins_box 35 d s z i w W0 hW0
  have h00 := Since.refl W0
  have q0a := q0 _ h00
  have q1a := q1 _ h00
  have q2a := q2 _ h00
  have q3a := q3 _ h00
  have q4a := q4 _ h00
  have HK : Hid (okI ⟨35, d, s, z, i⟩ = (((d == 0 && (s == 0 && (i == 0 && z == 32)))))) := by show _ = _; rw [Bool.eq_iff_iff]; simp [okI, szI, fitI, fitJ, isM, isR, isL, isC, isB, isW4] <;> omega
  obtain ⟨wd, hwd⟩ : ∃ b, (z == 32) = b := ⟨_, rfl⟩
  try rw [hwd] at HK
  obtain ⟨s0, hs0⟩ : ∃ b, (s == 0) = b := ⟨_, rfl⟩
  try rw [hs0] at HK
  obtain ⟨i0, hi0⟩ : ∃ b, (i == 0) = b := ⟨_, rfl⟩
  try rw [hi0] at HK
  obtain ⟨d0, hd0⟩ : ∃ b, (d == 0) = b := ⟨_, rfl⟩
  try rw [hd0] at HK
  go_enter Try.func50, Try.ntmps50
  go_upto_region 2 with fail
  go_cut [5] from 9 to 24 (fun b wx => b = .bool (d0 && (s0 && (i0 && wd))) ∧ W0 = wx)
  case first =>
    exact qMf1
  case rest =>
    obtain ⟨rfl, rfl⟩ := hcut
    generalize (d0 && (s0 && (i0 && wd))) = non at *
    have HOK : Hid (okI ⟨35, d, s, z, i⟩ = non) := by show _ = _; have h := HK.out; (try simp only [Bool.true_and, Bool.false_and, Bool.and_true, Bool.and_false] at h); exact h
    go_wp2_with fail
    all_goals go_ret2
    all_goals exact MRet.mk HOK.out.symm (fun h => RowI.to (RowI.lit W0 #[_, _] [_, _] .u8 5 w.heap.size 2 HB.out.size rfl rfl (by unfold maxLen; simp)) (by first | rfl | (have hb1 := ok_fit h; simp [fitI, fitJ, isR, isM, isL, isC, isB, isW4, inZ] at hb1; simp [bodyI, IntKind.wrap_u8, IntKind.wrap_i64, ariI, i64_and255] <;> omega))) (bel_lit HB.out)
set_option maxRecDepth 100000 in
set_option maxHeartbeats 4000000 in
theorem ref_36 (d s z i : Int) (w : World) (hi : I64 i) : Calls Try.prog 50 #[.agg #[.int .i64 36, .int .i64 d, .int .i64 s, .int .i64 z, .int .i64 i]] w (MRet ⟨36, d, s, z, i⟩ w) := by
  obtain ⟨W0, hW0⟩ : ∃ W, w.alloc (.cells #[.int .i64 36, .int .i64 d, .int .i64 s, .int .i64 z, .int .i64 i] 25) = W := ⟨_, rfl⟩
  have HB : Hid (Below w.heap.size w W0) := by rw [← hW0]; exact (Below.refl _ _).alloc (Nat.le_refl _) _
  have hlt0 : w.heap.size < W0.heap.size := by rw [← hW0]; simp
  obtain ⟨q0, q1, q2, q3, q4⟩ := ins_box 36 d s z i w W0 hW0
  have h00 := Since.refl W0
  have q0a := q0 _ h00
  have q1a := q1 _ h00
  have q2a := q2 _ h00
  have q3a := q3 _ h00
  have q4a := q4 _ h00
  have HK : Hid (okI ⟨36, d, s, z, i⟩ = (((d == 0 && (s == 0 && (i == 0 && z == 32)))))) := by show _ = _; rw [Bool.eq_iff_iff]; simp [okI, szI, fitI, fitJ, isM, isR, isL, isC, isB, isW4] <;> omega
  obtain ⟨wd, hwd⟩ : ∃ b, (z == 32) = b := ⟨_, rfl⟩
  try rw [hwd] at HK
  obtain ⟨s0, hs0⟩ : ∃ b, (s == 0) = b := ⟨_, rfl⟩
  try rw [hs0] at HK
  obtain ⟨i0, hi0⟩ : ∃ b, (i == 0) = b := ⟨_, rfl⟩
  try rw [hi0] at HK
  obtain ⟨d0, hd0⟩ : ∃ b, (d == 0) = b := ⟨_, rfl⟩
  try rw [hd0] at HK
  go_enter Try.func50, Try.ntmps50
  go_upto_region 2 with fail
  go_cut [5] from 9 to 24 (fun b wx => b = .bool (d0 && (s0 && (i0 && wd))) ∧ W0 = wx)
  case first =>
    exact qMf1
  case rest =>
    obtain ⟨rfl, rfl⟩ := hcut
    generalize (d0 && (s0 && (i0 && wd))) = non at *
    have HOK : Hid (okI ⟨36, d, s, z, i⟩ = non) := by show _ = _; have h := HK.out; (try simp only [Bool.true_and, Bool.false_and, Bool.and_true, Bool.and_false] at h); exact h
    exact qMf2
end Go.Proofs.Ytdojafpjipcbjaa
