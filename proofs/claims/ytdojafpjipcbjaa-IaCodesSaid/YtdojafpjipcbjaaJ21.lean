/- Walks of the reference's coders, operation by operation and size by size. -/
import Derived.Deep.CutRange
import Derived.Test.YtdojafpjipcbjaaJ12
import Derived.Test.YtdojafpjipcbjaaJ16
namespace Go.Proofs.Ytdojafpjipcbjaa
open Go.RowKit
set_option linter.unusedVariables false
set_option linter.unusedSimpArgs false
theorem qMc2 {p : Prop} (h : p := by
  go_wp2_with (first | ((go_at_call 64; first | (with_reducible refine (CisRd.out _).mono ?_) | (with_reducible refine (CisRs.out _).mono ?_)); rintro e w' ⟨rfl, rfl⟩) | ((go_at_call 66; with_reducible refine (CMR.out _).mono ?_); rintro e w' ⟨rfl, rfl⟩) | ((go_at_call 72; with_reducible refine (CAR.out _).mono ?_); rintro e w' ⟨rfl, rfl⟩) | ((go_at_call 71; with_reducible refine (CDI.out _).mono ?_); rintro e w' ⟨rfl, rfl⟩))
  clear hW0
  refine wp_region_held_drew (S := (fun wk => Since W0 wk)) (by kernel_rfl) kp (fun hHeld => ?_)
  refine tk 0 ?_; refine tk 1 ?_; refine tk 3 ?_; refine tk 4 ?_; refine tk 5 ?_; refine tk 6 ?_; refine tk 9 ?_
  refine rd1 2 (fun K hK => ?_)
  (go_simp; first | ((go_at_call 64; first | (with_reducible refine (CisRd.out _).mono ?_) | (with_reducible refine (CisRs.out _).mono ?_)); rintro e w' ⟨rfl, rfl⟩) | ((go_at_call 66; with_reducible refine (CMR.out _).mono ?_); rintro e w' ⟨rfl, rfl⟩) | ((go_at_call 72; with_reducible refine (CAR.out _).mono ?_); rintro e w' ⟨rfl, rfl⟩) | ((go_at_call 71; with_reducible refine (CDI.out _).mono ?_); rintro e w' ⟨rfl, rfl⟩))
  refine hK.out _ _ kp (fun hHeld => ?_); clear hK K; try go_frame
  refine rd1 7 (fun K hK => ?_)
  (go_simp; first | ((go_at_call 64; first | (with_reducible refine (CisRd.out _).mono ?_) | (with_reducible refine (CisRs.out _).mono ?_)); rintro e w' ⟨rfl, rfl⟩) | ((go_at_call 66; with_reducible refine (CMR.out _).mono ?_); rintro e w' ⟨rfl, rfl⟩) | ((go_at_call 72; with_reducible refine (CAR.out _).mono ?_); rintro e w' ⟨rfl, rfl⟩) | ((go_at_call 71; with_reducible refine (CDI.out _).mono ?_); rintro e w' ⟨rfl, rfl⟩))
  refine hK.out _ _ kp (fun hHeld => ?_); clear hK K; try go_frame
  refine tk 10 ?_; refine sk 11 ?_; refine tk 12 ?_
  refine rd1 8 (fun K hK => ?_)
  go_simp
  refine hK.out _ _ kp (fun hHeld => ?_); clear hK K; try go_frame
  refine tk 13 ?_; refine tk 14 ?_
  refine wpAnyH_done (by kernel_rfl) ?_ _
  go_wp2_with fail
  go_ret2
  exact MRet.mk HOK.out.symm (fun h => absurd h (by rw [HOK.out]; simp)) (bel_litd HB.out)) : p := h
theorem qMc1 {p : Prop} (h : p := by
  go_wp2_with (first | ((go_at_call 64; first | (with_reducible refine (CisRd.out _).mono ?_) | (with_reducible refine (CisRs.out _).mono ?_)); rintro e w' ⟨rfl, rfl⟩) | ((go_at_call 66; with_reducible refine (CMR.out _).mono ?_); rintro e w' ⟨rfl, rfl⟩) | ((go_at_call 72; with_reducible refine (CAR.out _).mono ?_); rintro e w' ⟨rfl, rfl⟩) | ((go_at_call 71; with_reducible refine (CDI.out _).mono ?_); rintro e w' ⟨rfl, rfl⟩))
  clear hW0
  refine wp_region_held_drew (S := (fun wk => Since W0 wk)) (by kernel_rfl) kp (fun hHeld => ?_)
  refine tk 0 ?_; refine tk 1 ?_; refine tk 3 ?_; refine tk 4 ?_; refine tk 5 ?_; refine tk 6 ?_; refine tk 9 ?_
  refine rd1 2 (fun K hK => ?_)
  (go_simp; first | ((go_at_call 64; first | (with_reducible refine (CisRd.out _).mono ?_) | (with_reducible refine (CisRs.out _).mono ?_)); rintro e w' ⟨rfl, rfl⟩) | ((go_at_call 66; with_reducible refine (CMR.out _).mono ?_); rintro e w' ⟨rfl, rfl⟩) | ((go_at_call 72; with_reducible refine (CAR.out _).mono ?_); rintro e w' ⟨rfl, rfl⟩) | ((go_at_call 71; with_reducible refine (CDI.out _).mono ?_); rintro e w' ⟨rfl, rfl⟩))
  refine hK.out _ _ kp (fun hHeld => ?_); clear hK K; try go_frame
  refine rd1 7 (fun K hK => ?_)
  (go_simp; first | ((go_at_call 64; first | (with_reducible refine (CisRd.out _).mono ?_) | (with_reducible refine (CisRs.out _).mono ?_)); rintro e w' ⟨rfl, rfl⟩) | ((go_at_call 66; with_reducible refine (CMR.out _).mono ?_); rintro e w' ⟨rfl, rfl⟩) | ((go_at_call 72; with_reducible refine (CAR.out _).mono ?_); rintro e w' ⟨rfl, rfl⟩) | ((go_at_call 71; with_reducible refine (CDI.out _).mono ?_); rintro e w' ⟨rfl, rfl⟩))
  refine hK.out _ _ kp (fun hHeld => ?_); clear hK K; try go_frame
  refine tk 10 ?_; refine tk 11 ?_; refine tk 12 ?_
  refine rd1 8 (fun K hK => ?_)
  go_simp
  refine hK.out _ _ kp (fun hHeld => ?_); clear hK K; try go_frame
  refine tk 13 ?_; refine tk 14 ?_
  refine wpAnyH_done (by kernel_rfl) ?_ _
  go_wp2_with fail
  go_ret2
  exact MRet.mk HOK.out.symm (fun h => RowI.to (RowI.lit W0 #[_, _] [_, _] .u8 5 w.heap.size 2 HB.out.size rfl rfl (by unfold maxLen; simp)) (by first | rfl | (have hb1 := ok_fit h; simp [fitI, fitJ, isR, isM, isL, isC, isB, isW4, inZ] at hb1; simp [bodyI, IntKind.wrap_u8, IntKind.wrap_i64, ariI, i64_and255] <;> omega))) (bel_litd HB.out)) : p := h
theorem qMc0 {p : Prop} (h : p := by
  skip
  go_wp2_with (first | ((go_at_call 64; first | (with_reducible refine (CisRd.out _).mono ?_) | (with_reducible refine (CisRs.out _).mono ?_)); rintro e w' ⟨rfl, rfl⟩) | ((go_at_call 66; with_reducible refine (CMR.out _).mono ?_); rintro e w' ⟨rfl, rfl⟩) | ((go_at_call 72; with_reducible refine (CAR.out _).mono ?_); rintro e w' ⟨rfl, rfl⟩) | ((go_at_call 71; with_reducible refine (CDI.out _).mono ?_); rintro e w' ⟨rfl, rfl⟩))
  go_meet
  case rel => exact ⟨by simp [*], rfl⟩) : p := h
set_option maxRecDepth 100000 in
set_option maxHeartbeats 4000000 in
theorem ref_7 (d s z i : Int) (w : World) (hi : I64 i) : Calls Try.prog 49 #[.agg #[.int .i64 7, .int .i64 d, .int .i64 s, .int .i64 z, .int .i64 i]] w (MRet ⟨7, d, s, z, i⟩ w) := by
  obtain ⟨W0, hW0⟩ : ∃ W, w.alloc (.cells #[.int .i64 7, .int .i64 d, .int .i64 s, .int .i64 z, .int .i64 i] 25) = W := ⟨_, rfl⟩
  have HB : Hid (Below w.heap.size w W0) := by rw [← hW0]; exact (Below.refl _ _).alloc (Nat.le_refl _) _
  have hlt0 : w.heap.size < W0.heap.size := by rw [← hW0]; simp
  obtain ⟨q0, q1, q2, q3, q4⟩ := ins_box 7 d s z i w W0 hW0
  have h00 := Since.refl W0
  have q0a := q0 _ h00
  have q1a := q1 _ h00
  have q2a := q2 _ h00
  have q3a := q3 _ h00
  have q4a := q4 _ h00
  have HK : Hid (okI ⟨7, d, s, z, i⟩ = (((z == 32 || z == 16)) && ((isR d && (isR s && i == 0))))) := by show _ = _; rw [Bool.eq_iff_iff]; simp [okI, szI, fitI, fitJ, isM, isR, isL, isC, isB, isW4] <;> omega
  have CisRd := Lib.hid (fun w => isReg_ref d w)
  have CisRs := Lib.hid (fun w => isReg_ref s w)
  have CMR := Lib.hid (fun w => rmr_any s d w)
  have CAR : Hid (∀ w, Calls Try.prog 72 #[.int .i64 7] w fun e w' => e = .returned (.int .u8 1) ∧ w = w') := fun w => arith_any 7 w (by decide)
  have CDI : Hid (∀ w, Calls Try.prog 71 #[.int .i64 7] w fun e w' => e = .returned (.int .i64 (-1)) ∧ w = w') := fun w => digit_any 7 w (by decide)
  obtain ⟨wd, hwd⟩ : ∃ b, (z == 32) = b := ⟨_, rfl⟩
  obtain ⟨wh, hwh⟩ : ∃ b, (z == 16) = b := ⟨_, rfl⟩
  try rw [hwd] at HK
  try rw [hwh] at HK
  obtain ⟨rd, hrd⟩ : ∃ b, isR d = b := ⟨_, rfl⟩
  rw [hrd] at CisRd
  obtain ⟨rs, hrs⟩ : ∃ b, isR s = b := ⟨_, rfl⟩
  rw [hrs] at CisRs
  try rw [hrd] at HK
  try rw [hrs] at HK
  have HRD := Lib.hid hrd
  have HRS := Lib.hid hrs
  clear hrd hrs
  obtain ⟨s0, hs0⟩ : ∃ b, (s == 0) = b := ⟨_, rfl⟩
  try rw [hs0] at HK
  obtain ⟨i0, hi0⟩ : ∃ b, (i == 0) = b := ⟨_, rfl⟩
  try rw [hi0] at HK
  go_enter Try.func49, Try.ntmps49
  go_upto_region 2 with (first | ((go_at_call 64; first | (with_reducible refine (CisRd.out _).mono ?_) | (with_reducible refine (CisRs.out _).mono ?_)); rintro e w' ⟨rfl, rfl⟩) | ((go_at_call 66; with_reducible refine (CMR.out _).mono ?_); rintro e w' ⟨rfl, rfl⟩) | ((go_at_call 72; with_reducible refine (CAR.out _).mono ?_); rintro e w' ⟨rfl, rfl⟩) | ((go_at_call 71; with_reducible refine (CDI.out _).mono ?_); rintro e w' ⟨rfl, rfl⟩))
  go_cut [5] from 13 to 18 (fun b wx => b = .bool (wd || wh) ∧ W0 = wx)
  case first =>
    cases wd
    all_goals
     exact qMc0
  case rest =>
    obtain ⟨rfl, rfl⟩ := hcut
    go_upto_region 3 with (first | ((go_at_call 64; first | (with_reducible refine (CisRd.out _).mono ?_) | (with_reducible refine (CisRs.out _).mono ?_)); rintro e w' ⟨rfl, rfl⟩) | ((go_at_call 66; with_reducible refine (CMR.out _).mono ?_); rintro e w' ⟨rfl, rfl⟩) | ((go_at_call 72; with_reducible refine (CAR.out _).mono ?_); rintro e w' ⟨rfl, rfl⟩) | ((go_at_call 71; with_reducible refine (CDI.out _).mono ?_); rintro e w' ⟨rfl, rfl⟩))
    go_cut [6] from 19 to 31 (fun b wx => b = .bool (rd && (rs && i0)) ∧ W0 = wx)
    case first =>
      cases rd
      · exact qMc0
      · skip
        cases rs
        all_goals
         exact qMc0
    case rest =>
      obtain ⟨rfl, rfl⟩ := hcut
      go_upto_region 4 with (first | ((go_at_call 64; first | (with_reducible refine (CisRd.out _).mono ?_) | (with_reducible refine (CisRs.out _).mono ?_)); rintro e w' ⟨rfl, rfl⟩) | ((go_at_call 66; with_reducible refine (CMR.out _).mono ?_); rintro e w' ⟨rfl, rfl⟩) | ((go_at_call 72; with_reducible refine (CAR.out _).mono ?_); rintro e w' ⟨rfl, rfl⟩) | ((go_at_call 71; with_reducible refine (CDI.out _).mono ?_); rintro e w' ⟨rfl, rfl⟩))
      go_cut [7] from 32 to 44 (fun b wx => b = .bool (rd && (s0 && i0)) ∧ W0 = wx)
      case first =>
        cases rd
        · exact qMc0
        · skip
          cases s0
          all_goals
           exact qMc0
      case rest =>
        obtain ⟨rfl, rfl⟩ := hcut
        generalize (rd && (s0 && i0)) = one at *
        generalize (rd && (rs && i0)) = rg at *
        generalize (wd || wh) = bt at *
        cases bt
        · skip
          have HOK : Hid (okI ⟨7, d, s, z, i⟩ = false) := by show _ = _; have h := HK.out; (try simp only [Bool.true_and, Bool.false_and, Bool.and_true, Bool.and_false] at h); exact h
          exact qMc2
        · skip
          have HOK : Hid (okI ⟨7, d, s, z, i⟩ = rg) := by show _ = _; have h := HK.out; (try simp only [Bool.true_and, Bool.false_and, Bool.and_true, Bool.and_false] at h); exact h
          exact qMc1
set_option maxRecDepth 100000 in
set_option maxHeartbeats 4000000 in
theorem ref_8 (d s z i : Int) (w : World) (hi : I64 i) : Calls Try.prog 49 #[.agg #[.int .i64 8, .int .i64 d, .int .i64 s, .int .i64 z, .int .i64 i]] w (MRet ⟨8, d, s, z, i⟩ w) := by
  obtain ⟨W0, hW0⟩ : ∃ W, w.alloc (.cells #[.int .i64 8, .int .i64 d, .int .i64 s, .int .i64 z, .int .i64 i] 25) = W := ⟨_, rfl⟩
  have HB : Hid (Below w.heap.size w W0) := by rw [← hW0]; exact (Below.refl _ _).alloc (Nat.le_refl _) _
  have hlt0 : w.heap.size < W0.heap.size := by rw [← hW0]; simp
  obtain ⟨q0, q1, q2, q3, q4⟩ := ins_box 8 d s z i w W0 hW0
  have h00 := Since.refl W0
  have q0a := q0 _ h00
  have q1a := q1 _ h00
  have q2a := q2 _ h00
  have q3a := q3 _ h00
  have q4a := q4 _ h00
  have HK : Hid (okI ⟨8, d, s, z, i⟩ = (((z == 32 || z == 16)) && ((isR d && (isR s && i == 0))))) := by show _ = _; rw [Bool.eq_iff_iff]; simp [okI, szI, fitI, fitJ, isM, isR, isL, isC, isB, isW4] <;> omega
  have CisRd := Lib.hid (fun w => isReg_ref d w)
  have CisRs := Lib.hid (fun w => isReg_ref s w)
  have CMR := Lib.hid (fun w => rmr_any s d w)
  have CAR : Hid (∀ w, Calls Try.prog 72 #[.int .i64 8] w fun e w' => e = .returned (.int .u8 9) ∧ w = w') := fun w => arith_any 8 w (by decide)
  have CDI : Hid (∀ w, Calls Try.prog 71 #[.int .i64 8] w fun e w' => e = .returned (.int .i64 (-1)) ∧ w = w') := fun w => digit_any 8 w (by decide)
  obtain ⟨wd, hwd⟩ : ∃ b, (z == 32) = b := ⟨_, rfl⟩
  obtain ⟨wh, hwh⟩ : ∃ b, (z == 16) = b := ⟨_, rfl⟩
  try rw [hwd] at HK
  try rw [hwh] at HK
  obtain ⟨rd, hrd⟩ : ∃ b, isR d = b := ⟨_, rfl⟩
  rw [hrd] at CisRd
  obtain ⟨rs, hrs⟩ : ∃ b, isR s = b := ⟨_, rfl⟩
  rw [hrs] at CisRs
  try rw [hrd] at HK
  try rw [hrs] at HK
  have HRD := Lib.hid hrd
  have HRS := Lib.hid hrs
  clear hrd hrs
  obtain ⟨s0, hs0⟩ : ∃ b, (s == 0) = b := ⟨_, rfl⟩
  try rw [hs0] at HK
  obtain ⟨i0, hi0⟩ : ∃ b, (i == 0) = b := ⟨_, rfl⟩
  try rw [hi0] at HK
  go_enter Try.func49, Try.ntmps49
  go_upto_region 2 with (first | ((go_at_call 64; first | (with_reducible refine (CisRd.out _).mono ?_) | (with_reducible refine (CisRs.out _).mono ?_)); rintro e w' ⟨rfl, rfl⟩) | ((go_at_call 66; with_reducible refine (CMR.out _).mono ?_); rintro e w' ⟨rfl, rfl⟩) | ((go_at_call 72; with_reducible refine (CAR.out _).mono ?_); rintro e w' ⟨rfl, rfl⟩) | ((go_at_call 71; with_reducible refine (CDI.out _).mono ?_); rintro e w' ⟨rfl, rfl⟩))
  go_cut [5] from 13 to 18 (fun b wx => b = .bool (wd || wh) ∧ W0 = wx)
  case first =>
    cases wd
    all_goals
     exact qMc0
  case rest =>
    obtain ⟨rfl, rfl⟩ := hcut
    go_upto_region 3 with (first | ((go_at_call 64; first | (with_reducible refine (CisRd.out _).mono ?_) | (with_reducible refine (CisRs.out _).mono ?_)); rintro e w' ⟨rfl, rfl⟩) | ((go_at_call 66; with_reducible refine (CMR.out _).mono ?_); rintro e w' ⟨rfl, rfl⟩) | ((go_at_call 72; with_reducible refine (CAR.out _).mono ?_); rintro e w' ⟨rfl, rfl⟩) | ((go_at_call 71; with_reducible refine (CDI.out _).mono ?_); rintro e w' ⟨rfl, rfl⟩))
    go_cut [6] from 19 to 31 (fun b wx => b = .bool (rd && (rs && i0)) ∧ W0 = wx)
    case first =>
      cases rd
      · exact qMc0
      · skip
        cases rs
        all_goals
         exact qMc0
    case rest =>
      obtain ⟨rfl, rfl⟩ := hcut
      go_upto_region 4 with (first | ((go_at_call 64; first | (with_reducible refine (CisRd.out _).mono ?_) | (with_reducible refine (CisRs.out _).mono ?_)); rintro e w' ⟨rfl, rfl⟩) | ((go_at_call 66; with_reducible refine (CMR.out _).mono ?_); rintro e w' ⟨rfl, rfl⟩) | ((go_at_call 72; with_reducible refine (CAR.out _).mono ?_); rintro e w' ⟨rfl, rfl⟩) | ((go_at_call 71; with_reducible refine (CDI.out _).mono ?_); rintro e w' ⟨rfl, rfl⟩))
      go_cut [7] from 32 to 44 (fun b wx => b = .bool (rd && (s0 && i0)) ∧ W0 = wx)
      case first =>
        cases rd
        · exact qMc0
        · skip
          cases s0
          all_goals
           exact qMc0
      case rest =>
        obtain ⟨rfl, rfl⟩ := hcut
        generalize (rd && (s0 && i0)) = one at *
        generalize (rd && (rs && i0)) = rg at *
        generalize (wd || wh) = bt at *
        cases bt
        · skip
          have HOK : Hid (okI ⟨8, d, s, z, i⟩ = false) := by show _ = _; have h := HK.out; (try simp only [Bool.true_and, Bool.false_and, Bool.and_true, Bool.and_false] at h); exact h
          exact qMc2
        · skip
          have HOK : Hid (okI ⟨8, d, s, z, i⟩ = rg) := by show _ = _; have h := HK.out; (try simp only [Bool.true_and, Bool.false_and, Bool.and_true, Bool.and_false] at h); exact h
          exact qMc1
set_option maxRecDepth 100000 in
set_option maxHeartbeats 4000000 in
theorem ref_9 (d s z i : Int) (w : World) (hi : I64 i) : Calls Try.prog 49 #[.agg #[.int .i64 9, .int .i64 d, .int .i64 s, .int .i64 z, .int .i64 i]] w (MRet ⟨9, d, s, z, i⟩ w) := by
  obtain ⟨W0, hW0⟩ : ∃ W, w.alloc (.cells #[.int .i64 9, .int .i64 d, .int .i64 s, .int .i64 z, .int .i64 i] 25) = W := ⟨_, rfl⟩
  have HB : Hid (Below w.heap.size w W0) := by rw [← hW0]; exact (Below.refl _ _).alloc (Nat.le_refl _) _
  have hlt0 : w.heap.size < W0.heap.size := by rw [← hW0]; simp
  obtain ⟨q0, q1, q2, q3, q4⟩ := ins_box 9 d s z i w W0 hW0
  have h00 := Since.refl W0
  have q0a := q0 _ h00
  have q1a := q1 _ h00
  have q2a := q2 _ h00
  have q3a := q3 _ h00
  have q4a := q4 _ h00
  have HK : Hid (okI ⟨9, d, s, z, i⟩ = (((z == 32 || z == 16)) && ((isR d && (isR s && i == 0))))) := by show _ = _; rw [Bool.eq_iff_iff]; simp [okI, szI, fitI, fitJ, isM, isR, isL, isC, isB, isW4] <;> omega
  have CisRd := Lib.hid (fun w => isReg_ref d w)
  have CisRs := Lib.hid (fun w => isReg_ref s w)
  have CMR := Lib.hid (fun w => rmr_any s d w)
  have CAR : Hid (∀ w, Calls Try.prog 72 #[.int .i64 9] w fun e w' => e = .returned (.int .u8 33) ∧ w = w') := fun w => arith_any 9 w (by decide)
  have CDI : Hid (∀ w, Calls Try.prog 71 #[.int .i64 9] w fun e w' => e = .returned (.int .i64 (-1)) ∧ w = w') := fun w => digit_any 9 w (by decide)
  obtain ⟨wd, hwd⟩ : ∃ b, (z == 32) = b := ⟨_, rfl⟩
  obtain ⟨wh, hwh⟩ : ∃ b, (z == 16) = b := ⟨_, rfl⟩
  try rw [hwd] at HK
  try rw [hwh] at HK
  obtain ⟨rd, hrd⟩ : ∃ b, isR d = b := ⟨_, rfl⟩
  rw [hrd] at CisRd
  obtain ⟨rs, hrs⟩ : ∃ b, isR s = b := ⟨_, rfl⟩
  rw [hrs] at CisRs
  try rw [hrd] at HK
  try rw [hrs] at HK
  have HRD := Lib.hid hrd
  have HRS := Lib.hid hrs
  clear hrd hrs
  obtain ⟨s0, hs0⟩ : ∃ b, (s == 0) = b := ⟨_, rfl⟩
  try rw [hs0] at HK
  obtain ⟨i0, hi0⟩ : ∃ b, (i == 0) = b := ⟨_, rfl⟩
  try rw [hi0] at HK
  go_enter Try.func49, Try.ntmps49
  go_upto_region 2 with (first | ((go_at_call 64; first | (with_reducible refine (CisRd.out _).mono ?_) | (with_reducible refine (CisRs.out _).mono ?_)); rintro e w' ⟨rfl, rfl⟩) | ((go_at_call 66; with_reducible refine (CMR.out _).mono ?_); rintro e w' ⟨rfl, rfl⟩) | ((go_at_call 72; with_reducible refine (CAR.out _).mono ?_); rintro e w' ⟨rfl, rfl⟩) | ((go_at_call 71; with_reducible refine (CDI.out _).mono ?_); rintro e w' ⟨rfl, rfl⟩))
  go_cut [5] from 13 to 18 (fun b wx => b = .bool (wd || wh) ∧ W0 = wx)
  case first =>
    cases wd
    all_goals
     exact qMc0
  case rest =>
    obtain ⟨rfl, rfl⟩ := hcut
    go_upto_region 3 with (first | ((go_at_call 64; first | (with_reducible refine (CisRd.out _).mono ?_) | (with_reducible refine (CisRs.out _).mono ?_)); rintro e w' ⟨rfl, rfl⟩) | ((go_at_call 66; with_reducible refine (CMR.out _).mono ?_); rintro e w' ⟨rfl, rfl⟩) | ((go_at_call 72; with_reducible refine (CAR.out _).mono ?_); rintro e w' ⟨rfl, rfl⟩) | ((go_at_call 71; with_reducible refine (CDI.out _).mono ?_); rintro e w' ⟨rfl, rfl⟩))
    go_cut [6] from 19 to 31 (fun b wx => b = .bool (rd && (rs && i0)) ∧ W0 = wx)
    case first =>
      cases rd
      · exact qMc0
      · skip
        cases rs
        all_goals
         exact qMc0
    case rest =>
      obtain ⟨rfl, rfl⟩ := hcut
      go_upto_region 4 with (first | ((go_at_call 64; first | (with_reducible refine (CisRd.out _).mono ?_) | (with_reducible refine (CisRs.out _).mono ?_)); rintro e w' ⟨rfl, rfl⟩) | ((go_at_call 66; with_reducible refine (CMR.out _).mono ?_); rintro e w' ⟨rfl, rfl⟩) | ((go_at_call 72; with_reducible refine (CAR.out _).mono ?_); rintro e w' ⟨rfl, rfl⟩) | ((go_at_call 71; with_reducible refine (CDI.out _).mono ?_); rintro e w' ⟨rfl, rfl⟩))
      go_cut [7] from 32 to 44 (fun b wx => b = .bool (rd && (s0 && i0)) ∧ W0 = wx)
      case first =>
        cases rd
        · exact qMc0
        · skip
          cases s0
          all_goals
           exact qMc0
      case rest =>
        obtain ⟨rfl, rfl⟩ := hcut
        generalize (rd && (s0 && i0)) = one at *
        generalize (rd && (rs && i0)) = rg at *
        generalize (wd || wh) = bt at *
        cases bt
        · skip
          have HOK : Hid (okI ⟨9, d, s, z, i⟩ = false) := by show _ = _; have h := HK.out; (try simp only [Bool.true_and, Bool.false_and, Bool.and_true, Bool.and_false] at h); exact h
          exact qMc2
        · skip
          have HOK : Hid (okI ⟨9, d, s, z, i⟩ = rg) := by show _ = _; have h := HK.out; (try simp only [Bool.true_and, Bool.false_and, Bool.and_true, Bool.and_false] at h); exact h
          exact qMc1
set_option maxRecDepth 100000 in
set_option maxHeartbeats 4000000 in
theorem ref_10 (d s z i : Int) (w : World) (hi : I64 i) : Calls Try.prog 49 #[.agg #[.int .i64 10, .int .i64 d, .int .i64 s, .int .i64 z, .int .i64 i]] w (MRet ⟨10, d, s, z, i⟩ w) := by
  obtain ⟨W0, hW0⟩ : ∃ W, w.alloc (.cells #[.int .i64 10, .int .i64 d, .int .i64 s, .int .i64 z, .int .i64 i] 25) = W := ⟨_, rfl⟩
  have HB : Hid (Below w.heap.size w W0) := by rw [← hW0]; exact (Below.refl _ _).alloc (Nat.le_refl _) _
  have hlt0 : w.heap.size < W0.heap.size := by rw [← hW0]; simp
  obtain ⟨q0, q1, q2, q3, q4⟩ := ins_box 10 d s z i w W0 hW0
  have h00 := Since.refl W0
  have q0a := q0 _ h00
  have q1a := q1 _ h00
  have q2a := q2 _ h00
  have q3a := q3 _ h00
  have q4a := q4 _ h00
  have HK : Hid (okI ⟨10, d, s, z, i⟩ = (((z == 32 || z == 16)) && ((isR d && (isR s && i == 0))))) := by show _ = _; rw [Bool.eq_iff_iff]; simp [okI, szI, fitI, fitJ, isM, isR, isL, isC, isB, isW4] <;> omega
  have CisRd := Lib.hid (fun w => isReg_ref d w)
  have CisRs := Lib.hid (fun w => isReg_ref s w)
  have CMR := Lib.hid (fun w => rmr_any s d w)
  have CAR : Hid (∀ w, Calls Try.prog 72 #[.int .i64 10] w fun e w' => e = .returned (.int .u8 41) ∧ w = w') := fun w => arith_any 10 w (by decide)
  have CDI : Hid (∀ w, Calls Try.prog 71 #[.int .i64 10] w fun e w' => e = .returned (.int .i64 (-1)) ∧ w = w') := fun w => digit_any 10 w (by decide)
  obtain ⟨wd, hwd⟩ : ∃ b, (z == 32) = b := ⟨_, rfl⟩
  obtain ⟨wh, hwh⟩ : ∃ b, (z == 16) = b := ⟨_, rfl⟩
  try rw [hwd] at HK
  try rw [hwh] at HK
  obtain ⟨rd, hrd⟩ : ∃ b, isR d = b := ⟨_, rfl⟩
  rw [hrd] at CisRd
  obtain ⟨rs, hrs⟩ : ∃ b, isR s = b := ⟨_, rfl⟩
  rw [hrs] at CisRs
  try rw [hrd] at HK
  try rw [hrs] at HK
  have HRD := Lib.hid hrd
  have HRS := Lib.hid hrs
  clear hrd hrs
  obtain ⟨s0, hs0⟩ : ∃ b, (s == 0) = b := ⟨_, rfl⟩
  try rw [hs0] at HK
  obtain ⟨i0, hi0⟩ : ∃ b, (i == 0) = b := ⟨_, rfl⟩
  try rw [hi0] at HK
  go_enter Try.func49, Try.ntmps49
  go_upto_region 2 with (first | ((go_at_call 64; first | (with_reducible refine (CisRd.out _).mono ?_) | (with_reducible refine (CisRs.out _).mono ?_)); rintro e w' ⟨rfl, rfl⟩) | ((go_at_call 66; with_reducible refine (CMR.out _).mono ?_); rintro e w' ⟨rfl, rfl⟩) | ((go_at_call 72; with_reducible refine (CAR.out _).mono ?_); rintro e w' ⟨rfl, rfl⟩) | ((go_at_call 71; with_reducible refine (CDI.out _).mono ?_); rintro e w' ⟨rfl, rfl⟩))
  go_cut [5] from 13 to 18 (fun b wx => b = .bool (wd || wh) ∧ W0 = wx)
  case first =>
    cases wd
    all_goals
     exact qMc0
  case rest =>
    obtain ⟨rfl, rfl⟩ := hcut
    go_upto_region 3 with (first | ((go_at_call 64; first | (with_reducible refine (CisRd.out _).mono ?_) | (with_reducible refine (CisRs.out _).mono ?_)); rintro e w' ⟨rfl, rfl⟩) | ((go_at_call 66; with_reducible refine (CMR.out _).mono ?_); rintro e w' ⟨rfl, rfl⟩) | ((go_at_call 72; with_reducible refine (CAR.out _).mono ?_); rintro e w' ⟨rfl, rfl⟩) | ((go_at_call 71; with_reducible refine (CDI.out _).mono ?_); rintro e w' ⟨rfl, rfl⟩))
    go_cut [6] from 19 to 31 (fun b wx => b = .bool (rd && (rs && i0)) ∧ W0 = wx)
    case first =>
      cases rd
      · exact qMc0
      · skip
        cases rs
        all_goals
         exact qMc0
    case rest =>
      obtain ⟨rfl, rfl⟩ := hcut
      go_upto_region 4 with (first | ((go_at_call 64; first | (with_reducible refine (CisRd.out _).mono ?_) | (with_reducible refine (CisRs.out _).mono ?_)); rintro e w' ⟨rfl, rfl⟩) | ((go_at_call 66; with_reducible refine (CMR.out _).mono ?_); rintro e w' ⟨rfl, rfl⟩) | ((go_at_call 72; with_reducible refine (CAR.out _).mono ?_); rintro e w' ⟨rfl, rfl⟩) | ((go_at_call 71; with_reducible refine (CDI.out _).mono ?_); rintro e w' ⟨rfl, rfl⟩))
      go_cut [7] from 32 to 44 (fun b wx => b = .bool (rd && (s0 && i0)) ∧ W0 = wx)
      case first =>
        cases rd
        · exact qMc0
        · skip
          cases s0
          all_goals
           exact qMc0
      case rest =>
        obtain ⟨rfl, rfl⟩ := hcut
        generalize (rd && (s0 && i0)) = one at *
        generalize (rd && (rs && i0)) = rg at *
        generalize (wd || wh) = bt at *
        cases bt
        · skip
          have HOK : Hid (okI ⟨10, d, s, z, i⟩ = false) := by show _ = _; have h := HK.out; (try simp only [Bool.true_and, Bool.false_and, Bool.and_true, Bool.and_false] at h); exact h
          exact qMc2
        · skip
          have HOK : Hid (okI ⟨10, d, s, z, i⟩ = rg) := by show _ = _; have h := HK.out; (try simp only [Bool.true_and, Bool.false_and, Bool.and_true, Bool.and_false] at h); exact h
          exact qMc1
set_option maxRecDepth 100000 in
set_option maxHeartbeats 4000000 in
theorem ref_11 (d s z i : Int) (w : World) (hi : I64 i) : Calls Try.prog 49 #[.agg #[.int .i64 11, .int .i64 d, .int .i64 s, .int .i64 z, .int .i64 i]] w (MRet ⟨11, d, s, z, i⟩ w) := by
  obtain ⟨W0, hW0⟩ : ∃ W, w.alloc (.cells #[.int .i64 11, .int .i64 d, .int .i64 s, .int .i64 z, .int .i64 i] 25) = W := ⟨_, rfl⟩
  have HB : Hid (Below w.heap.size w W0) := by rw [← hW0]; exact (Below.refl _ _).alloc (Nat.le_refl _) _
  have hlt0 : w.heap.size < W0.heap.size := by rw [← hW0]; simp
  obtain ⟨q0, q1, q2, q3, q4⟩ := ins_box 11 d s z i w W0 hW0
  have h00 := Since.refl W0
  have q0a := q0 _ h00
  have q1a := q1 _ h00
  have q2a := q2 _ h00
  have q3a := q3 _ h00
  have q4a := q4 _ h00
  have HK : Hid (okI ⟨11, d, s, z, i⟩ = (((z == 32 || z == 16)) && ((isR d && (isR s && i == 0))))) := by show _ = _; rw [Bool.eq_iff_iff]; simp [okI, szI, fitI, fitJ, isM, isR, isL, isC, isB, isW4] <;> omega
  have CisRd := Lib.hid (fun w => isReg_ref d w)
  have CisRs := Lib.hid (fun w => isReg_ref s w)
  have CMR := Lib.hid (fun w => rmr_any s d w)
  have CAR : Hid (∀ w, Calls Try.prog 72 #[.int .i64 11] w fun e w' => e = .returned (.int .u8 49) ∧ w = w') := fun w => arith_any 11 w (by decide)
  have CDI : Hid (∀ w, Calls Try.prog 71 #[.int .i64 11] w fun e w' => e = .returned (.int .i64 (-1)) ∧ w = w') := fun w => digit_any 11 w (by decide)
  obtain ⟨wd, hwd⟩ : ∃ b, (z == 32) = b := ⟨_, rfl⟩
  obtain ⟨wh, hwh⟩ : ∃ b, (z == 16) = b := ⟨_, rfl⟩
  try rw [hwd] at HK
  try rw [hwh] at HK
  obtain ⟨rd, hrd⟩ : ∃ b, isR d = b := ⟨_, rfl⟩
  rw [hrd] at CisRd
  obtain ⟨rs, hrs⟩ : ∃ b, isR s = b := ⟨_, rfl⟩
  rw [hrs] at CisRs
  try rw [hrd] at HK
  try rw [hrs] at HK
  have HRD := Lib.hid hrd
  have HRS := Lib.hid hrs
  clear hrd hrs
  obtain ⟨s0, hs0⟩ : ∃ b, (s == 0) = b := ⟨_, rfl⟩
  try rw [hs0] at HK
  obtain ⟨i0, hi0⟩ : ∃ b, (i == 0) = b := ⟨_, rfl⟩
  try rw [hi0] at HK
  go_enter Try.func49, Try.ntmps49
  go_upto_region 2 with (first | ((go_at_call 64; first | (with_reducible refine (CisRd.out _).mono ?_) | (with_reducible refine (CisRs.out _).mono ?_)); rintro e w' ⟨rfl, rfl⟩) | ((go_at_call 66; with_reducible refine (CMR.out _).mono ?_); rintro e w' ⟨rfl, rfl⟩) | ((go_at_call 72; with_reducible refine (CAR.out _).mono ?_); rintro e w' ⟨rfl, rfl⟩) | ((go_at_call 71; with_reducible refine (CDI.out _).mono ?_); rintro e w' ⟨rfl, rfl⟩))
  go_cut [5] from 13 to 18 (fun b wx => b = .bool (wd || wh) ∧ W0 = wx)
  case first =>
    cases wd
    all_goals
     exact qMc0
  case rest =>
    obtain ⟨rfl, rfl⟩ := hcut
    go_upto_region 3 with (first | ((go_at_call 64; first | (with_reducible refine (CisRd.out _).mono ?_) | (with_reducible refine (CisRs.out _).mono ?_)); rintro e w' ⟨rfl, rfl⟩) | ((go_at_call 66; with_reducible refine (CMR.out _).mono ?_); rintro e w' ⟨rfl, rfl⟩) | ((go_at_call 72; with_reducible refine (CAR.out _).mono ?_); rintro e w' ⟨rfl, rfl⟩) | ((go_at_call 71; with_reducible refine (CDI.out _).mono ?_); rintro e w' ⟨rfl, rfl⟩))
    go_cut [6] from 19 to 31 (fun b wx => b = .bool (rd && (rs && i0)) ∧ W0 = wx)
    case first =>
      cases rd
      · exact qMc0
      · skip
        cases rs
        all_goals
         exact qMc0
    case rest =>
      obtain ⟨rfl, rfl⟩ := hcut
      go_upto_region 4 with (first | ((go_at_call 64; first | (with_reducible refine (CisRd.out _).mono ?_) | (with_reducible refine (CisRs.out _).mono ?_)); rintro e w' ⟨rfl, rfl⟩) | ((go_at_call 66; with_reducible refine (CMR.out _).mono ?_); rintro e w' ⟨rfl, rfl⟩) | ((go_at_call 72; with_reducible refine (CAR.out _).mono ?_); rintro e w' ⟨rfl, rfl⟩) | ((go_at_call 71; with_reducible refine (CDI.out _).mono ?_); rintro e w' ⟨rfl, rfl⟩))
      go_cut [7] from 32 to 44 (fun b wx => b = .bool (rd && (s0 && i0)) ∧ W0 = wx)
      case first =>
        cases rd
        · exact qMc0
        · skip
          cases s0
          all_goals
           exact qMc0
      case rest =>
        obtain ⟨rfl, rfl⟩ := hcut
        generalize (rd && (s0 && i0)) = one at *
        generalize (rd && (rs && i0)) = rg at *
        generalize (wd || wh) = bt at *
        cases bt
        · skip
          have HOK : Hid (okI ⟨11, d, s, z, i⟩ = false) := by show _ = _; have h := HK.out; (try simp only [Bool.true_and, Bool.false_and, Bool.and_true, Bool.and_false] at h); exact h
          exact qMc2
        · skip
          have HOK : Hid (okI ⟨11, d, s, z, i⟩ = rg) := by show _ = _; have h := HK.out; (try simp only [Bool.true_and, Bool.false_and, Bool.and_true, Bool.and_false] at h); exact h
          exact qMc1
set_option maxRecDepth 100000 in
set_option maxHeartbeats 4000000 in
theorem ref_12 (d s z i : Int) (w : World) (hi : I64 i) : Calls Try.prog 49 #[.agg #[.int .i64 12, .int .i64 d, .int .i64 s, .int .i64 z, .int .i64 i]] w (MRet ⟨12, d, s, z, i⟩ w) := by
  obtain ⟨W0, hW0⟩ : ∃ W, w.alloc (.cells #[.int .i64 12, .int .i64 d, .int .i64 s, .int .i64 z, .int .i64 i] 25) = W := ⟨_, rfl⟩
  have HB : Hid (Below w.heap.size w W0) := by rw [← hW0]; exact (Below.refl _ _).alloc (Nat.le_refl _) _
  have hlt0 : w.heap.size < W0.heap.size := by rw [← hW0]; simp
  obtain ⟨q0, q1, q2, q3, q4⟩ := ins_box 12 d s z i w W0 hW0
  have h00 := Since.refl W0
  have q0a := q0 _ h00
  have q1a := q1 _ h00
  have q2a := q2 _ h00
  have q3a := q3 _ h00
  have q4a := q4 _ h00
  have HK : Hid (okI ⟨12, d, s, z, i⟩ = (((z == 32 || z == 16)) && ((isR d && (isR s && i == 0))))) := by show _ = _; rw [Bool.eq_iff_iff]; simp [okI, szI, fitI, fitJ, isM, isR, isL, isC, isB, isW4] <;> omega
  have CisRd := Lib.hid (fun w => isReg_ref d w)
  have CisRs := Lib.hid (fun w => isReg_ref s w)
  have CMR := Lib.hid (fun w => rmr_any s d w)
  have CAR : Hid (∀ w, Calls Try.prog 72 #[.int .i64 12] w fun e w' => e = .returned (.int .u8 57) ∧ w = w') := fun w => arith_any 12 w (by decide)
  have CDI : Hid (∀ w, Calls Try.prog 71 #[.int .i64 12] w fun e w' => e = .returned (.int .i64 (-1)) ∧ w = w') := fun w => digit_any 12 w (by decide)
  obtain ⟨wd, hwd⟩ : ∃ b, (z == 32) = b := ⟨_, rfl⟩
  obtain ⟨wh, hwh⟩ : ∃ b, (z == 16) = b := ⟨_, rfl⟩
  try rw [hwd] at HK
  try rw [hwh] at HK
  obtain ⟨rd, hrd⟩ : ∃ b, isR d = b := ⟨_, rfl⟩
  rw [hrd] at CisRd
  obtain ⟨rs, hrs⟩ : ∃ b, isR s = b := ⟨_, rfl⟩
  rw [hrs] at CisRs
  try rw [hrd] at HK
  try rw [hrs] at HK
  have HRD := Lib.hid hrd
  have HRS := Lib.hid hrs
  clear hrd hrs
  obtain ⟨s0, hs0⟩ : ∃ b, (s == 0) = b := ⟨_, rfl⟩
  try rw [hs0] at HK
  obtain ⟨i0, hi0⟩ : ∃ b, (i == 0) = b := ⟨_, rfl⟩
  try rw [hi0] at HK
  go_enter Try.func49, Try.ntmps49
  go_upto_region 2 with (first | ((go_at_call 64; first | (with_reducible refine (CisRd.out _).mono ?_) | (with_reducible refine (CisRs.out _).mono ?_)); rintro e w' ⟨rfl, rfl⟩) | ((go_at_call 66; with_reducible refine (CMR.out _).mono ?_); rintro e w' ⟨rfl, rfl⟩) | ((go_at_call 72; with_reducible refine (CAR.out _).mono ?_); rintro e w' ⟨rfl, rfl⟩) | ((go_at_call 71; with_reducible refine (CDI.out _).mono ?_); rintro e w' ⟨rfl, rfl⟩))
  go_cut [5] from 13 to 18 (fun b wx => b = .bool (wd || wh) ∧ W0 = wx)
  case first =>
    cases wd
    all_goals
     exact qMc0
  case rest =>
    obtain ⟨rfl, rfl⟩ := hcut
    go_upto_region 3 with (first | ((go_at_call 64; first | (with_reducible refine (CisRd.out _).mono ?_) | (with_reducible refine (CisRs.out _).mono ?_)); rintro e w' ⟨rfl, rfl⟩) | ((go_at_call 66; with_reducible refine (CMR.out _).mono ?_); rintro e w' ⟨rfl, rfl⟩) | ((go_at_call 72; with_reducible refine (CAR.out _).mono ?_); rintro e w' ⟨rfl, rfl⟩) | ((go_at_call 71; with_reducible refine (CDI.out _).mono ?_); rintro e w' ⟨rfl, rfl⟩))
    go_cut [6] from 19 to 31 (fun b wx => b = .bool (rd && (rs && i0)) ∧ W0 = wx)
    case first =>
      cases rd
      · exact qMc0
      · skip
        cases rs
        all_goals
         exact qMc0
    case rest =>
      obtain ⟨rfl, rfl⟩ := hcut
      go_upto_region 4 with (first | ((go_at_call 64; first | (with_reducible refine (CisRd.out _).mono ?_) | (with_reducible refine (CisRs.out _).mono ?_)); rintro e w' ⟨rfl, rfl⟩) | ((go_at_call 66; with_reducible refine (CMR.out _).mono ?_); rintro e w' ⟨rfl, rfl⟩) | ((go_at_call 72; with_reducible refine (CAR.out _).mono ?_); rintro e w' ⟨rfl, rfl⟩) | ((go_at_call 71; with_reducible refine (CDI.out _).mono ?_); rintro e w' ⟨rfl, rfl⟩))
      go_cut [7] from 32 to 44 (fun b wx => b = .bool (rd && (s0 && i0)) ∧ W0 = wx)
      case first =>
        cases rd
        · exact qMc0
        · skip
          cases s0
          all_goals
           exact qMc0
      case rest =>
        obtain ⟨rfl, rfl⟩ := hcut
        generalize (rd && (s0 && i0)) = one at *
        generalize (rd && (rs && i0)) = rg at *
        generalize (wd || wh) = bt at *
        cases bt
        · skip
          have HOK : Hid (okI ⟨12, d, s, z, i⟩ = false) := by show _ = _; have h := HK.out; (try simp only [Bool.true_and, Bool.false_and, Bool.and_true, Bool.and_false] at h); exact h
          exact qMc2
        · skip
          have HOK : Hid (okI ⟨12, d, s, z, i⟩ = rg) := by show _ = _; have h := HK.out; (try simp only [Bool.true_and, Bool.false_and, Bool.and_true, Bool.and_false] at h); exact h
          exact qMc1
set_option maxRecDepth 100000 in
set_option maxHeartbeats 4000000 in
theorem ref_13 (d s z i : Int) (w : World) (hi : I64 i) : Calls Try.prog 49 #[.agg #[.int .i64 13, .int .i64 d, .int .i64 s, .int .i64 z, .int .i64 i]] w (MRet ⟨13, d, s, z, i⟩ w) := by
  obtain ⟨W0, hW0⟩ : ∃ W, w.alloc (.cells #[.int .i64 13, .int .i64 d, .int .i64 s, .int .i64 z, .int .i64 i] 25) = W := ⟨_, rfl⟩
  have HB : Hid (Below w.heap.size w W0) := by rw [← hW0]; exact (Below.refl _ _).alloc (Nat.le_refl _) _
  have hlt0 : w.heap.size < W0.heap.size := by rw [← hW0]; simp
  obtain ⟨q0, q1, q2, q3, q4⟩ := ins_box 13 d s z i w W0 hW0
  have h00 := Since.refl W0
  have q0a := q0 _ h00
  have q1a := q1 _ h00
  have q2a := q2 _ h00
  have q3a := q3 _ h00
  have q4a := q4 _ h00
  have HK : Hid (okI ⟨13, d, s, z, i⟩ = (((z == 32 || z == 16)) && ((isR d && (isR s && i == 0))))) := by show _ = _; rw [Bool.eq_iff_iff]; simp [okI, szI, fitI, fitJ, isM, isR, isL, isC, isB, isW4] <;> omega
  have CisRd := Lib.hid (fun w => isReg_ref d w)
  have CisRs := Lib.hid (fun w => isReg_ref s w)
  have CMR := Lib.hid (fun w => rmr_any s d w)
  have CAR : Hid (∀ w, Calls Try.prog 72 #[.int .i64 13] w fun e w' => e = .returned (.int .u8 133) ∧ w = w') := fun w => arith_any 13 w (by decide)
  have CDI : Hid (∀ w, Calls Try.prog 71 #[.int .i64 13] w fun e w' => e = .returned (.int .i64 (-1)) ∧ w = w') := fun w => digit_any 13 w (by decide)
  obtain ⟨wd, hwd⟩ : ∃ b, (z == 32) = b := ⟨_, rfl⟩
  obtain ⟨wh, hwh⟩ : ∃ b, (z == 16) = b := ⟨_, rfl⟩
  try rw [hwd] at HK
  try rw [hwh] at HK
  obtain ⟨rd, hrd⟩ : ∃ b, isR d = b := ⟨_, rfl⟩
  rw [hrd] at CisRd
  obtain ⟨rs, hrs⟩ : ∃ b, isR s = b := ⟨_, rfl⟩
  rw [hrs] at CisRs
  try rw [hrd] at HK
  try rw [hrs] at HK
  have HRD := Lib.hid hrd
  have HRS := Lib.hid hrs
  clear hrd hrs
  obtain ⟨s0, hs0⟩ : ∃ b, (s == 0) = b := ⟨_, rfl⟩
  try rw [hs0] at HK
  obtain ⟨i0, hi0⟩ : ∃ b, (i == 0) = b := ⟨_, rfl⟩
  try rw [hi0] at HK
  go_enter Try.func49, Try.ntmps49
  go_upto_region 2 with (first | ((go_at_call 64; first | (with_reducible refine (CisRd.out _).mono ?_) | (with_reducible refine (CisRs.out _).mono ?_)); rintro e w' ⟨rfl, rfl⟩) | ((go_at_call 66; with_reducible refine (CMR.out _).mono ?_); rintro e w' ⟨rfl, rfl⟩) | ((go_at_call 72; with_reducible refine (CAR.out _).mono ?_); rintro e w' ⟨rfl, rfl⟩) | ((go_at_call 71; with_reducible refine (CDI.out _).mono ?_); rintro e w' ⟨rfl, rfl⟩))
  go_cut [5] from 13 to 18 (fun b wx => b = .bool (wd || wh) ∧ W0 = wx)
  case first =>
    cases wd
    all_goals
     exact qMc0
  case rest =>
    obtain ⟨rfl, rfl⟩ := hcut
    go_upto_region 3 with (first | ((go_at_call 64; first | (with_reducible refine (CisRd.out _).mono ?_) | (with_reducible refine (CisRs.out _).mono ?_)); rintro e w' ⟨rfl, rfl⟩) | ((go_at_call 66; with_reducible refine (CMR.out _).mono ?_); rintro e w' ⟨rfl, rfl⟩) | ((go_at_call 72; with_reducible refine (CAR.out _).mono ?_); rintro e w' ⟨rfl, rfl⟩) | ((go_at_call 71; with_reducible refine (CDI.out _).mono ?_); rintro e w' ⟨rfl, rfl⟩))
    go_cut [6] from 19 to 31 (fun b wx => b = .bool (rd && (rs && i0)) ∧ W0 = wx)
    case first =>
      cases rd
      · exact qMc0
      · skip
        cases rs
        all_goals
         exact qMc0
    case rest =>
      obtain ⟨rfl, rfl⟩ := hcut
      go_upto_region 4 with (first | ((go_at_call 64; first | (with_reducible refine (CisRd.out _).mono ?_) | (with_reducible refine (CisRs.out _).mono ?_)); rintro e w' ⟨rfl, rfl⟩) | ((go_at_call 66; with_reducible refine (CMR.out _).mono ?_); rintro e w' ⟨rfl, rfl⟩) | ((go_at_call 72; with_reducible refine (CAR.out _).mono ?_); rintro e w' ⟨rfl, rfl⟩) | ((go_at_call 71; with_reducible refine (CDI.out _).mono ?_); rintro e w' ⟨rfl, rfl⟩))
      go_cut [7] from 32 to 44 (fun b wx => b = .bool (rd && (s0 && i0)) ∧ W0 = wx)
      case first =>
        cases rd
        · exact qMc0
        · skip
          cases s0
          all_goals
           exact qMc0
      case rest =>
        obtain ⟨rfl, rfl⟩ := hcut
        generalize (rd && (s0 && i0)) = one at *
        generalize (rd && (rs && i0)) = rg at *
        generalize (wd || wh) = bt at *
        cases bt
        · skip
          have HOK : Hid (okI ⟨13, d, s, z, i⟩ = false) := by show _ = _; have h := HK.out; (try simp only [Bool.true_and, Bool.false_and, Bool.and_true, Bool.and_false] at h); exact h
          exact qMc2
        · skip
          have HOK : Hid (okI ⟨13, d, s, z, i⟩ = rg) := by show _ = _; have h := HK.out; (try simp only [Bool.true_and, Bool.false_and, Bool.and_true, Bool.and_false] at h); exact h
          exact qMc1
end Go.Proofs.Ytdojafpjipcbjaa
