/- Walks of the reference's coders, operation by operation and size by size. -/
import Derived.Deep.CutRange
import Derived.Test.YtdojafpjipcbjaaJ12
namespace Go.Proofs.Ytdojafpjipcbjaa
open Go.RowKit
set_option linter.unusedVariables false
set_option linter.unusedSimpArgs false
theorem qMe2 {p : Prop} (h : p := by
  go_wp2_with (first | ((go_at_call 64; first | (with_reducible refine (CisRd.out _).mono ?_) | (with_reducible refine (CisRs.out _).mono ?_)); rintro e w' ⟨rfl, rfl⟩) | ((go_at_call 66; with_reducible refine (CMR.out _).mono ?_); rintro e w' ⟨rfl, rfl⟩) | ((go_at_call 71; with_reducible refine (CDI.out _).mono ?_); rintro e w' ⟨rfl, rfl⟩))
  all_goals go_ret2
  all_goals exact MRet.mk HOK.out.symm (fun h => absurd h (by rw [HOK.out]; simp)) (bel_lit HB.out)) : p := h
theorem qMe1 {p : Prop} (h : p := by
  go_wp2_with (first | ((go_at_call 64; first | (with_reducible refine (CisRd.out _).mono ?_) | (with_reducible refine (CisRs.out _).mono ?_)); rintro e w' ⟨rfl, rfl⟩) | ((go_at_call 66; with_reducible refine (CMR.out _).mono ?_); rintro e w' ⟨rfl, rfl⟩) | ((go_at_call 71; with_reducible refine (CDI.out _).mono ?_); rintro e w' ⟨rfl, rfl⟩))
  all_goals go_ret2
  all_goals exact MRet.mk HOK.out.symm (fun h => RowI.to (RowI.lit W0 #[_, _] [_, _] .u8 5 w.heap.size 2 HB.out.size rfl rfl (by unfold maxLen; simp)) (by first | rfl | (have hb1 := ok_fit h; simp [fitI, fitJ, isR, isM, isL, isC, isB, isW4, inZ] at hb1; simp [bodyI, IntKind.wrap_u8, IntKind.wrap_i64, ariI, i64_and255] <;> omega))) (bel_lit HB.out)) : p := h
theorem qMe0 {p : Prop} (h : p := by
  skip
  go_wp2_with (first | ((go_at_call 64; first | (with_reducible refine (CisRd.out _).mono ?_) | (with_reducible refine (CisRs.out _).mono ?_)); rintro e w' ⟨rfl, rfl⟩) | ((go_at_call 66; with_reducible refine (CMR.out _).mono ?_); rintro e w' ⟨rfl, rfl⟩) | ((go_at_call 71; with_reducible refine (CDI.out _).mono ?_); rintro e w' ⟨rfl, rfl⟩))
  go_meet
  case rel => exact ⟨by simp [*], rfl⟩) : p := h
set_option maxRecDepth 100000 in
set_option maxHeartbeats 4000000 in
theorem ref_20 (d s z i : Int) (w : World) (hi : I64 i) : Calls Try.prog 49 #[.agg #[.int .i64 20, .int .i64 d, .int .i64 s, .int .i64 z, .int .i64 i]] w (MRet ⟨20, d, s, z, i⟩ w) := by
  obtain ⟨W0, hW0⟩ : ∃ W, w.alloc (.cells #[.int .i64 20, .int .i64 d, .int .i64 s, .int .i64 z, .int .i64 i] 25) = W := ⟨_, rfl⟩
  have HB : Hid (Below w.heap.size w W0) := by rw [← hW0]; exact (Below.refl _ _).alloc (Nat.le_refl _) _
  have hlt0 : w.heap.size < W0.heap.size := by rw [← hW0]; simp
  obtain ⟨q0, q1, q2, q3, q4⟩ := ins_box 20 d s z i w W0 hW0
  have h00 := Since.refl W0
  have q0a := q0 _ h00
  have q1a := q1 _ h00
  have q2a := q2 _ h00
  have q3a := q3 _ h00
  have q4a := q4 _ h00
  have HK : Hid (okI ⟨20, d, s, z, i⟩ = (((z == 32)) && ((isR d && (isR s && i == 0))))) := by show _ = _; rw [Bool.eq_iff_iff]; simp [okI, szI, fitI, fitJ, isM, isR, isL, isC, isB, isW4] <;> omega
  have CisRd := Lib.hid (fun w => isReg_ref d w)
  have CisRs := Lib.hid (fun w => isReg_ref s w)
  have CMR := Lib.hid (fun w => rmr_any d s w)
  have CDI : Hid (∀ w, Calls Try.prog 71 #[.int .i64 20] w fun e w' => e = .returned (.int .i64 (-1)) ∧ w = w') := fun w => digit_any 20 w (by decide)
  obtain ⟨wd, hwd⟩ : ∃ b, (z == 32) = b := ⟨_, rfl⟩
  obtain ⟨wh, hwh⟩ : ∃ b, (z == 16) = b := ⟨_, rfl⟩
  try rw [hwd] at HK
  try rw [hwh] at HK
  obtain ⟨rd, hrd⟩ : ∃ b, isR d = b := ⟨_, rfl⟩
  rw [hrd] at CisRd
  obtain ⟨rs, hrs⟩ : ∃ b, isR s = b := ⟨_, rfl⟩
  rw [hrs] at CisRs
  try rw [hrd] at HK
  try rw [hrs] at HK
  have HRD := Lib.hid hrd
  have HRS := Lib.hid hrs
  clear hrd hrs
  obtain ⟨s0, hs0⟩ : ∃ b, (s == 0) = b := ⟨_, rfl⟩
  try rw [hs0] at HK
  obtain ⟨i0, hi0⟩ : ∃ b, (i == 0) = b := ⟨_, rfl⟩
  try rw [hi0] at HK
  go_enter Try.func49, Try.ntmps49
  go_upto_region 2 with (first | ((go_at_call 64; first | (with_reducible refine (CisRd.out _).mono ?_) | (with_reducible refine (CisRs.out _).mono ?_)); rintro e w' ⟨rfl, rfl⟩) | ((go_at_call 66; with_reducible refine (CMR.out _).mono ?_); rintro e w' ⟨rfl, rfl⟩) | ((go_at_call 71; with_reducible refine (CDI.out _).mono ?_); rintro e w' ⟨rfl, rfl⟩))
  go_cut [5] from 13 to 18 (fun b wx => b = .bool (wd || wh) ∧ W0 = wx)
  case first =>
    cases wd
    all_goals
     exact qMe0
  case rest =>
    obtain ⟨rfl, rfl⟩ := hcut
    go_upto_region 3 with (first | ((go_at_call 64; first | (with_reducible refine (CisRd.out _).mono ?_) | (with_reducible refine (CisRs.out _).mono ?_)); rintro e w' ⟨rfl, rfl⟩) | ((go_at_call 66; with_reducible refine (CMR.out _).mono ?_); rintro e w' ⟨rfl, rfl⟩) | ((go_at_call 71; with_reducible refine (CDI.out _).mono ?_); rintro e w' ⟨rfl, rfl⟩))
    go_cut [6] from 19 to 31 (fun b wx => b = .bool (rd && (rs && i0)) ∧ W0 = wx)
    case first =>
      cases rd
      · exact qMe0
      · skip
        cases rs
        all_goals
         exact qMe0
    case rest =>
      obtain ⟨rfl, rfl⟩ := hcut
      go_upto_region 4 with (first | ((go_at_call 64; first | (with_reducible refine (CisRd.out _).mono ?_) | (with_reducible refine (CisRs.out _).mono ?_)); rintro e w' ⟨rfl, rfl⟩) | ((go_at_call 66; with_reducible refine (CMR.out _).mono ?_); rintro e w' ⟨rfl, rfl⟩) | ((go_at_call 71; with_reducible refine (CDI.out _).mono ?_); rintro e w' ⟨rfl, rfl⟩))
      go_cut [7] from 32 to 44 (fun b wx => b = .bool (rd && (s0 && i0)) ∧ W0 = wx)
      case first =>
        cases rd
        · exact qMe0
        · skip
          cases s0
          all_goals
           exact qMe0
      case rest =>
        obtain ⟨rfl, rfl⟩ := hcut
        generalize (rd && (s0 && i0)) = one at *
        generalize (rd && (rs && i0)) = rg at *
        generalize (wd || wh) = bt at *
        cases wd
        · skip
          have HOK : Hid (okI ⟨20, d, s, z, i⟩ = false) := by show _ = _; have h := HK.out; (try simp only [Bool.true_and, Bool.false_and, Bool.and_true, Bool.and_false] at h); exact h
          exact qMe2
        · skip
          have HOK : Hid (okI ⟨20, d, s, z, i⟩ = rg) := by show _ = _; have h := HK.out; (try simp only [Bool.true_and, Bool.false_and, Bool.and_true, Bool.and_false] at h); exact h
          go_wp2_with (first | ((go_at_call 64; first | (with_reducible refine (CisRd.out _).mono ?_) | (with_reducible refine (CisRs.out _).mono ?_)); rintro e w' ⟨rfl, rfl⟩) | ((go_at_call 66; with_reducible refine (CMR.out _).mono ?_); rintro e w' ⟨rfl, rfl⟩) | ((go_at_call 71; with_reducible refine (CDI.out _).mono ?_); rintro e w' ⟨rfl, rfl⟩))
          all_goals go_ret2
          all_goals exact MRet.mk HOK.out.symm (fun h => RowI.to (RowI.lit W0 #[_, _, _] [_, _, _] .u8 5 w.heap.size 3 HB.out.size rfl rfl (by unfold maxLen; simp)) (by first | rfl | (have hb1 := ok_fit h; simp [fitI, fitJ, isR, isM, isL, isC, isB, isW4, inZ] at hb1; simp [bodyI, IntKind.wrap_u8, IntKind.wrap_i64, ariI, i64_and255] <;> omega))) (bel_lit HB.out)
set_option maxRecDepth 100000 in
set_option maxHeartbeats 4000000 in
theorem ref_21 (d s z i : Int) (w : World) (hi : I64 i) : Calls Try.prog 49 #[.agg #[.int .i64 21, .int .i64 d, .int .i64 s, .int .i64 z, .int .i64 i]] w (MRet ⟨21, d, s, z, i⟩ w) := by
  obtain ⟨W0, hW0⟩ : ∃ W, w.alloc (.cells #[.int .i64 21, .int .i64 d, .int .i64 s, .int .i64 z, .int .i64 i] 25) = W := ⟨_, rfl⟩
  have HB : Hid (Below w.heap.size w W0) := by rw [← hW0]; exact (Below.refl _ _).alloc (Nat.le_refl _) _
  have hlt0 : w.heap.size < W0.heap.size := by rw [← hW0]; simp
  obtain ⟨q0, q1, q2, q3, q4⟩ := ins_box 21 d s z i w W0 hW0
  have h00 := Since.refl W0
  have q0a := q0 _ h00
  have q1a := q1 _ h00
  have q2a := q2 _ h00
  have q3a := q3 _ h00
  have q4a := q4 _ h00
  have HK : Hid (okI ⟨21, d, s, z, i⟩ = (((z == 32 || z == 16)) && ((isR d && (s == 0 && i == 0))))) := by show _ = _; rw [Bool.eq_iff_iff]; simp [okI, szI, fitI, fitJ, isM, isR, isL, isC, isB, isW4] <;> omega
  have CisRd := Lib.hid (fun w => isReg_ref d w)
  have CisRs := Lib.hid (fun w => isReg_ref s w)
  have CMR := Lib.hid (fun w => rmr_any 4 d w)
  have CDI : Hid (∀ w, Calls Try.prog 71 #[.int .i64 21] w fun e w' => e = .returned (.int .i64 (4)) ∧ w = w') := fun w => digit_any 21 w (by decide)
  obtain ⟨wd, hwd⟩ : ∃ b, (z == 32) = b := ⟨_, rfl⟩
  obtain ⟨wh, hwh⟩ : ∃ b, (z == 16) = b := ⟨_, rfl⟩
  try rw [hwd] at HK
  try rw [hwh] at HK
  obtain ⟨rd, hrd⟩ : ∃ b, isR d = b := ⟨_, rfl⟩
  rw [hrd] at CisRd
  obtain ⟨rs, hrs⟩ : ∃ b, isR s = b := ⟨_, rfl⟩
  rw [hrs] at CisRs
  try rw [hrd] at HK
  try rw [hrs] at HK
  have HRD := Lib.hid hrd
  have HRS := Lib.hid hrs
  clear hrd hrs
  obtain ⟨s0, hs0⟩ : ∃ b, (s == 0) = b := ⟨_, rfl⟩
  try rw [hs0] at HK
  obtain ⟨i0, hi0⟩ : ∃ b, (i == 0) = b := ⟨_, rfl⟩
  try rw [hi0] at HK
  go_enter Try.func49, Try.ntmps49
  go_upto_region 2 with (first | ((go_at_call 64; first | (with_reducible refine (CisRd.out _).mono ?_) | (with_reducible refine (CisRs.out _).mono ?_)); rintro e w' ⟨rfl, rfl⟩) | ((go_at_call 66; with_reducible refine (CMR.out _).mono ?_); rintro e w' ⟨rfl, rfl⟩) | ((go_at_call 71; with_reducible refine (CDI.out _).mono ?_); rintro e w' ⟨rfl, rfl⟩))
  go_cut [5] from 13 to 18 (fun b wx => b = .bool (wd || wh) ∧ W0 = wx)
  case first =>
    cases wd
    all_goals
     exact qMe0
  case rest =>
    obtain ⟨rfl, rfl⟩ := hcut
    go_upto_region 3 with (first | ((go_at_call 64; first | (with_reducible refine (CisRd.out _).mono ?_) | (with_reducible refine (CisRs.out _).mono ?_)); rintro e w' ⟨rfl, rfl⟩) | ((go_at_call 66; with_reducible refine (CMR.out _).mono ?_); rintro e w' ⟨rfl, rfl⟩) | ((go_at_call 71; with_reducible refine (CDI.out _).mono ?_); rintro e w' ⟨rfl, rfl⟩))
    go_cut [6] from 19 to 31 (fun b wx => b = .bool (rd && (rs && i0)) ∧ W0 = wx)
    case first =>
      cases rd
      · exact qMe0
      · skip
        cases rs
        all_goals
         exact qMe0
    case rest =>
      obtain ⟨rfl, rfl⟩ := hcut
      go_upto_region 4 with (first | ((go_at_call 64; first | (with_reducible refine (CisRd.out _).mono ?_) | (with_reducible refine (CisRs.out _).mono ?_)); rintro e w' ⟨rfl, rfl⟩) | ((go_at_call 66; with_reducible refine (CMR.out _).mono ?_); rintro e w' ⟨rfl, rfl⟩) | ((go_at_call 71; with_reducible refine (CDI.out _).mono ?_); rintro e w' ⟨rfl, rfl⟩))
      go_cut [7] from 32 to 44 (fun b wx => b = .bool (rd && (s0 && i0)) ∧ W0 = wx)
      case first =>
        cases rd
        · exact qMe0
        · skip
          cases s0
          all_goals
           exact qMe0
      case rest =>
        obtain ⟨rfl, rfl⟩ := hcut
        generalize (rd && (s0 && i0)) = one at *
        generalize (rd && (rs && i0)) = rg at *
        generalize (wd || wh) = bt at *
        cases bt
        · skip
          have HOK : Hid (okI ⟨21, d, s, z, i⟩ = false) := by show _ = _; have h := HK.out; (try simp only [Bool.true_and, Bool.false_and, Bool.and_true, Bool.and_false] at h); exact h
          exact qMe2
        · skip
          have HOK : Hid (okI ⟨21, d, s, z, i⟩ = one) := by show _ = _; have h := HK.out; (try simp only [Bool.true_and, Bool.false_and, Bool.and_true, Bool.and_false] at h); exact h
          exact qMe1
set_option maxRecDepth 100000 in
set_option maxHeartbeats 4000000 in
theorem ref_22 (d s z i : Int) (w : World) (hi : I64 i) : Calls Try.prog 49 #[.agg #[.int .i64 22, .int .i64 d, .int .i64 s, .int .i64 z, .int .i64 i]] w (MRet ⟨22, d, s, z, i⟩ w) := by
  obtain ⟨W0, hW0⟩ : ∃ W, w.alloc (.cells #[.int .i64 22, .int .i64 d, .int .i64 s, .int .i64 z, .int .i64 i] 25) = W := ⟨_, rfl⟩
  have HB : Hid (Below w.heap.size w W0) := by rw [← hW0]; exact (Below.refl _ _).alloc (Nat.le_refl _) _
  have hlt0 : w.heap.size < W0.heap.size := by rw [← hW0]; simp
  obtain ⟨q0, q1, q2, q3, q4⟩ := ins_box 22 d s z i w W0 hW0
  have h00 := Since.refl W0
  have q0a := q0 _ h00
  have q1a := q1 _ h00
  have q2a := q2 _ h00
  have q3a := q3 _ h00
  have q4a := q4 _ h00
  have HK : Hid (okI ⟨22, d, s, z, i⟩ = (((z == 32 || z == 16)) && ((isR d && (s == 0 && i == 0))))) := by show _ = _; rw [Bool.eq_iff_iff]; simp [okI, szI, fitI, fitJ, isM, isR, isL, isC, isB, isW4] <;> omega
  have CisRd := Lib.hid (fun w => isReg_ref d w)
  have CisRs := Lib.hid (fun w => isReg_ref s w)
  have CMR := Lib.hid (fun w => rmr_any 5 d w)
  have CDI : Hid (∀ w, Calls Try.prog 71 #[.int .i64 22] w fun e w' => e = .returned (.int .i64 (5)) ∧ w = w') := fun w => digit_any 22 w (by decide)
  obtain ⟨wd, hwd⟩ : ∃ b, (z == 32) = b := ⟨_, rfl⟩
  obtain ⟨wh, hwh⟩ : ∃ b, (z == 16) = b := ⟨_, rfl⟩
  try rw [hwd] at HK
  try rw [hwh] at HK
  obtain ⟨rd, hrd⟩ : ∃ b, isR d = b := ⟨_, rfl⟩
  rw [hrd] at CisRd
  obtain ⟨rs, hrs⟩ : ∃ b, isR s = b := ⟨_, rfl⟩
  rw [hrs] at CisRs
  try rw [hrd] at HK
  try rw [hrs] at HK
  have HRD := Lib.hid hrd
  have HRS := Lib.hid hrs
  clear hrd hrs
  obtain ⟨s0, hs0⟩ : ∃ b, (s == 0) = b := ⟨_, rfl⟩
  try rw [hs0] at HK
  obtain ⟨i0, hi0⟩ : ∃ b, (i == 0) = b := ⟨_, rfl⟩
  try rw [hi0] at HK
  go_enter Try.func49, Try.ntmps49
  go_upto_region 2 with (first | ((go_at_call 64; first | (with_reducible refine (CisRd.out _).mono ?_) | (with_reducible refine (CisRs.out _).mono ?_)); rintro e w' ⟨rfl, rfl⟩) | ((go_at_call 66; with_reducible refine (CMR.out _).mono ?_); rintro e w' ⟨rfl, rfl⟩) | ((go_at_call 71; with_reducible refine (CDI.out _).mono ?_); rintro e w' ⟨rfl, rfl⟩))
  go_cut [5] from 13 to 18 (fun b wx => b = .bool (wd || wh) ∧ W0 = wx)
  case first =>
    cases wd
    all_goals
     exact qMe0
  case rest =>
    obtain ⟨rfl, rfl⟩ := hcut
    go_upto_region 3 with (first | ((go_at_call 64; first | (with_reducible refine (CisRd.out _).mono ?_) | (with_reducible refine (CisRs.out _).mono ?_)); rintro e w' ⟨rfl, rfl⟩) | ((go_at_call 66; with_reducible refine (CMR.out _).mono ?_); rintro e w' ⟨rfl, rfl⟩) | ((go_at_call 71; with_reducible refine (CDI.out _).mono ?_); rintro e w' ⟨rfl, rfl⟩))
    go_cut [6] from 19 to 31 (fun b wx => b = .bool (rd && (rs && i0)) ∧ W0 = wx)
    case first =>
      cases rd
      · exact qMe0
      · skip
        cases rs
        all_goals
         exact qMe0
    case rest =>
      obtain ⟨rfl, rfl⟩ := hcut
      go_upto_region 4 with (first | ((go_at_call 64; first | (with_reducible refine (CisRd.out _).mono ?_) | (with_reducible refine (CisRs.out _).mono ?_)); rintro e w' ⟨rfl, rfl⟩) | ((go_at_call 66; with_reducible refine (CMR.out _).mono ?_); rintro e w' ⟨rfl, rfl⟩) | ((go_at_call 71; with_reducible refine (CDI.out _).mono ?_); rintro e w' ⟨rfl, rfl⟩))
      go_cut [7] from 32 to 44 (fun b wx => b = .bool (rd && (s0 && i0)) ∧ W0 = wx)
      case first =>
        cases rd
        · exact qMe0
        · skip
          cases s0
          all_goals
           exact qMe0
      case rest =>
        obtain ⟨rfl, rfl⟩ := hcut
        generalize (rd && (s0 && i0)) = one at *
        generalize (rd && (rs && i0)) = rg at *
        generalize (wd || wh) = bt at *
        cases bt
        · skip
          have HOK : Hid (okI ⟨22, d, s, z, i⟩ = false) := by show _ = _; have h := HK.out; (try simp only [Bool.true_and, Bool.false_and, Bool.and_true, Bool.and_false] at h); exact h
          exact qMe2
        · skip
          have HOK : Hid (okI ⟨22, d, s, z, i⟩ = one) := by show _ = _; have h := HK.out; (try simp only [Bool.true_and, Bool.false_and, Bool.and_true, Bool.and_false] at h); exact h
          exact qMe1
set_option maxRecDepth 100000 in
set_option maxHeartbeats 4000000 in
theorem ref_23 (d s z i : Int) (w : World) (hi : I64 i) : Calls Try.prog 49 #[.agg #[.int .i64 23, .int .i64 d, .int .i64 s, .int .i64 z, .int .i64 i]] w (MRet ⟨23, d, s, z, i⟩ w) := by
  obtain ⟨W0, hW0⟩ : ∃ W, w.alloc (.cells #[.int .i64 23, .int .i64 d, .int .i64 s, .int .i64 z, .int .i64 i] 25) = W := ⟨_, rfl⟩
  have HB : Hid (Below w.heap.size w W0) := by rw [← hW0]; exact (Below.refl _ _).alloc (Nat.le_refl _) _
  have hlt0 : w.heap.size < W0.heap.size := by rw [← hW0]; simp
  obtain ⟨q0, q1, q2, q3, q4⟩ := ins_box 23 d s z i w W0 hW0
  have h00 := Since.refl W0
  have q0a := q0 _ h00
  have q1a := q1 _ h00
  have q2a := q2 _ h00
  have q3a := q3 _ h00
  have q4a := q4 _ h00
  have HK : Hid (okI ⟨23, d, s, z, i⟩ = (((z == 32 || z == 16)) && ((isR d && (s == 0 && i == 0))))) := by show _ = _; rw [Bool.eq_iff_iff]; simp [okI, szI, fitI, fitJ, isM, isR, isL, isC, isB, isW4] <;> omega
  have CisRd := Lib.hid (fun w => isReg_ref d w)
  have CisRs := Lib.hid (fun w => isReg_ref s w)
  have CMR := Lib.hid (fun w => rmr_any 7 d w)
  have CDI : Hid (∀ w, Calls Try.prog 71 #[.int .i64 23] w fun e w' => e = .returned (.int .i64 (7)) ∧ w = w') := fun w => digit_any 23 w (by decide)
  obtain ⟨wd, hwd⟩ : ∃ b, (z == 32) = b := ⟨_, rfl⟩
  obtain ⟨wh, hwh⟩ : ∃ b, (z == 16) = b := ⟨_, rfl⟩
  try rw [hwd] at HK
  try rw [hwh] at HK
  obtain ⟨rd, hrd⟩ : ∃ b, isR d = b := ⟨_, rfl⟩
  rw [hrd] at CisRd
  obtain ⟨rs, hrs⟩ : ∃ b, isR s = b := ⟨_, rfl⟩
  rw [hrs] at CisRs
  try rw [hrd] at HK
  try rw [hrs] at HK
  have HRD := Lib.hid hrd
  have HRS := Lib.hid hrs
  clear hrd hrs
  obtain ⟨s0, hs0⟩ : ∃ b, (s == 0) = b := ⟨_, rfl⟩
  try rw [hs0] at HK
  obtain ⟨i0, hi0⟩ : ∃ b, (i == 0) = b := ⟨_, rfl⟩
  try rw [hi0] at HK
  go_enter Try.func49, Try.ntmps49
  go_upto_region 2 with (first | ((go_at_call 64; first | (with_reducible refine (CisRd.out _).mono ?_) | (with_reducible refine (CisRs.out _).mono ?_)); rintro e w' ⟨rfl, rfl⟩) | ((go_at_call 66; with_reducible refine (CMR.out _).mono ?_); rintro e w' ⟨rfl, rfl⟩) | ((go_at_call 71; with_reducible refine (CDI.out _).mono ?_); rintro e w' ⟨rfl, rfl⟩))
  go_cut [5] from 13 to 18 (fun b wx => b = .bool (wd || wh) ∧ W0 = wx)
  case first =>
    cases wd
    all_goals
     exact qMe0
  case rest =>
    obtain ⟨rfl, rfl⟩ := hcut
    go_upto_region 3 with (first | ((go_at_call 64; first | (with_reducible refine (CisRd.out _).mono ?_) | (with_reducible refine (CisRs.out _).mono ?_)); rintro e w' ⟨rfl, rfl⟩) | ((go_at_call 66; with_reducible refine (CMR.out _).mono ?_); rintro e w' ⟨rfl, rfl⟩) | ((go_at_call 71; with_reducible refine (CDI.out _).mono ?_); rintro e w' ⟨rfl, rfl⟩))
    go_cut [6] from 19 to 31 (fun b wx => b = .bool (rd && (rs && i0)) ∧ W0 = wx)
    case first =>
      cases rd
      · exact qMe0
      · skip
        cases rs
        all_goals
         exact qMe0
    case rest =>
      obtain ⟨rfl, rfl⟩ := hcut
      go_upto_region 4 with (first | ((go_at_call 64; first | (with_reducible refine (CisRd.out _).mono ?_) | (with_reducible refine (CisRs.out _).mono ?_)); rintro e w' ⟨rfl, rfl⟩) | ((go_at_call 66; with_reducible refine (CMR.out _).mono ?_); rintro e w' ⟨rfl, rfl⟩) | ((go_at_call 71; with_reducible refine (CDI.out _).mono ?_); rintro e w' ⟨rfl, rfl⟩))
      go_cut [7] from 32 to 44 (fun b wx => b = .bool (rd && (s0 && i0)) ∧ W0 = wx)
      case first =>
        cases rd
        · exact qMe0
        · skip
          cases s0
          all_goals
           exact qMe0
      case rest =>
        obtain ⟨rfl, rfl⟩ := hcut
        generalize (rd && (s0 && i0)) = one at *
        generalize (rd && (rs && i0)) = rg at *
        generalize (wd || wh) = bt at *
        cases bt
        · skip
          have HOK : Hid (okI ⟨23, d, s, z, i⟩ = false) := by show _ = _; have h := HK.out; (try simp only [Bool.true_and, Bool.false_and, Bool.and_true, Bool.and_false] at h); exact h
          exact qMe2
        · skip
          have HOK : Hid (okI ⟨23, d, s, z, i⟩ = one) := by show _ = _; have h := HK.out; (try simp only [Bool.true_and, Bool.false_and, Bool.and_true, Bool.and_false] at h); exact h
          exact qMe1
set_option maxRecDepth 100000 in
set_option maxHeartbeats 4000000 in
theorem ref_24 (d s z i : Int) (w : World) (hi : I64 i) : Calls Try.prog 49 #[.agg #[.int .i64 24, .int .i64 d, .int .i64 s, .int .i64 z, .int .i64 i]] w (MRet ⟨24, d, s, z, i⟩ w) := by
  obtain ⟨W0, hW0⟩ : ∃ W, w.alloc (.cells #[.int .i64 24, .int .i64 d, .int .i64 s, .int .i64 z, .int .i64 i] 25) = W := ⟨_, rfl⟩
  have HB : Hid (Below w.heap.size w W0) := by rw [← hW0]; exact (Below.refl _ _).alloc (Nat.le_refl _) _
  have hlt0 : w.heap.size < W0.heap.size := by rw [← hW0]; simp
  obtain ⟨q0, q1, q2, q3, q4⟩ := ins_box 24 d s z i w W0 hW0
  have h00 := Since.refl W0
  have q0a := q0 _ h00
  have q1a := q1 _ h00
  have q2a := q2 _ h00
  have q3a := q3 _ h00
  have q4a := q4 _ h00
  have HK : Hid (okI ⟨24, d, s, z, i⟩ = (((z == 32 || z == 16)) && ((isR d && (s == 0 && i == 0))))) := by show _ = _; rw [Bool.eq_iff_iff]; simp [okI, szI, fitI, fitJ, isM, isR, isL, isC, isB, isW4] <;> omega
  have CisRd := Lib.hid (fun w => isReg_ref d w)
  have CisRs := Lib.hid (fun w => isReg_ref s w)
  have CMR := Lib.hid (fun w => rmr_any 2 d w)
  have CDI : Hid (∀ w, Calls Try.prog 71 #[.int .i64 24] w fun e w' => e = .returned (.int .i64 (2)) ∧ w = w') := fun w => digit_any 24 w (by decide)
  obtain ⟨wd, hwd⟩ : ∃ b, (z == 32) = b := ⟨_, rfl⟩
  obtain ⟨wh, hwh⟩ : ∃ b, (z == 16) = b := ⟨_, rfl⟩
  try rw [hwd] at HK
  try rw [hwh] at HK
  obtain ⟨rd, hrd⟩ : ∃ b, isR d = b := ⟨_, rfl⟩
  rw [hrd] at CisRd
  obtain ⟨rs, hrs⟩ : ∃ b, isR s = b := ⟨_, rfl⟩
  rw [hrs] at CisRs
  try rw [hrd] at HK
  try rw [hrs] at HK
  have HRD := Lib.hid hrd
  have HRS := Lib.hid hrs
  clear hrd hrs
  obtain ⟨s0, hs0⟩ : ∃ b, (s == 0) = b := ⟨_, rfl⟩
  try rw [hs0] at HK
  obtain ⟨i0, hi0⟩ : ∃ b, (i == 0) = b := ⟨_, rfl⟩
  try rw [hi0] at HK
  go_enter Try.func49, Try.ntmps49
  go_upto_region 2 with (first | ((go_at_call 64; first | (with_reducible refine (CisRd.out _).mono ?_) | (with_reducible refine (CisRs.out _).mono ?_)); rintro e w' ⟨rfl, rfl⟩) | ((go_at_call 66; with_reducible refine (CMR.out _).mono ?_); rintro e w' ⟨rfl, rfl⟩) | ((go_at_call 71; with_reducible refine (CDI.out _).mono ?_); rintro e w' ⟨rfl, rfl⟩))
  go_cut [5] from 13 to 18 (fun b wx => b = .bool (wd || wh) ∧ W0 = wx)
  case first =>
    cases wd
    all_goals
     exact qMe0
  case rest =>
    obtain ⟨rfl, rfl⟩ := hcut
    go_upto_region 3 with (first | ((go_at_call 64; first | (with_reducible refine (CisRd.out _).mono ?_) | (with_reducible refine (CisRs.out _).mono ?_)); rintro e w' ⟨rfl, rfl⟩) | ((go_at_call 66; with_reducible refine (CMR.out _).mono ?_); rintro e w' ⟨rfl, rfl⟩) | ((go_at_call 71; with_reducible refine (CDI.out _).mono ?_); rintro e w' ⟨rfl, rfl⟩))
    go_cut [6] from 19 to 31 (fun b wx => b = .bool (rd && (rs && i0)) ∧ W0 = wx)
    case first =>
      cases rd
      · exact qMe0
      · skip
        cases rs
        all_goals
         exact qMe0
    case rest =>
      obtain ⟨rfl, rfl⟩ := hcut
      go_upto_region 4 with (first | ((go_at_call 64; first | (with_reducible refine (CisRd.out _).mono ?_) | (with_reducible refine (CisRs.out _).mono ?_)); rintro e w' ⟨rfl, rfl⟩) | ((go_at_call 66; with_reducible refine (CMR.out _).mono ?_); rintro e w' ⟨rfl, rfl⟩) | ((go_at_call 71; with_reducible refine (CDI.out _).mono ?_); rintro e w' ⟨rfl, rfl⟩))
      go_cut [7] from 32 to 44 (fun b wx => b = .bool (rd && (s0 && i0)) ∧ W0 = wx)
      case first =>
        cases rd
        · exact qMe0
        · skip
          cases s0
          all_goals
           exact qMe0
      case rest =>
        obtain ⟨rfl, rfl⟩ := hcut
        generalize (rd && (s0 && i0)) = one at *
        generalize (rd && (rs && i0)) = rg at *
        generalize (wd || wh) = bt at *
        cases bt
        · skip
          have HOK : Hid (okI ⟨24, d, s, z, i⟩ = false) := by show _ = _; have h := HK.out; (try simp only [Bool.true_and, Bool.false_and, Bool.and_true, Bool.and_false] at h); exact h
          exact qMe2
        · skip
          have HOK : Hid (okI ⟨24, d, s, z, i⟩ = one) := by show _ = _; have h := HK.out; (try simp only [Bool.true_and, Bool.false_and, Bool.and_true, Bool.and_false] at h); exact h
          exact qMe1
set_option maxRecDepth 100000 in
set_option maxHeartbeats 4000000 in
theorem ref_25 (d s z i : Int) (w : World) (hi : I64 i) : Calls Try.prog 49 #[.agg #[.int .i64 25, .int .i64 d, .int .i64 s, .int .i64 z, .int .i64 i]] w (MRet ⟨25, d, s, z, i⟩ w) := by
  obtain ⟨W0, hW0⟩ : ∃ W, w.alloc (.cells #[.int .i64 25, .int .i64 d, .int .i64 s, .int .i64 z, .int .i64 i] 25) = W := ⟨_, rfl⟩
  have HB : Hid (Below w.heap.size w W0) := by rw [← hW0]; exact (Below.refl _ _).alloc (Nat.le_refl _) _
  have hlt0 : w.heap.size < W0.heap.size := by rw [← hW0]; simp
  obtain ⟨q0, q1, q2, q3, q4⟩ := ins_box 25 d s z i w W0 hW0
  have h00 := Since.refl W0
  have q0a := q0 _ h00
  have q1a := q1 _ h00
  have q2a := q2 _ h00
  have q3a := q3 _ h00
  have q4a := q4 _ h00
  have HK : Hid (okI ⟨25, d, s, z, i⟩ = (((z == 32 || z == 16)) && ((isR d && (s == 0 && i == 0))))) := by show _ = _; rw [Bool.eq_iff_iff]; simp [okI, szI, fitI, fitJ, isM, isR, isL, isC, isB, isW4] <;> omega
  have CisRd := Lib.hid (fun w => isReg_ref d w)
  have CisRs := Lib.hid (fun w => isReg_ref s w)
  have CMR := Lib.hid (fun w => rmr_any 3 d w)
  have CDI : Hid (∀ w, Calls Try.prog 71 #[.int .i64 25] w fun e w' => e = .returned (.int .i64 (3)) ∧ w = w') := fun w => digit_any 25 w (by decide)
  obtain ⟨wd, hwd⟩ : ∃ b, (z == 32) = b := ⟨_, rfl⟩
  obtain ⟨wh, hwh⟩ : ∃ b, (z == 16) = b := ⟨_, rfl⟩
  try rw [hwd] at HK
  try rw [hwh] at HK
  obtain ⟨rd, hrd⟩ : ∃ b, isR d = b := ⟨_, rfl⟩
  rw [hrd] at CisRd
  obtain ⟨rs, hrs⟩ : ∃ b, isR s = b := ⟨_, rfl⟩
  rw [hrs] at CisRs
  try rw [hrd] at HK
  try rw [hrs] at HK
  have HRD := Lib.hid hrd
  have HRS := Lib.hid hrs
  clear hrd hrs
  obtain ⟨s0, hs0⟩ : ∃ b, (s == 0) = b := ⟨_, rfl⟩
  try rw [hs0] at HK
  obtain ⟨i0, hi0⟩ : ∃ b, (i == 0) = b := ⟨_, rfl⟩
  try rw [hi0] at HK
  go_enter Try.func49, Try.ntmps49
  go_upto_region 2 with (first | ((go_at_call 64; first | (with_reducible refine (CisRd.out _).mono ?_) | (with_reducible refine (CisRs.out _).mono ?_)); rintro e w' ⟨rfl, rfl⟩) | ((go_at_call 66; with_reducible refine (CMR.out _).mono ?_); rintro e w' ⟨rfl, rfl⟩) | ((go_at_call 71; with_reducible refine (CDI.out _).mono ?_); rintro e w' ⟨rfl, rfl⟩))
  go_cut [5] from 13 to 18 (fun b wx => b = .bool (wd || wh) ∧ W0 = wx)
  case first =>
    cases wd
    all_goals
     exact qMe0
  case rest =>
    obtain ⟨rfl, rfl⟩ := hcut
    go_upto_region 3 with (first | ((go_at_call 64; first | (with_reducible refine (CisRd.out _).mono ?_) | (with_reducible refine (CisRs.out _).mono ?_)); rintro e w' ⟨rfl, rfl⟩) | ((go_at_call 66; with_reducible refine (CMR.out _).mono ?_); rintro e w' ⟨rfl, rfl⟩) | ((go_at_call 71; with_reducible refine (CDI.out _).mono ?_); rintro e w' ⟨rfl, rfl⟩))
    go_cut [6] from 19 to 31 (fun b wx => b = .bool (rd && (rs && i0)) ∧ W0 = wx)
    case first =>
      cases rd
      · exact qMe0
      · skip
        cases rs
        all_goals
         exact qMe0
    case rest =>
      obtain ⟨rfl, rfl⟩ := hcut
      go_upto_region 4 with (first | ((go_at_call 64; first | (with_reducible refine (CisRd.out _).mono ?_) | (with_reducible refine (CisRs.out _).mono ?_)); rintro e w' ⟨rfl, rfl⟩) | ((go_at_call 66; with_reducible refine (CMR.out _).mono ?_); rintro e w' ⟨rfl, rfl⟩) | ((go_at_call 71; with_reducible refine (CDI.out _).mono ?_); rintro e w' ⟨rfl, rfl⟩))
      go_cut [7] from 32 to 44 (fun b wx => b = .bool (rd && (s0 && i0)) ∧ W0 = wx)
      case first =>
        cases rd
        · exact qMe0
        · skip
          cases s0
          all_goals
           exact qMe0
      case rest =>
        obtain ⟨rfl, rfl⟩ := hcut
        generalize (rd && (s0 && i0)) = one at *
        generalize (rd && (rs && i0)) = rg at *
        generalize (wd || wh) = bt at *
        cases bt
        · skip
          have HOK : Hid (okI ⟨25, d, s, z, i⟩ = false) := by show _ = _; have h := HK.out; (try simp only [Bool.true_and, Bool.false_and, Bool.and_true, Bool.and_false] at h); exact h
          exact qMe2
        · skip
          have HOK : Hid (okI ⟨25, d, s, z, i⟩ = one) := by show _ = _; have h := HK.out; (try simp only [Bool.true_and, Bool.false_and, Bool.and_true, Bool.and_false] at h); exact h
          exact qMe1
set_option maxRecDepth 100000 in
set_option maxHeartbeats 4000000 in
theorem ref_26 (d s z i : Int) (w : World) (hi : I64 i) : Calls Try.prog 49 #[.agg #[.int .i64 26, .int .i64 d, .int .i64 s, .int .i64 z, .int .i64 i]] w (MRet ⟨26, d, s, z, i⟩ w) := by
  obtain ⟨W0, hW0⟩ : ∃ W, w.alloc (.cells #[.int .i64 26, .int .i64 d, .int .i64 s, .int .i64 z, .int .i64 i] 25) = W := ⟨_, rfl⟩
  have HB : Hid (Below w.heap.size w W0) := by rw [← hW0]; exact (Below.refl _ _).alloc (Nat.le_refl _) _
  have hlt0 : w.heap.size < W0.heap.size := by rw [← hW0]; simp
  obtain ⟨q0, q1, q2, q3, q4⟩ := ins_box 26 d s z i w W0 hW0
  have h00 := Since.refl W0
  have q0a := q0 _ h00
  have q1a := q1 _ h00
  have q2a := q2 _ h00
  have q3a := q3 _ h00
  have q4a := q4 _ h00
  have HK : Hid (okI ⟨26, d, s, z, i⟩ = (((z == 32)) && ((isR d && (s == 0 && i == 0))))) := by show _ = _; rw [Bool.eq_iff_iff]; simp [okI, szI, fitI, fitJ, isM, isR, isL, isC, isB, isW4] <;> omega
  have CisRd := Lib.hid (fun w => isReg_ref d w)
  have CisRs := Lib.hid (fun w => isReg_ref s w)
  have CMR := Lib.hid (fun w => rmr_any 6 d w)
  have CDI : Hid (∀ w, Calls Try.prog 71 #[.int .i64 26] w fun e w' => e = .returned (.int .i64 (6)) ∧ w = w') := fun w => digit_any 26 w (by decide)
  obtain ⟨wd, hwd⟩ : ∃ b, (z == 32) = b := ⟨_, rfl⟩
  obtain ⟨wh, hwh⟩ : ∃ b, (z == 16) = b := ⟨_, rfl⟩
  try rw [hwd] at HK
  try rw [hwh] at HK
  obtain ⟨rd, hrd⟩ : ∃ b, isR d = b := ⟨_, rfl⟩
  rw [hrd] at CisRd
  obtain ⟨rs, hrs⟩ : ∃ b, isR s = b := ⟨_, rfl⟩
  rw [hrs] at CisRs
  try rw [hrd] at HK
  try rw [hrs] at HK
  have HRD := Lib.hid hrd
  have HRS := Lib.hid hrs
  clear hrd hrs
  obtain ⟨s0, hs0⟩ : ∃ b, (s == 0) = b := ⟨_, rfl⟩
  try rw [hs0] at HK
  obtain ⟨i0, hi0⟩ : ∃ b, (i == 0) = b := ⟨_, rfl⟩
  try rw [hi0] at HK
  go_enter Try.func49, Try.ntmps49
  go_upto_region 2 with (first | ((go_at_call 64; first | (with_reducible refine (CisRd.out _).mono ?_) | (with_reducible refine (CisRs.out _).mono ?_)); rintro e w' ⟨rfl, rfl⟩) | ((go_at_call 66; with_reducible refine (CMR.out _).mono ?_); rintro e w' ⟨rfl, rfl⟩) | ((go_at_call 71; with_reducible refine (CDI.out _).mono ?_); rintro e w' ⟨rfl, rfl⟩))
  go_cut [5] from 13 to 18 (fun b wx => b = .bool (wd || wh) ∧ W0 = wx)
  case first =>
    cases wd
    all_goals
     exact qMe0
  case rest =>
    obtain ⟨rfl, rfl⟩ := hcut
    go_upto_region 3 with (first | ((go_at_call 64; first | (with_reducible refine (CisRd.out _).mono ?_) | (with_reducible refine (CisRs.out _).mono ?_)); rintro e w' ⟨rfl, rfl⟩) | ((go_at_call 66; with_reducible refine (CMR.out _).mono ?_); rintro e w' ⟨rfl, rfl⟩) | ((go_at_call 71; with_reducible refine (CDI.out _).mono ?_); rintro e w' ⟨rfl, rfl⟩))
    go_cut [6] from 19 to 31 (fun b wx => b = .bool (rd && (rs && i0)) ∧ W0 = wx)
    case first =>
      cases rd
      · exact qMe0
      · skip
        cases rs
        all_goals
         exact qMe0
    case rest =>
      obtain ⟨rfl, rfl⟩ := hcut
      go_upto_region 4 with (first | ((go_at_call 64; first | (with_reducible refine (CisRd.out _).mono ?_) | (with_reducible refine (CisRs.out _).mono ?_)); rintro e w' ⟨rfl, rfl⟩) | ((go_at_call 66; with_reducible refine (CMR.out _).mono ?_); rintro e w' ⟨rfl, rfl⟩) | ((go_at_call 71; with_reducible refine (CDI.out _).mono ?_); rintro e w' ⟨rfl, rfl⟩))
      go_cut [7] from 32 to 44 (fun b wx => b = .bool (rd && (s0 && i0)) ∧ W0 = wx)
      case first =>
        cases rd
        · exact qMe0
        · skip
          cases s0
          all_goals
           exact qMe0
      case rest =>
        obtain ⟨rfl, rfl⟩ := hcut
        generalize (rd && (s0 && i0)) = one at *
        generalize (rd && (rs && i0)) = rg at *
        generalize (wd || wh) = bt at *
        cases wd
        · skip
          have HOK : Hid (okI ⟨26, d, s, z, i⟩ = false) := by show _ = _; have h := HK.out; (try simp only [Bool.true_and, Bool.false_and, Bool.and_true, Bool.and_false] at h); exact h
          exact qMe2
        · skip
          have HOK : Hid (okI ⟨26, d, s, z, i⟩ = one) := by show _ = _; have h := HK.out; (try simp only [Bool.true_and, Bool.false_and, Bool.and_true, Bool.and_false] at h); exact h
          exact qMe1
set_option maxRecDepth 100000 in
set_option maxHeartbeats 4000000 in
theorem ref_27 (d s z i : Int) (w : World) (hi : I64 i) : Calls Try.prog 49 #[.agg #[.int .i64 27, .int .i64 d, .int .i64 s, .int .i64 z, .int .i64 i]] w (MRet ⟨27, d, s, z, i⟩ w) := by
  obtain ⟨W0, hW0⟩ : ∃ W, w.alloc (.cells #[.int .i64 27, .int .i64 d, .int .i64 s, .int .i64 z, .int .i64 i] 25) = W := ⟨_, rfl⟩
  have HB : Hid (Below w.heap.size w W0) := by rw [← hW0]; exact (Below.refl _ _).alloc (Nat.le_refl _) _
  have hlt0 : w.heap.size < W0.heap.size := by rw [← hW0]; simp
  obtain ⟨q0, q1, q2, q3, q4⟩ := ins_box 27 d s z i w W0 hW0
  have h00 := Since.refl W0
  have q0a := q0 _ h00
  have q1a := q1 _ h00
  have q2a := q2 _ h00
  have q3a := q3 _ h00
  have q4a := q4 _ h00
  have HK : Hid (okI ⟨27, d, s, z, i⟩ = (((z == 32)) && ((isR d && (s == 0 && i == 0))))) := by show _ = _; rw [Bool.eq_iff_iff]; simp [okI, szI, fitI, fitJ, isM, isR, isL, isC, isB, isW4] <;> omega
  have CisRd := Lib.hid (fun w => isReg_ref d w)
  have CisRs := Lib.hid (fun w => isReg_ref s w)
  have CMR := Lib.hid (fun w => rmr_any 7 d w)
  have CDI : Hid (∀ w, Calls Try.prog 71 #[.int .i64 27] w fun e w' => e = .returned (.int .i64 (7)) ∧ w = w') := fun w => digit_any 27 w (by decide)
  obtain ⟨wd, hwd⟩ : ∃ b, (z == 32) = b := ⟨_, rfl⟩
  obtain ⟨wh, hwh⟩ : ∃ b, (z == 16) = b := ⟨_, rfl⟩
  try rw [hwd] at HK
  try rw [hwh] at HK
  obtain ⟨rd, hrd⟩ : ∃ b, isR d = b := ⟨_, rfl⟩
  rw [hrd] at CisRd
  obtain ⟨rs, hrs⟩ : ∃ b, isR s = b := ⟨_, rfl⟩
  rw [hrs] at CisRs
  try rw [hrd] at HK
  try rw [hrs] at HK
  have HRD := Lib.hid hrd
  have HRS := Lib.hid hrs
  clear hrd hrs
  obtain ⟨s0, hs0⟩ : ∃ b, (s == 0) = b := ⟨_, rfl⟩
  try rw [hs0] at HK
  obtain ⟨i0, hi0⟩ : ∃ b, (i == 0) = b := ⟨_, rfl⟩
  try rw [hi0] at HK
  go_enter Try.func49, Try.ntmps49
  go_upto_region 2 with (first | ((go_at_call 64; first | (with_reducible refine (CisRd.out _).mono ?_) | (with_reducible refine (CisRs.out _).mono ?_)); rintro e w' ⟨rfl, rfl⟩) | ((go_at_call 66; with_reducible refine (CMR.out _).mono ?_); rintro e w' ⟨rfl, rfl⟩) | ((go_at_call 71; with_reducible refine (CDI.out _).mono ?_); rintro e w' ⟨rfl, rfl⟩))
  go_cut [5] from 13 to 18 (fun b wx => b = .bool (wd || wh) ∧ W0 = wx)
  case first =>
    cases wd
    all_goals
     exact qMe0
  case rest =>
    obtain ⟨rfl, rfl⟩ := hcut
    go_upto_region 3 with (first | ((go_at_call 64; first | (with_reducible refine (CisRd.out _).mono ?_) | (with_reducible refine (CisRs.out _).mono ?_)); rintro e w' ⟨rfl, rfl⟩) | ((go_at_call 66; with_reducible refine (CMR.out _).mono ?_); rintro e w' ⟨rfl, rfl⟩) | ((go_at_call 71; with_reducible refine (CDI.out _).mono ?_); rintro e w' ⟨rfl, rfl⟩))
    go_cut [6] from 19 to 31 (fun b wx => b = .bool (rd && (rs && i0)) ∧ W0 = wx)
    case first =>
      cases rd
      · exact qMe0
      · skip
        cases rs
        all_goals
         exact qMe0
    case rest =>
      obtain ⟨rfl, rfl⟩ := hcut
      go_upto_region 4 with (first | ((go_at_call 64; first | (with_reducible refine (CisRd.out _).mono ?_) | (with_reducible refine (CisRs.out _).mono ?_)); rintro e w' ⟨rfl, rfl⟩) | ((go_at_call 66; with_reducible refine (CMR.out _).mono ?_); rintro e w' ⟨rfl, rfl⟩) | ((go_at_call 71; with_reducible refine (CDI.out _).mono ?_); rintro e w' ⟨rfl, rfl⟩))
      go_cut [7] from 32 to 44 (fun b wx => b = .bool (rd && (s0 && i0)) ∧ W0 = wx)
      case first =>
        cases rd
        · exact qMe0
        · skip
          cases s0
          all_goals
           exact qMe0
      case rest =>
        obtain ⟨rfl, rfl⟩ := hcut
        generalize (rd && (s0 && i0)) = one at *
        generalize (rd && (rs && i0)) = rg at *
        generalize (wd || wh) = bt at *
        cases wd
        · skip
          have HOK : Hid (okI ⟨27, d, s, z, i⟩ = false) := by show _ = _; have h := HK.out; (try simp only [Bool.true_and, Bool.false_and, Bool.and_true, Bool.and_false] at h); exact h
          exact qMe2
        · skip
          have HOK : Hid (okI ⟨27, d, s, z, i⟩ = one) := by show _ = _; have h := HK.out; (try simp only [Bool.true_and, Bool.false_and, Bool.and_true, Bool.and_false] at h); exact h
          exact qMe1
end Go.Proofs.Ytdojafpjipcbjaa
