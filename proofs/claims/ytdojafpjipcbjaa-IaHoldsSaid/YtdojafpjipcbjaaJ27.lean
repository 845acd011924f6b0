/- Walks of the reference's encode, Encode, Validate, operation by operation and size by size. -/
import Derived.Deep.CutRange
import Derived.Test.YtdojafpjipcbjaaJ12
namespace Go.Proofs.Ytdojafpjipcbjaa
open Go.RowKit
set_option linter.unusedVariables false
set_option linter.unusedSimpArgs false
theorem digit_out (o : Int) (w : World) (ho : o < 0 ∨ 36 < o) : Calls Try.prog 71 #[.int .i64 o] w fun e w' => e = .returned (.int .i64 (digI o)) ∧ w = w' := by
  have z14 : (o == 14) = false := by simp; omega
  have z15 : (o == 15) = false := by simp; omega
  have z16 : (o == 16) = false := by simp; omega
  have z21 : (o == 21) = false := by simp; omega
  have z17 : (o == 17) = false := by simp; omega
  have z22 : (o == 22) = false := by simp; omega
  have z18 : (o == 18) = false := by simp; omega
  have z26 : (o == 26) = false := by simp; omega
  have z19 : (o == 19) = false := by simp; omega
  have z23 : (o == 23) = false := by simp; omega
  have z27 : (o == 27) = false := by simp; omega
  have z24 : (o == 24) = false := by simp; omega
  have z25 : (o == 25) = false := by simp; omega
  have e : digI o = -1 := by unfold digI; repeat (first | rw [if_neg (by omega)])
  rw [e]
  clear ho e
  go_enter Try.func71, Try.ntmps71
  go_wp2
  go_ret
  exact ⟨rfl, rfl⟩
theorem digit_all (o : Int) (w : World) : Calls Try.prog 71 #[.int .i64 o] w fun e w' => e = .returned (.int .i64 (digI o)) ∧ w = w' := by
  by_cases h : 0 ≤ o ∧ o ≤ 36
  · exact digit_any o w h
  · exact digit_out o w (by omega)
set_option maxRecDepth 100000 in
set_option maxHeartbeats 4000000 in
theorem moves_no (o d s z i : Int) (w : World) (ho : o < 0 ∨ 6 < o) : Calls Try.prog 48 #[.agg #[.int .i64 o, .int .i64 d, .int .i64 s, .int .i64 z, .int .i64 i]] w fun e w' => e = .returned (.tuple #[.slice none 0 0, .bool false]) ∧ Below w.heap.size w w' := by
  obtain ⟨W0, hW0⟩ : ∃ W, w.alloc (.cells #[.int .i64 o, .int .i64 d, .int .i64 s, .int .i64 z, .int .i64 i] 25) = W := ⟨_, rfl⟩
  have HB : Hid (Below w.heap.size w W0) := by rw [← hW0]; exact (Below.refl _ _).alloc (Nat.le_refl _) _
  obtain ⟨q0, q1, q2, q3, q4⟩ := ins_box o d s z i w W0 hW0
  have h00 := Since.refl W0
  have q0a := q0 _ h00
  have q1a := q1 _ h00
  have q2a := q2 _ h00
  have q3a := q3 _ h00
  have q4a := q4 _ h00
  have CisRd := Lib.hid (fun w => isReg_ref d w)
  have CisRs := Lib.hid (fun w => isReg_ref s w)
  have CW4 := Lib.hid (fun w => between_32 i w)
  obtain ⟨wd, hwd⟩ : ∃ b, (z == 32) = b := ⟨_, rfl⟩
  obtain ⟨wh, hwh⟩ : ∃ b, (z == 16) = b := ⟨_, rfl⟩
  obtain ⟨rd, hrd⟩ : ∃ b, isR d = b := ⟨_, rfl⟩
  rw [hrd] at CisRd
  obtain ⟨rs, hrs⟩ : ∃ b, isR s = b := ⟨_, rfl⟩
  rw [hrs] at CisRs
  clear hrd hrs
  obtain ⟨d0, hd0⟩ : ∃ b, (d == 0) = b := ⟨_, rfl⟩
  obtain ⟨s0, hs0⟩ : ∃ b, (s == 0) = b := ⟨_, rfl⟩
  obtain ⟨e0, he0⟩ : ∃ b, (i == 0) = b := ⟨_, rfl⟩
  have z0 : (o == 0) = false := by simp; omega
  have z1 : (o == 1) = false := by simp; omega
  have z2 : (o == 2) = false := by simp; omega
  have z3 : (o == 3) = false := by simp; omega
  have z4 : (o == 4) = false := by simp; omega
  have z5 : (o == 5) = false := by simp; omega
  have z6 : (o == 6) = false := by simp; omega
  clear ho
  go_enter Try.func48, Try.ntmps48
  go_upto_region 2 with (first | ((go_at_call 64; first | (with_reducible refine (CisRd.out _).mono ?_) | (with_reducible refine (CisRs.out _).mono ?_)); rintro e w' ⟨rfl, rfl⟩) | ((go_at_call 65; with_reducible refine (CW4.out _).mono ?_); rintro e w' ⟨rfl, rfl⟩))
  go_cut [5] from 11 to 16 (fun b wx => b = .bool (wd || wh) ∧ W0 = wx)
  case first =>
    cases wd
    · go_wp2_with (first | ((go_at_call 64; first | (with_reducible refine (CisRd.out _).mono ?_) | (with_reducible refine (CisRs.out _).mono ?_)); rintro e w' ⟨rfl, rfl⟩) | ((go_at_call 65; with_reducible refine (CW4.out _).mono ?_); rintro e w' ⟨rfl, rfl⟩))
      go_meet
      case rel => exact ⟨by simp [*], rfl⟩
    · go_wp2_with (first | ((go_at_call 64; first | (with_reducible refine (CisRd.out _).mono ?_) | (with_reducible refine (CisRs.out _).mono ?_)); rintro e w' ⟨rfl, rfl⟩) | ((go_at_call 65; with_reducible refine (CW4.out _).mono ?_); rintro e w' ⟨rfl, rfl⟩))
      go_meet
      case rel => exact ⟨by simp [*], rfl⟩
  case rest =>
    obtain ⟨rfl, rfl⟩ := hcut
    go_upto_region 3 with (first | ((go_at_call 64; first | (with_reducible refine (CisRd.out _).mono ?_) | (with_reducible refine (CisRs.out _).mono ?_)); rintro e w' ⟨rfl, rfl⟩) | ((go_at_call 65; with_reducible refine (CW4.out _).mono ?_); rintro e w' ⟨rfl, rfl⟩))
    go_cut [6] from 17 to 24 (fun b wx => b = .bool (rd && rs) ∧ W0 = wx)
    case first =>
      cases rd
      · go_wp2_with (first | ((go_at_call 64; first | (with_reducible refine (CisRd.out _).mono ?_) | (with_reducible refine (CisRs.out _).mono ?_)); rintro e w' ⟨rfl, rfl⟩) | ((go_at_call 65; with_reducible refine (CW4.out _).mono ?_); rintro e w' ⟨rfl, rfl⟩))
        go_meet
        case rel => exact ⟨by simp [*], rfl⟩
      · go_wp2_with (first | ((go_at_call 64; first | (with_reducible refine (CisRd.out _).mono ?_) | (with_reducible refine (CisRs.out _).mono ?_)); rintro e w' ⟨rfl, rfl⟩) | ((go_at_call 65; with_reducible refine (CW4.out _).mono ?_); rintro e w' ⟨rfl, rfl⟩))
        go_meet
        case rel => exact ⟨by simp [*], rfl⟩
    case rest =>
      obtain ⟨rfl, rfl⟩ := hcut
      go_wp2_with (first | ((go_at_call 64; first | (with_reducible refine (CisRd.out _).mono ?_) | (with_reducible refine (CisRs.out _).mono ?_)); rintro e w' ⟨rfl, rfl⟩) | ((go_at_call 65; with_reducible refine (CW4.out _).mono ?_); rintro e w' ⟨rfl, rfl⟩))
      go_ret2
      exact ⟨rfl, HB.out⟩
set_option maxRecDepth 100000 in
set_option maxHeartbeats 4000000 in
theorem counts_no (o d s z i : Int) (w : World) (ho : o < 7 ∨ 27 < o) : Calls Try.prog 49 #[.agg #[.int .i64 o, .int .i64 d, .int .i64 s, .int .i64 z, .int .i64 i]] w fun e w' => e = .returned (.tuple #[.slice none 0 0, .bool false]) ∧ Below w.heap.size w w' := by
  obtain ⟨W0, hW0⟩ : ∃ W, w.alloc (.cells #[.int .i64 o, .int .i64 d, .int .i64 s, .int .i64 z, .int .i64 i] 25) = W := ⟨_, rfl⟩
  have HB : Hid (Below w.heap.size w W0) := by rw [← hW0]; exact (Below.refl _ _).alloc (Nat.le_refl _) _
  obtain ⟨q0, q1, q2, q3, q4⟩ := ins_box o d s z i w W0 hW0
  have h00 := Since.refl W0
  have q0a := q0 _ h00
  have q1a := q1 _ h00
  have q2a := q2 _ h00
  have q3a := q3 _ h00
  have q4a := q4 _ h00
  have CisRd := Lib.hid (fun w => isReg_ref d w)
  have CisRs := Lib.hid (fun w => isReg_ref s w)
  have CW4 := Lib.hid (fun w => between_32 i w)
  obtain ⟨wd, hwd⟩ : ∃ b, (z == 32) = b := ⟨_, rfl⟩
  obtain ⟨wh, hwh⟩ : ∃ b, (z == 16) = b := ⟨_, rfl⟩
  obtain ⟨rd, hrd⟩ : ∃ b, isR d = b := ⟨_, rfl⟩
  rw [hrd] at CisRd
  obtain ⟨rs, hrs⟩ : ∃ b, isR s = b := ⟨_, rfl⟩
  rw [hrs] at CisRs
  clear hrd hrs
  obtain ⟨d0, hd0⟩ : ∃ b, (d == 0) = b := ⟨_, rfl⟩
  obtain ⟨s0, hs0⟩ : ∃ b, (s == 0) = b := ⟨_, rfl⟩
  obtain ⟨e0, he0⟩ : ∃ b, (i == 0) = b := ⟨_, rfl⟩
  have z7 : (o == 7) = false := by simp; omega
  have z8 : (o == 8) = false := by simp; omega
  have z9 : (o == 9) = false := by simp; omega
  have z10 : (o == 10) = false := by simp; omega
  have z11 : (o == 11) = false := by simp; omega
  have z12 : (o == 12) = false := by simp; omega
  have z13 : (o == 13) = false := by simp; omega
  have z14 : (o == 14) = false := by simp; omega
  have z15 : (o == 15) = false := by simp; omega
  have z16 : (o == 16) = false := by simp; omega
  have z17 : (o == 17) = false := by simp; omega
  have z18 : (o == 18) = false := by simp; omega
  have z19 : (o == 19) = false := by simp; omega
  have z20 : (o == 20) = false := by simp; omega
  have z21 : (o == 21) = false := by simp; omega
  have z22 : (o == 22) = false := by simp; omega
  have z23 : (o == 23) = false := by simp; omega
  have z24 : (o == 24) = false := by simp; omega
  have z25 : (o == 25) = false := by simp; omega
  have z26 : (o == 26) = false := by simp; omega
  have z27 : (o == 27) = false := by simp; omega
  have CDI := Lib.hid (fun w => digit_all o w)
  clear ho
  go_enter Try.func49, Try.ntmps49
  go_upto_region 2 with (first | ((go_at_call 64; first | (with_reducible refine (CisRd.out _).mono ?_) | (with_reducible refine (CisRs.out _).mono ?_)); rintro e w' ⟨rfl, rfl⟩) | ((go_at_call 65; with_reducible refine (CW4.out _).mono ?_); rintro e w' ⟨rfl, rfl⟩) | ((go_at_call 71; with_reducible refine (CDI.out _).mono ?_); rintro e w' ⟨rfl, rfl⟩))
  go_cut [5] from 13 to 18 (fun b wx => b = .bool (wd || wh) ∧ W0 = wx)
  case first =>
    cases wd
    · go_wp2_with (first | ((go_at_call 64; first | (with_reducible refine (CisRd.out _).mono ?_) | (with_reducible refine (CisRs.out _).mono ?_)); rintro e w' ⟨rfl, rfl⟩) | ((go_at_call 65; with_reducible refine (CW4.out _).mono ?_); rintro e w' ⟨rfl, rfl⟩) | ((go_at_call 71; with_reducible refine (CDI.out _).mono ?_); rintro e w' ⟨rfl, rfl⟩))
      go_meet
      case rel => exact ⟨by simp [*], rfl⟩
    · go_wp2_with (first | ((go_at_call 64; first | (with_reducible refine (CisRd.out _).mono ?_) | (with_reducible refine (CisRs.out _).mono ?_)); rintro e w' ⟨rfl, rfl⟩) | ((go_at_call 65; with_reducible refine (CW4.out _).mono ?_); rintro e w' ⟨rfl, rfl⟩) | ((go_at_call 71; with_reducible refine (CDI.out _).mono ?_); rintro e w' ⟨rfl, rfl⟩))
      go_meet
      case rel => exact ⟨by simp [*], rfl⟩
  case rest =>
    obtain ⟨rfl, rfl⟩ := hcut
    go_upto_region 3 with (first | ((go_at_call 64; first | (with_reducible refine (CisRd.out _).mono ?_) | (with_reducible refine (CisRs.out _).mono ?_)); rintro e w' ⟨rfl, rfl⟩) | ((go_at_call 65; with_reducible refine (CW4.out _).mono ?_); rintro e w' ⟨rfl, rfl⟩) | ((go_at_call 71; with_reducible refine (CDI.out _).mono ?_); rintro e w' ⟨rfl, rfl⟩))
    go_cut [6] from 19 to 31 (fun b wx => b = .bool (rd && (rs && e0)) ∧ W0 = wx)
    case first =>
      cases rd
      · go_wp2_with (first | ((go_at_call 64; first | (with_reducible refine (CisRd.out _).mono ?_) | (with_reducible refine (CisRs.out _).mono ?_)); rintro e w' ⟨rfl, rfl⟩) | ((go_at_call 65; with_reducible refine (CW4.out _).mono ?_); rintro e w' ⟨rfl, rfl⟩) | ((go_at_call 71; with_reducible refine (CDI.out _).mono ?_); rintro e w' ⟨rfl, rfl⟩))
        go_meet
        case rel => exact ⟨by simp [*], rfl⟩
      · cases rs
        · go_wp2_with (first | ((go_at_call 64; first | (with_reducible refine (CisRd.out _).mono ?_) | (with_reducible refine (CisRs.out _).mono ?_)); rintro e w' ⟨rfl, rfl⟩) | ((go_at_call 65; with_reducible refine (CW4.out _).mono ?_); rintro e w' ⟨rfl, rfl⟩) | ((go_at_call 71; with_reducible refine (CDI.out _).mono ?_); rintro e w' ⟨rfl, rfl⟩))
          go_meet
          case rel => exact ⟨by simp [*], rfl⟩
        · go_wp2_with (first | ((go_at_call 64; first | (with_reducible refine (CisRd.out _).mono ?_) | (with_reducible refine (CisRs.out _).mono ?_)); rintro e w' ⟨rfl, rfl⟩) | ((go_at_call 65; with_reducible refine (CW4.out _).mono ?_); rintro e w' ⟨rfl, rfl⟩) | ((go_at_call 71; with_reducible refine (CDI.out _).mono ?_); rintro e w' ⟨rfl, rfl⟩))
          go_meet
          case rel => exact ⟨by simp [*], rfl⟩
    case rest =>
      obtain ⟨rfl, rfl⟩ := hcut
      go_upto_region 4 with (first | ((go_at_call 64; first | (with_reducible refine (CisRd.out _).mono ?_) | (with_reducible refine (CisRs.out _).mono ?_)); rintro e w' ⟨rfl, rfl⟩) | ((go_at_call 65; with_reducible refine (CW4.out _).mono ?_); rintro e w' ⟨rfl, rfl⟩) | ((go_at_call 71; with_reducible refine (CDI.out _).mono ?_); rintro e w' ⟨rfl, rfl⟩))
      go_cut [7] from 32 to 44 (fun b wx => b = .bool (rd && (s0 && e0)) ∧ W0 = wx)
      case first =>
        cases rd
        · go_wp2_with (first | ((go_at_call 64; first | (with_reducible refine (CisRd.out _).mono ?_) | (with_reducible refine (CisRs.out _).mono ?_)); rintro e w' ⟨rfl, rfl⟩) | ((go_at_call 65; with_reducible refine (CW4.out _).mono ?_); rintro e w' ⟨rfl, rfl⟩) | ((go_at_call 71; with_reducible refine (CDI.out _).mono ?_); rintro e w' ⟨rfl, rfl⟩))
          go_meet
          case rel => exact ⟨by simp [*], rfl⟩
        · cases s0
          · go_wp2_with (first | ((go_at_call 64; first | (with_reducible refine (CisRd.out _).mono ?_) | (with_reducible refine (CisRs.out _).mono ?_)); rintro e w' ⟨rfl, rfl⟩) | ((go_at_call 65; with_reducible refine (CW4.out _).mono ?_); rintro e w' ⟨rfl, rfl⟩) | ((go_at_call 71; with_reducible refine (CDI.out _).mono ?_); rintro e w' ⟨rfl, rfl⟩))
            go_meet
            case rel => exact ⟨by simp [*], rfl⟩
          · go_wp2_with (first | ((go_at_call 64; first | (with_reducible refine (CisRd.out _).mono ?_) | (with_reducible refine (CisRs.out _).mono ?_)); rintro e w' ⟨rfl, rfl⟩) | ((go_at_call 65; with_reducible refine (CW4.out _).mono ?_); rintro e w' ⟨rfl, rfl⟩) | ((go_at_call 71; with_reducible refine (CDI.out _).mono ?_); rintro e w' ⟨rfl, rfl⟩))
            go_meet
            case rel => exact ⟨by simp [*], rfl⟩
      case rest =>
        obtain ⟨rfl, rfl⟩ := hcut
        go_wp2_with (first | ((go_at_call 64; first | (with_reducible refine (CisRd.out _).mono ?_) | (with_reducible refine (CisRs.out _).mono ?_)); rintro e w' ⟨rfl, rfl⟩) | ((go_at_call 65; with_reducible refine (CW4.out _).mono ?_); rintro e w' ⟨rfl, rfl⟩) | ((go_at_call 71; with_reducible refine (CDI.out _).mono ?_); rintro e w' ⟨rfl, rfl⟩))
        go_ret2
        exact ⟨rfl, HB.out⟩
set_option maxRecDepth 100000 in
set_option maxHeartbeats 4000000 in
theorem others_no (o d s z i : Int) (w : World) (ho : o < 28 ∨ 36 < o) : Calls Try.prog 50 #[.agg #[.int .i64 o, .int .i64 d, .int .i64 s, .int .i64 z, .int .i64 i]] w fun e w' => e = .returned (.tuple #[.slice none 0 0, .bool false]) ∧ Below w.heap.size w w' := by
  obtain ⟨W0, hW0⟩ : ∃ W, w.alloc (.cells #[.int .i64 o, .int .i64 d, .int .i64 s, .int .i64 z, .int .i64 i] 25) = W := ⟨_, rfl⟩
  have HB : Hid (Below w.heap.size w W0) := by rw [← hW0]; exact (Below.refl _ _).alloc (Nat.le_refl _) _
  obtain ⟨q0, q1, q2, q3, q4⟩ := ins_box o d s z i w W0 hW0
  have h00 := Since.refl W0
  have q0a := q0 _ h00
  have q1a := q1 _ h00
  have q2a := q2 _ h00
  have q3a := q3 _ h00
  have q4a := q4 _ h00
  have CisRd := Lib.hid (fun w => isReg_ref d w)
  have CisRs := Lib.hid (fun w => isReg_ref s w)
  have CW4 := Lib.hid (fun w => between_32 i w)
  obtain ⟨wd, hwd⟩ : ∃ b, (z == 32) = b := ⟨_, rfl⟩
  obtain ⟨wh, hwh⟩ : ∃ b, (z == 16) = b := ⟨_, rfl⟩
  obtain ⟨rd, hrd⟩ : ∃ b, isR d = b := ⟨_, rfl⟩
  rw [hrd] at CisRd
  obtain ⟨rs, hrs⟩ : ∃ b, isR s = b := ⟨_, rfl⟩
  rw [hrs] at CisRs
  clear hrd hrs
  obtain ⟨d0, hd0⟩ : ∃ b, (d == 0) = b := ⟨_, rfl⟩
  obtain ⟨s0, hs0⟩ : ∃ b, (s == 0) = b := ⟨_, rfl⟩
  obtain ⟨e0, he0⟩ : ∃ b, (i == 0) = b := ⟨_, rfl⟩
  have z28 : (o == 28) = false := by simp; omega
  have z29 : (o == 29) = false := by simp; omega
  have z30 : (o == 30) = false := by simp; omega
  have z31 : (o == 31) = false := by simp; omega
  have z32 : (o == 32) = false := by simp; omega
  have z33 : (o == 33) = false := by simp; omega
  have z34 : (o == 34) = false := by simp; omega
  have z35 : (o == 35) = false := by simp; omega
  have z36 : (o == 36) = false := by simp; omega
  clear ho
  go_enter Try.func50, Try.ntmps50
  go_upto_region 2 with (first | ((go_at_call 64; first | (with_reducible refine (CisRd.out _).mono ?_) | (with_reducible refine (CisRs.out _).mono ?_)); rintro e w' ⟨rfl, rfl⟩) | ((go_at_call 65; with_reducible refine (CW4.out _).mono ?_); rintro e w' ⟨rfl, rfl⟩))
  go_cut [5] from 9 to 24 (fun b wx => b = .bool (d0 && (s0 && (e0 && wd))) ∧ W0 = wx)
  case first =>
    cases d0
    · go_wp2_with (first | ((go_at_call 64; first | (with_reducible refine (CisRd.out _).mono ?_) | (with_reducible refine (CisRs.out _).mono ?_)); rintro e w' ⟨rfl, rfl⟩) | ((go_at_call 65; with_reducible refine (CW4.out _).mono ?_); rintro e w' ⟨rfl, rfl⟩))
      go_meet
      case rel => exact ⟨by simp [*], rfl⟩
    · cases s0
      · go_wp2_with (first | ((go_at_call 64; first | (with_reducible refine (CisRd.out _).mono ?_) | (with_reducible refine (CisRs.out _).mono ?_)); rintro e w' ⟨rfl, rfl⟩) | ((go_at_call 65; with_reducible refine (CW4.out _).mono ?_); rintro e w' ⟨rfl, rfl⟩))
        go_meet
        case rel => exact ⟨by simp [*], rfl⟩
      · cases e0
        · go_wp2_with (first | ((go_at_call 64; first | (with_reducible refine (CisRd.out _).mono ?_) | (with_reducible refine (CisRs.out _).mono ?_)); rintro e w' ⟨rfl, rfl⟩) | ((go_at_call 65; with_reducible refine (CW4.out _).mono ?_); rintro e w' ⟨rfl, rfl⟩))
          go_meet
          case rel => exact ⟨by simp [*], rfl⟩
        · go_wp2_with (first | ((go_at_call 64; first | (with_reducible refine (CisRd.out _).mono ?_) | (with_reducible refine (CisRs.out _).mono ?_)); rintro e w' ⟨rfl, rfl⟩) | ((go_at_call 65; with_reducible refine (CW4.out _).mono ?_); rintro e w' ⟨rfl, rfl⟩))
          go_meet
          case rel => exact ⟨by simp [*], rfl⟩
  case rest =>
    obtain ⟨rfl, rfl⟩ := hcut
    go_wp2_with (first | ((go_at_call 64; first | (with_reducible refine (CisRd.out _).mono ?_) | (with_reducible refine (CisRs.out _).mono ?_)); rintro e w' ⟨rfl, rfl⟩) | ((go_at_call 65; with_reducible refine (CW4.out _).mono ?_); rintro e w' ⟨rfl, rfl⟩))
    go_ret2
    exact ⟨rfl, HB.out⟩
end Go.Proofs.Ytdojafpjipcbjaa
