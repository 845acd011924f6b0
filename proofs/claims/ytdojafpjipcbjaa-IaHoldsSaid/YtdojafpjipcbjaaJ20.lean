/- Walks of the reference's coders, operation by operation and size by size. -/
import Derived.Deep.CutRange
import Derived.Test.YtdojafpjipcbjaaJ12
import Derived.Test.YtdojafpjipcbjaaJ16
namespace Go.Proofs.Ytdojafpjipcbjaa
open Go.RowKit
set_option linter.unusedVariables false
set_option linter.unusedSimpArgs false
theorem qMb6 {p : Prop} (h : p := by
  skip
  go_wp2_with (first | ((go_at_call 70; first | (with_reducible refine (CisLs.out _).mono ?_)); rintro e w' ⟨rfl, rfl⟩) | ((go_at_call 64; first | (with_reducible refine (CisRd.out _).mono ?_) | (with_reducible refine (CisRs.out _).mono ?_)); rintro e w' ⟨rfl, rfl⟩) | ((go_at_call 65; first | (with_reducible refine (CisW4i.out _).mono ?_)); rintro e w' ⟨rfl, rfl⟩))
  go_meet
  case rel => exact ⟨by simp [*], rfl⟩) : p := h
theorem qMb5 {p : Prop} (h : p := by
  skip
  go_wp2_with (first | ((go_at_call 64; first | (with_reducible refine (CisRd.out _).mono ?_) | (with_reducible refine (CisRs.out _).mono ?_)); rintro e w' ⟨rfl, rfl⟩) | ((go_at_call 65; first | (with_reducible refine (CisW4i.out _).mono ?_)); rintro e w' ⟨rfl, rfl⟩))
  go_meet
  case rel => exact ⟨by simp [*], rfl⟩) : p := h
theorem qMb4 {p : Prop} (h : p := by
  have HOK : Hid (okI ⟨3, d, s, z, i⟩ = false) := by show _ = _; have h := HK.out; (try simp only [Bool.true_and, Bool.false_and, Bool.and_true, Bool.and_false] at h); exact h
  go_wp2_with (first | ((go_at_call 64; first | (with_reducible refine (CisRd.out _).mono ?_) | (with_reducible refine (CisRs.out _).mono ?_)); rintro e w' ⟨rfl, rfl⟩) | ((go_at_call 65; first | (with_reducible refine (CisW4i.out _).mono ?_)); rintro e w' ⟨rfl, rfl⟩) | ((go_at_call 69; with_reducible refine (CY.out _ kp).mono ?_); rintro e w2 ⟨v2, rfl, hr2, hb2, hs2⟩; have HR2 := Lib.hid hr2; clear hr2; have q0b := q0 _ hs2; have q1b := q1 _ hs2; have q2b := q2 _ hs2; have q3b := q3 _ hs2; have q4b := q4 _ hs2; have HBW2 := Lib.hid hb2; have HSI2 := Lib.hid hs2; obtain ⟨a2, n2, rfl⟩ := HR2.out.shape; clear hb2) | (at_builtin; refine wpList_app_u8 rfl _ _ rfl W0.heap.size _ [137] rfl (RowI.below (RowI.lit W0 #[.int .u8 137] [137] .u8 5 W0.heap.size 1 (Nat.le_refl _) rfl rfl (by unfold maxLen; simp)) HBW2.out) _ (mmB s d i) rfl (HR2.out.ints HY5.out) HPOS.out HLEN.out HSI2.out.size ?_; intro v9 w9 hr9 hb9; have HR9 := Lib.hid hr9; have hs9 := since_step HSI2.out hb9; clear hr9; have q0c := q0 _ hs9; have q1c := q1 _ hs9; have q2c := q2 _ hs9; have q3c := q3 _ hs9; have q4c := q4 _ hs9))
  all_goals go_ret2
  all_goals exact MRet.mk HOK.out.symm (fun h => absurd h (by rw [HOK.out]; simp)) (below_hop HB.out (by first | exact hs9 | exact below_drewN hs9 1))) : p := h
theorem qMb3 {p : Prop} (h : p := by
  have HOK : Hid (okI ⟨2, d, s, z, i⟩ = false) := by show _ = _; have h := HK.out; (try simp only [Bool.true_and, Bool.false_and, Bool.and_true, Bool.and_false] at h); exact h
  go_wp2_with (first | ((go_at_call 64; first | (with_reducible refine (CisRd.out _).mono ?_) | (with_reducible refine (CisRs.out _).mono ?_)); rintro e w' ⟨rfl, rfl⟩) | ((go_at_call 65; first | (with_reducible refine (CisW4i.out _).mono ?_)); rintro e w' ⟨rfl, rfl⟩) | ((go_at_call 69; with_reducible refine (CY.out _ kp).mono ?_); rintro e w2 ⟨v2, rfl, hr2, hb2, hs2⟩; have HR2 := Lib.hid hr2; clear hr2; have q0b := q0 _ hs2; have q1b := q1 _ hs2; have q2b := q2 _ hs2; have q3b := q3 _ hs2; have q4b := q4 _ hs2; have HBW2 := Lib.hid hb2; have HSI2 := Lib.hid hs2; obtain ⟨a2, n2, rfl⟩ := HR2.out.shape; clear hb2) | (at_builtin; refine wpList_app_u8 rfl _ _ rfl W0.heap.size _ [139] rfl (RowI.below (RowI.lit W0 #[.int .u8 139] [139] .u8 5 W0.heap.size 1 (Nat.le_refl _) rfl rfl (by unfold maxLen; simp)) HBW2.out) _ (mmB d s i) rfl (HR2.out.ints HY5.out) HPOS.out HLEN.out HSI2.out.size ?_; intro v9 w9 hr9 hb9; have HR9 := Lib.hid hr9; have hs9 := since_step HSI2.out hb9; clear hr9; have q0c := q0 _ hs9; have q1c := q1 _ hs9; have q2c := q2 _ hs9; have q3c := q3 _ hs9; have q4c := q4 _ hs9))
  all_goals go_ret2
  all_goals exact MRet.mk HOK.out.symm (fun h => absurd h (by rw [HOK.out]; simp)) (below_hop HB.out (by first | exact hs9 | exact below_drewN hs9 1))) : p := h
theorem qMb2 {p : Prop} (h : p := by
  have HOK : Hid (okI ⟨5, d, s, z, i⟩ = false) := by show _ = _; have h := HK.out; (try simp only [Bool.true_and, Bool.false_and, Bool.and_true, Bool.and_false] at h); exact h
  go_wp2_with (first | ((go_at_call 64; first | (with_reducible refine (CisRd.out _).mono ?_) | (with_reducible refine (CisRs.out _).mono ?_)); rintro e w' ⟨rfl, rfl⟩) | ((go_at_call 65; first | (with_reducible refine (CisW4i.out _).mono ?_)); rintro e w' ⟨rfl, rfl⟩) | ((go_at_call 69; with_reducible refine (CY.out _ kp).mono ?_); rintro e w2 ⟨v2, rfl, hr2, hb2, hs2⟩; have HR2 := Lib.hid hr2; clear hr2; have q0b := q0 _ hs2; have q1b := q1 _ hs2; have q2b := q2 _ hs2; have q3b := q3 _ hs2; have q4b := q4 _ hs2; have HBW2 := Lib.hid hb2; have HSI2 := Lib.hid hs2; obtain ⟨a2, n2, rfl⟩ := HR2.out.shape; clear hb2) | (at_builtin; refine wpList_app_u8 rfl _ _ rfl W0.heap.size _ [15, 183] rfl (RowI.below (RowI.lit W0 #[.int .u8 15, .int .u8 183] [15, 183] .u8 5 W0.heap.size 2 (Nat.le_refl _) rfl rfl (by unfold maxLen; simp)) HBW2.out) _ (mmB d s i) rfl (HR2.out.ints HY5.out) HPOS.out HLEN.out HSI2.out.size ?_; intro v9 w9 hr9 hb9; have HR9 := Lib.hid hr9; have hs9 := since_step HSI2.out hb9; clear hr9; have q0c := q0 _ hs9; have q1c := q1 _ hs9; have q2c := q2 _ hs9; have q3c := q3 _ hs9; have q4c := q4 _ hs9))
  all_goals go_ret2
  all_goals exact MRet.mk HOK.out.symm (fun h => absurd h (by rw [HOK.out]; simp)) (below_hop HB.out (by first | exact hs9 | exact below_drewN hs9 1))) : p := h
theorem qMb1 {p : Prop} (h : p := by
  have HOK : Hid (okI ⟨4, d, s, z, i⟩ = false) := by show _ = _; have h := HK.out; (try simp only [Bool.true_and, Bool.false_and, Bool.and_true, Bool.and_false] at h); exact h
  go_wp2_with (first | ((go_at_call 64; first | (with_reducible refine (CisRd.out _).mono ?_) | (with_reducible refine (CisRs.out _).mono ?_)); rintro e w' ⟨rfl, rfl⟩) | ((go_at_call 65; first | (with_reducible refine (CisW4i.out _).mono ?_)); rintro e w' ⟨rfl, rfl⟩) | ((go_at_call 69; with_reducible refine (CY.out _ kp).mono ?_); rintro e w2 ⟨v2, rfl, hr2, hb2, hs2⟩; have HR2 := Lib.hid hr2; clear hr2; have q0b := q0 _ hs2; have q1b := q1 _ hs2; have q2b := q2 _ hs2; have q3b := q3 _ hs2; have q4b := q4 _ hs2; have HBW2 := Lib.hid hb2; have HSI2 := Lib.hid hs2; obtain ⟨a2, n2, rfl⟩ := HR2.out.shape; clear hb2) | (at_builtin; refine wpList_app_u8 rfl _ _ rfl W0.heap.size _ [15, 182] rfl (RowI.below (RowI.lit W0 #[.int .u8 15, .int .u8 182] [15, 182] .u8 5 W0.heap.size 2 (Nat.le_refl _) rfl rfl (by unfold maxLen; simp)) HBW2.out) _ (mmB d s i) rfl (HR2.out.ints HY5.out) HPOS.out HLEN.out HSI2.out.size ?_; intro v9 w9 hr9 hb9; have HR9 := Lib.hid hr9; have hs9 := since_step HSI2.out hb9; clear hr9; have q0c := q0 _ hs9; have q1c := q1 _ hs9; have q2c := q2 _ hs9; have q3c := q3 _ hs9; have q4c := q4 _ hs9))
  all_goals go_ret2
  all_goals exact MRet.mk HOK.out.symm (fun h => absurd h (by rw [HOK.out]; simp)) (below_hop HB.out (by first | exact hs9 | exact below_drewN hs9 1))) : p := h
theorem qMb0 {p : Prop} (h : p := by
  have HOK : Hid (okI ⟨6, d, s, z, i⟩ = false) := by show _ = _; have h := HK.out; (try simp only [Bool.true_and, Bool.false_and, Bool.and_true, Bool.and_false] at h); exact h
  go_wp2_with (first | ((go_at_call 70; first | (with_reducible refine (CisLs.out _).mono ?_)); rintro e w' ⟨rfl, rfl⟩) | ((go_at_call 64; first | (with_reducible refine (CisRd.out _).mono ?_) | (with_reducible refine (CisRs.out _).mono ?_)); rintro e w' ⟨rfl, rfl⟩) | ((go_at_call 65; first | (with_reducible refine (CisW4i.out _).mono ?_)); rintro e w' ⟨rfl, rfl⟩) | ((go_at_call 69; with_reducible refine (CY.out _ kp).mono ?_); rintro e w2 ⟨v2, rfl, hr2, hb2, hs2⟩; have HR2 := Lib.hid hr2; clear hr2; have q0b := q0 _ hs2; have q1b := q1 _ hs2; have q2b := q2 _ hs2; have q3b := q3 _ hs2; have q4b := q4 _ hs2; have HBW2 := Lib.hid hb2; have HSI2 := Lib.hid hs2; obtain ⟨a2, n2, rfl⟩ := HR2.out.shape; clear hb2) | (at_builtin; refine wpList_app_u8 rfl _ _ rfl W0.heap.size _ [136] rfl (RowI.below (RowI.lit W0 #[.int .u8 136] [136] .u8 5 W0.heap.size 1 (Nat.le_refl _) rfl rfl (by unfold maxLen; simp)) HBW2.out) _ (mmB s d i) rfl (HR2.out.ints HY5.out) HPOS.out HLEN.out HSI2.out.size ?_; intro v9 w9 hr9 hb9; have HR9 := Lib.hid hr9; have hs9 := since_step HSI2.out hb9; clear hr9; have q0c := q0 _ hs9; have q1c := q1 _ hs9; have q2c := q2 _ hs9; have q3c := q3 _ hs9; have q4c := q4 _ hs9))
  all_goals go_ret2
  all_goals exact MRet.mk HOK.out.symm (fun h => absurd h (by rw [HOK.out]; simp)) (below_hop HB.out (by first | exact hs9 | exact below_drewN hs9 1))) : p := h
set_option maxRecDepth 100000 in
set_option maxHeartbeats 4000000 in
theorem ref_2 (d s z i : Int) (w : World) (hi : I64 i) : Calls Try.prog 48 #[.agg #[.int .i64 2, .int .i64 d, .int .i64 s, .int .i64 z, .int .i64 i]] w (MRet ⟨2, d, s, z, i⟩ w) := by
  obtain ⟨W0, hW0⟩ : ∃ W, w.alloc (.cells #[.int .i64 2, .int .i64 d, .int .i64 s, .int .i64 z, .int .i64 i] 25) = W := ⟨_, rfl⟩
  have HB : Hid (Below w.heap.size w W0) := by rw [← hW0]; exact (Below.refl _ _).alloc (Nat.le_refl _) _
  have hlt0 : w.heap.size < W0.heap.size := by rw [← hW0]; simp
  obtain ⟨q0, q1, q2, q3, q4⟩ := ins_box 2 d s z i w W0 hW0
  have h00 := Since.refl W0
  have q0a := q0 _ h00
  have q1a := q1 _ h00
  have q2a := q2 _ h00
  have q3a := q3 _ h00
  have q4a := q4 _ h00
  have HK : Hid (okI ⟨2, d, s, z, i⟩ = (((z == 32 || z == 16)) && ((isR d && isR s)) && ((s != 4)) && (isW4 i))) := by show _ = _; rw [Bool.eq_iff_iff]; simp [okI, szI, fitI, fitJ, isM, isR, isL, isC, isB, isW4] <;> omega
  have CisRd := Lib.hid (fun w => isReg_ref d w)
  have CisRs := Lib.hid (fun w => isReg_ref s w)
  have CisW4i := Lib.hid (fun w => between_32 i w)
  have CY : Hid (∀ wk, Since W0 wk → Calls Try.prog 69 #[.int .i64 d, .int .i64 s, .int .i64 i] wk fun e w' => ∃ v, e = .returned v ∧ RowI w' W0.heap.size 5 .u8 v (mmB d s i) ∧ Below wk.heap.size wk w' ∧ Since W0 w') := fun wk h => acc_r (rmm_any d s i wk hi) h
  have hml : (mmB d s i).length = 5 := by simp [mmB, leB_length]
  have HLEN : Hid (([(0 : Int)]).length + (mmB d s i).length ≤ 100000) := by show _ ≤ _; rw [hml]; decide
  have HPOS : Hid (0 < (mmB d s i).length) := by show 0 < _; omega
  have HY5 : Hid ((mmB d s i).length ≤ 140737488351232) := by show _ ≤ _; omega
  clear hml
  obtain ⟨wd, hwd⟩ : ∃ b, (z == 32) = b := ⟨_, rfl⟩
  obtain ⟨wh, hwh⟩ : ∃ b, (z == 16) = b := ⟨_, rfl⟩
  try rw [hwd] at HK
  try rw [hwh] at HK
  obtain ⟨rd, hrd⟩ : ∃ b, isR d = b := ⟨_, rfl⟩
  rw [hrd] at CisRd
  obtain ⟨rs, hrs⟩ : ∃ b, isR s = b := ⟨_, rfl⟩
  rw [hrs] at CisRs
  try rw [hrd] at HK
  try rw [hrs] at HK
  have HRD := Lib.hid hrd
  have HRS := Lib.hid hrs
  clear hrd hrs
  go_enter Try.func48, Try.ntmps48
  go_upto_region 2 with (first | ((go_at_call 64; first | (with_reducible refine (CisRd.out _).mono ?_) | (with_reducible refine (CisRs.out _).mono ?_)); rintro e w' ⟨rfl, rfl⟩) | ((go_at_call 65; first | (with_reducible refine (CisW4i.out _).mono ?_)); rintro e w' ⟨rfl, rfl⟩))
  go_cut [5] from 11 to 16 (fun b wx => b = .bool (wd || wh) ∧ W0 = wx)
  case first =>
    cases wd
    all_goals
     exact qMb5
  case rest =>
    obtain ⟨rfl, rfl⟩ := hcut
    go_upto_region 3 with (first | ((go_at_call 64; first | (with_reducible refine (CisRd.out _).mono ?_) | (with_reducible refine (CisRs.out _).mono ?_)); rintro e w' ⟨rfl, rfl⟩) | ((go_at_call 65; first | (with_reducible refine (CisW4i.out _).mono ?_)); rintro e w' ⟨rfl, rfl⟩))
    go_cut [6] from 17 to 24 (fun b wx => b = .bool (rd && rs) ∧ W0 = wx)
    case first =>
      cases rd
      all_goals
       exact qMb5
    case rest =>
      obtain ⟨rfl, rfl⟩ := hcut
      generalize (wd || wh) = bt at *
      generalize (rd && rs) = rg at *
      cases bt
      · skip
        exact qMb3
      · skip
        cases rg
        · skip
          exact qMb3
        · skip
          cases hnes : (s != 4)
          · rw [hnes] at HK
            exact qMb3
          · rw [hnes] at HK
            have HOK : Hid (okI ⟨2, d, s, z, i⟩ = isW4 i) := by show _ = _; have h := HK.out; (try simp only [Bool.true_and, Bool.false_and, Bool.and_true, Bool.and_false] at h); exact h
            go_wp2_with (first | ((go_at_call 64; first | (with_reducible refine (CisRd.out _).mono ?_) | (with_reducible refine (CisRs.out _).mono ?_)); rintro e w' ⟨rfl, rfl⟩) | ((go_at_call 65; first | (with_reducible refine (CisW4i.out _).mono ?_)); rintro e w' ⟨rfl, rfl⟩) | ((go_at_call 69; with_reducible refine (CY.out _ kp).mono ?_); rintro e w2 ⟨v2, rfl, hr2, hb2, hs2⟩; have HR2 := Lib.hid hr2; clear hr2; have q0b := q0 _ hs2; have q1b := q1 _ hs2; have q2b := q2 _ hs2; have q3b := q3 _ hs2; have q4b := q4 _ hs2; have HBW2 := Lib.hid hb2; have HSI2 := Lib.hid hs2; obtain ⟨a2, n2, rfl⟩ := HR2.out.shape; clear hb2) | (at_builtin; refine wpList_app_u8 rfl _ _ rfl W0.heap.size _ [139] rfl (RowI.below (RowI.lit W0 #[.int .u8 139] [139] .u8 5 W0.heap.size 1 (Nat.le_refl _) rfl rfl (by unfold maxLen; simp)) HBW2.out) _ (mmB d s i) rfl (HR2.out.ints HY5.out) HPOS.out HLEN.out HSI2.out.size ?_; intro v9 w9 hr9 hb9; have HR9 := Lib.hid hr9; have hs9 := since_step HSI2.out hb9; clear hr9; have q0c := q0 _ hs9; have q1c := q1 _ hs9; have q2c := q2 _ hs9; have q3c := q3 _ hs9; have q4c := q4 _ hs9))
            all_goals go_ret2
            all_goals exact MRet.mk HOK.out.symm (fun h => RowI.to (RowI.mono HR9.out HB.out.size) (by first | rfl | (have hb1 := ok_fit h; simp [fitI, fitJ, isR, isM, isL, isC, isB, isW4, inZ] at hb1; simp [bodyI, IntKind.wrap_u8, IntKind.wrap_i64] <;> omega))) (below_hop HB.out (by first | exact hs9 | exact below_drewN hs9 1))
set_option maxRecDepth 100000 in
set_option maxHeartbeats 4000000 in
theorem ref_3 (d s z i : Int) (w : World) (hi : I64 i) : Calls Try.prog 48 #[.agg #[.int .i64 3, .int .i64 d, .int .i64 s, .int .i64 z, .int .i64 i]] w (MRet ⟨3, d, s, z, i⟩ w) := by
  obtain ⟨W0, hW0⟩ : ∃ W, w.alloc (.cells #[.int .i64 3, .int .i64 d, .int .i64 s, .int .i64 z, .int .i64 i] 25) = W := ⟨_, rfl⟩
  have HB : Hid (Below w.heap.size w W0) := by rw [← hW0]; exact (Below.refl _ _).alloc (Nat.le_refl _) _
  have hlt0 : w.heap.size < W0.heap.size := by rw [← hW0]; simp
  obtain ⟨q0, q1, q2, q3, q4⟩ := ins_box 3 d s z i w W0 hW0
  have h00 := Since.refl W0
  have q0a := q0 _ h00
  have q1a := q1 _ h00
  have q2a := q2 _ h00
  have q3a := q3 _ h00
  have q4a := q4 _ h00
  have HK : Hid (okI ⟨3, d, s, z, i⟩ = (((z == 32 || z == 16)) && ((isR d && isR s)) && ((d != 4)) && (isW4 i))) := by show _ = _; rw [Bool.eq_iff_iff]; simp [okI, szI, fitI, fitJ, isM, isR, isL, isC, isB, isW4] <;> omega
  have CisRd := Lib.hid (fun w => isReg_ref d w)
  have CisRs := Lib.hid (fun w => isReg_ref s w)
  have CisW4i := Lib.hid (fun w => between_32 i w)
  have CY : Hid (∀ wk, Since W0 wk → Calls Try.prog 69 #[.int .i64 s, .int .i64 d, .int .i64 i] wk fun e w' => ∃ v, e = .returned v ∧ RowI w' W0.heap.size 5 .u8 v (mmB s d i) ∧ Below wk.heap.size wk w' ∧ Since W0 w') := fun wk h => acc_r (rmm_any s d i wk hi) h
  have hml : (mmB s d i).length = 5 := by simp [mmB, leB_length]
  have HLEN : Hid (([(0 : Int)]).length + (mmB s d i).length ≤ 100000) := by show _ ≤ _; rw [hml]; decide
  have HPOS : Hid (0 < (mmB s d i).length) := by show 0 < _; omega
  have HY5 : Hid ((mmB s d i).length ≤ 140737488351232) := by show _ ≤ _; omega
  clear hml
  obtain ⟨wd, hwd⟩ : ∃ b, (z == 32) = b := ⟨_, rfl⟩
  obtain ⟨wh, hwh⟩ : ∃ b, (z == 16) = b := ⟨_, rfl⟩
  try rw [hwd] at HK
  try rw [hwh] at HK
  obtain ⟨rd, hrd⟩ : ∃ b, isR d = b := ⟨_, rfl⟩
  rw [hrd] at CisRd
  obtain ⟨rs, hrs⟩ : ∃ b, isR s = b := ⟨_, rfl⟩
  rw [hrs] at CisRs
  try rw [hrd] at HK
  try rw [hrs] at HK
  have HRD := Lib.hid hrd
  have HRS := Lib.hid hrs
  clear hrd hrs
  go_enter Try.func48, Try.ntmps48
  go_upto_region 2 with (first | ((go_at_call 64; first | (with_reducible refine (CisRd.out _).mono ?_) | (with_reducible refine (CisRs.out _).mono ?_)); rintro e w' ⟨rfl, rfl⟩) | ((go_at_call 65; first | (with_reducible refine (CisW4i.out _).mono ?_)); rintro e w' ⟨rfl, rfl⟩))
  go_cut [5] from 11 to 16 (fun b wx => b = .bool (wd || wh) ∧ W0 = wx)
  case first =>
    cases wd
    all_goals
     exact qMb5
  case rest =>
    obtain ⟨rfl, rfl⟩ := hcut
    go_upto_region 3 with (first | ((go_at_call 64; first | (with_reducible refine (CisRd.out _).mono ?_) | (with_reducible refine (CisRs.out _).mono ?_)); rintro e w' ⟨rfl, rfl⟩) | ((go_at_call 65; first | (with_reducible refine (CisW4i.out _).mono ?_)); rintro e w' ⟨rfl, rfl⟩))
    go_cut [6] from 17 to 24 (fun b wx => b = .bool (rd && rs) ∧ W0 = wx)
    case first =>
      cases rd
      all_goals
       exact qMb5
    case rest =>
      obtain ⟨rfl, rfl⟩ := hcut
      generalize (wd || wh) = bt at *
      generalize (rd && rs) = rg at *
      cases bt
      · skip
        exact qMb4
      · skip
        cases rg
        · skip
          exact qMb4
        · skip
          cases hned : (d != 4)
          · rw [hned] at HK
            exact qMb4
          · rw [hned] at HK
            have HOK : Hid (okI ⟨3, d, s, z, i⟩ = isW4 i) := by show _ = _; have h := HK.out; (try simp only [Bool.true_and, Bool.false_and, Bool.and_true, Bool.and_false] at h); exact h
            go_wp2_with (first | ((go_at_call 64; first | (with_reducible refine (CisRd.out _).mono ?_) | (with_reducible refine (CisRs.out _).mono ?_)); rintro e w' ⟨rfl, rfl⟩) | ((go_at_call 65; first | (with_reducible refine (CisW4i.out _).mono ?_)); rintro e w' ⟨rfl, rfl⟩) | ((go_at_call 69; with_reducible refine (CY.out _ kp).mono ?_); rintro e w2 ⟨v2, rfl, hr2, hb2, hs2⟩; have HR2 := Lib.hid hr2; clear hr2; have q0b := q0 _ hs2; have q1b := q1 _ hs2; have q2b := q2 _ hs2; have q3b := q3 _ hs2; have q4b := q4 _ hs2; have HBW2 := Lib.hid hb2; have HSI2 := Lib.hid hs2; obtain ⟨a2, n2, rfl⟩ := HR2.out.shape; clear hb2) | (at_builtin; refine wpList_app_u8 rfl _ _ rfl W0.heap.size _ [137] rfl (RowI.below (RowI.lit W0 #[.int .u8 137] [137] .u8 5 W0.heap.size 1 (Nat.le_refl _) rfl rfl (by unfold maxLen; simp)) HBW2.out) _ (mmB s d i) rfl (HR2.out.ints HY5.out) HPOS.out HLEN.out HSI2.out.size ?_; intro v9 w9 hr9 hb9; have HR9 := Lib.hid hr9; have hs9 := since_step HSI2.out hb9; clear hr9; have q0c := q0 _ hs9; have q1c := q1 _ hs9; have q2c := q2 _ hs9; have q3c := q3 _ hs9; have q4c := q4 _ hs9))
            all_goals go_ret2
            all_goals exact MRet.mk HOK.out.symm (fun h => RowI.to (RowI.mono HR9.out HB.out.size) (by first | rfl | (have hb1 := ok_fit h; simp [fitI, fitJ, isR, isM, isL, isC, isB, isW4, inZ] at hb1; simp [bodyI, IntKind.wrap_u8, IntKind.wrap_i64] <;> omega))) (below_hop HB.out (by first | exact hs9 | exact below_drewN hs9 1))
set_option maxRecDepth 100000 in
set_option maxHeartbeats 4000000 in
theorem ref_4 (d s z i : Int) (w : World) (hi : I64 i) : Calls Try.prog 48 #[.agg #[.int .i64 4, .int .i64 d, .int .i64 s, .int .i64 z, .int .i64 i]] w (MRet ⟨4, d, s, z, i⟩ w) := by
  obtain ⟨W0, hW0⟩ : ∃ W, w.alloc (.cells #[.int .i64 4, .int .i64 d, .int .i64 s, .int .i64 z, .int .i64 i] 25) = W := ⟨_, rfl⟩
  have HB : Hid (Below w.heap.size w W0) := by rw [← hW0]; exact (Below.refl _ _).alloc (Nat.le_refl _) _
  have hlt0 : w.heap.size < W0.heap.size := by rw [← hW0]; simp
  obtain ⟨q0, q1, q2, q3, q4⟩ := ins_box 4 d s z i w W0 hW0
  have h00 := Since.refl W0
  have q0a := q0 _ h00
  have q1a := q1 _ h00
  have q2a := q2 _ h00
  have q3a := q3 _ h00
  have q4a := q4 _ h00
  have HK : Hid (okI ⟨4, d, s, z, i⟩ = (((z == 32)) && ((isR d && isR s)) && ((s != 4)) && (isW4 i))) := by show _ = _; rw [Bool.eq_iff_iff]; simp [okI, szI, fitI, fitJ, isM, isR, isL, isC, isB, isW4] <;> omega
  have CisRd := Lib.hid (fun w => isReg_ref d w)
  have CisRs := Lib.hid (fun w => isReg_ref s w)
  have CisW4i := Lib.hid (fun w => between_32 i w)
  have CY : Hid (∀ wk, Since W0 wk → Calls Try.prog 69 #[.int .i64 d, .int .i64 s, .int .i64 i] wk fun e w' => ∃ v, e = .returned v ∧ RowI w' W0.heap.size 5 .u8 v (mmB d s i) ∧ Below wk.heap.size wk w' ∧ Since W0 w') := fun wk h => acc_r (rmm_any d s i wk hi) h
  have hml : (mmB d s i).length = 5 := by simp [mmB, leB_length]
  have HLEN : Hid (([(0 : Int), (0 : Int)]).length + (mmB d s i).length ≤ 100000) := by show _ ≤ _; rw [hml]; decide
  have HPOS : Hid (0 < (mmB d s i).length) := by show 0 < _; omega
  have HY5 : Hid ((mmB d s i).length ≤ 140737488351232) := by show _ ≤ _; omega
  clear hml
  obtain ⟨wd, hwd⟩ : ∃ b, (z == 32) = b := ⟨_, rfl⟩
  obtain ⟨wh, hwh⟩ : ∃ b, (z == 16) = b := ⟨_, rfl⟩
  try rw [hwd] at HK
  try rw [hwh] at HK
  obtain ⟨rd, hrd⟩ : ∃ b, isR d = b := ⟨_, rfl⟩
  rw [hrd] at CisRd
  obtain ⟨rs, hrs⟩ : ∃ b, isR s = b := ⟨_, rfl⟩
  rw [hrs] at CisRs
  try rw [hrd] at HK
  try rw [hrs] at HK
  have HRD := Lib.hid hrd
  have HRS := Lib.hid hrs
  clear hrd hrs
  go_enter Try.func48, Try.ntmps48
  go_upto_region 2 with (first | ((go_at_call 64; first | (with_reducible refine (CisRd.out _).mono ?_) | (with_reducible refine (CisRs.out _).mono ?_)); rintro e w' ⟨rfl, rfl⟩) | ((go_at_call 65; first | (with_reducible refine (CisW4i.out _).mono ?_)); rintro e w' ⟨rfl, rfl⟩))
  go_cut [5] from 11 to 16 (fun b wx => b = .bool (wd || wh) ∧ W0 = wx)
  case first =>
    cases wd
    all_goals
     exact qMb5
  case rest =>
    obtain ⟨rfl, rfl⟩ := hcut
    go_upto_region 3 with (first | ((go_at_call 64; first | (with_reducible refine (CisRd.out _).mono ?_) | (with_reducible refine (CisRs.out _).mono ?_)); rintro e w' ⟨rfl, rfl⟩) | ((go_at_call 65; first | (with_reducible refine (CisW4i.out _).mono ?_)); rintro e w' ⟨rfl, rfl⟩))
    go_cut [6] from 17 to 24 (fun b wx => b = .bool (rd && rs) ∧ W0 = wx)
    case first =>
      cases rd
      all_goals
       exact qMb5
    case rest =>
      obtain ⟨rfl, rfl⟩ := hcut
      generalize (wd || wh) = bt at *
      generalize (rd && rs) = rg at *
      cases wd
      · skip
        exact qMb1
      · skip
        cases rg
        · skip
          exact qMb1
        · skip
          cases hnes : (s != 4)
          · rw [hnes] at HK
            exact qMb1
          · rw [hnes] at HK
            have HOK : Hid (okI ⟨4, d, s, z, i⟩ = isW4 i) := by show _ = _; have h := HK.out; (try simp only [Bool.true_and, Bool.false_and, Bool.and_true, Bool.and_false] at h); exact h
            go_wp2_with (first | ((go_at_call 64; first | (with_reducible refine (CisRd.out _).mono ?_) | (with_reducible refine (CisRs.out _).mono ?_)); rintro e w' ⟨rfl, rfl⟩) | ((go_at_call 65; first | (with_reducible refine (CisW4i.out _).mono ?_)); rintro e w' ⟨rfl, rfl⟩) | ((go_at_call 69; with_reducible refine (CY.out _ kp).mono ?_); rintro e w2 ⟨v2, rfl, hr2, hb2, hs2⟩; have HR2 := Lib.hid hr2; clear hr2; have q0b := q0 _ hs2; have q1b := q1 _ hs2; have q2b := q2 _ hs2; have q3b := q3 _ hs2; have q4b := q4 _ hs2; have HBW2 := Lib.hid hb2; have HSI2 := Lib.hid hs2; obtain ⟨a2, n2, rfl⟩ := HR2.out.shape; clear hb2) | (at_builtin; refine wpList_app_u8 rfl _ _ rfl W0.heap.size _ [15, 182] rfl (RowI.below (RowI.lit W0 #[.int .u8 15, .int .u8 182] [15, 182] .u8 5 W0.heap.size 2 (Nat.le_refl _) rfl rfl (by unfold maxLen; simp)) HBW2.out) _ (mmB d s i) rfl (HR2.out.ints HY5.out) HPOS.out HLEN.out HSI2.out.size ?_; intro v9 w9 hr9 hb9; have HR9 := Lib.hid hr9; have hs9 := since_step HSI2.out hb9; clear hr9; have q0c := q0 _ hs9; have q1c := q1 _ hs9; have q2c := q2 _ hs9; have q3c := q3 _ hs9; have q4c := q4 _ hs9))
            all_goals go_ret2
            all_goals exact MRet.mk HOK.out.symm (fun h => RowI.to (RowI.mono HR9.out HB.out.size) (by first | rfl | (have hb1 := ok_fit h; simp [fitI, fitJ, isR, isM, isL, isC, isB, isW4, inZ] at hb1; simp [bodyI, IntKind.wrap_u8, IntKind.wrap_i64] <;> omega))) (below_hop HB.out (by first | exact hs9 | exact below_drewN hs9 1))
set_option maxRecDepth 100000 in
set_option maxHeartbeats 4000000 in
theorem ref_5 (d s z i : Int) (w : World) (hi : I64 i) : Calls Try.prog 48 #[.agg #[.int .i64 5, .int .i64 d, .int .i64 s, .int .i64 z, .int .i64 i]] w (MRet ⟨5, d, s, z, i⟩ w) := by
  obtain ⟨W0, hW0⟩ : ∃ W, w.alloc (.cells #[.int .i64 5, .int .i64 d, .int .i64 s, .int .i64 z, .int .i64 i] 25) = W := ⟨_, rfl⟩
  have HB : Hid (Below w.heap.size w W0) := by rw [← hW0]; exact (Below.refl _ _).alloc (Nat.le_refl _) _
  have hlt0 : w.heap.size < W0.heap.size := by rw [← hW0]; simp
  obtain ⟨q0, q1, q2, q3, q4⟩ := ins_box 5 d s z i w W0 hW0
  have h00 := Since.refl W0
  have q0a := q0 _ h00
  have q1a := q1 _ h00
  have q2a := q2 _ h00
  have q3a := q3 _ h00
  have q4a := q4 _ h00
  have HK : Hid (okI ⟨5, d, s, z, i⟩ = (((z == 32)) && ((isR d && isR s)) && ((s != 4)) && (isW4 i))) := by show _ = _; rw [Bool.eq_iff_iff]; simp [okI, szI, fitI, fitJ, isM, isR, isL, isC, isB, isW4] <;> omega
  have CisRd := Lib.hid (fun w => isReg_ref d w)
  have CisRs := Lib.hid (fun w => isReg_ref s w)
  have CisW4i := Lib.hid (fun w => between_32 i w)
  have CY : Hid (∀ wk, Since W0 wk → Calls Try.prog 69 #[.int .i64 d, .int .i64 s, .int .i64 i] wk fun e w' => ∃ v, e = .returned v ∧ RowI w' W0.heap.size 5 .u8 v (mmB d s i) ∧ Below wk.heap.size wk w' ∧ Since W0 w') := fun wk h => acc_r (rmm_any d s i wk hi) h
  have hml : (mmB d s i).length = 5 := by simp [mmB, leB_length]
  have HLEN : Hid (([(0 : Int), (0 : Int)]).length + (mmB d s i).length ≤ 100000) := by show _ ≤ _; rw [hml]; decide
  have HPOS : Hid (0 < (mmB d s i).length) := by show 0 < _; omega
  have HY5 : Hid ((mmB d s i).length ≤ 140737488351232) := by show _ ≤ _; omega
  clear hml
  obtain ⟨wd, hwd⟩ : ∃ b, (z == 32) = b := ⟨_, rfl⟩
  obtain ⟨wh, hwh⟩ : ∃ b, (z == 16) = b := ⟨_, rfl⟩
  try rw [hwd] at HK
  try rw [hwh] at HK
  obtain ⟨rd, hrd⟩ : ∃ b, isR d = b := ⟨_, rfl⟩
  rw [hrd] at CisRd
  obtain ⟨rs, hrs⟩ : ∃ b, isR s = b := ⟨_, rfl⟩
  rw [hrs] at CisRs
  try rw [hrd] at HK
  try rw [hrs] at HK
  have HRD := Lib.hid hrd
  have HRS := Lib.hid hrs
  clear hrd hrs
  go_enter Try.func48, Try.ntmps48
  go_upto_region 2 with (first | ((go_at_call 64; first | (with_reducible refine (CisRd.out _).mono ?_) | (with_reducible refine (CisRs.out _).mono ?_)); rintro e w' ⟨rfl, rfl⟩) | ((go_at_call 65; first | (with_reducible refine (CisW4i.out _).mono ?_)); rintro e w' ⟨rfl, rfl⟩))
  go_cut [5] from 11 to 16 (fun b wx => b = .bool (wd || wh) ∧ W0 = wx)
  case first =>
    cases wd
    all_goals
     exact qMb5
  case rest =>
    obtain ⟨rfl, rfl⟩ := hcut
    go_upto_region 3 with (first | ((go_at_call 64; first | (with_reducible refine (CisRd.out _).mono ?_) | (with_reducible refine (CisRs.out _).mono ?_)); rintro e w' ⟨rfl, rfl⟩) | ((go_at_call 65; first | (with_reducible refine (CisW4i.out _).mono ?_)); rintro e w' ⟨rfl, rfl⟩))
    go_cut [6] from 17 to 24 (fun b wx => b = .bool (rd && rs) ∧ W0 = wx)
    case first =>
      cases rd
      all_goals
       exact qMb5
    case rest =>
      obtain ⟨rfl, rfl⟩ := hcut
      generalize (wd || wh) = bt at *
      generalize (rd && rs) = rg at *
      cases wd
      · skip
        exact qMb2
      · skip
        cases rg
        · skip
          exact qMb2
        · skip
          cases hnes : (s != 4)
          · rw [hnes] at HK
            exact qMb2
          · rw [hnes] at HK
            have HOK : Hid (okI ⟨5, d, s, z, i⟩ = isW4 i) := by show _ = _; have h := HK.out; (try simp only [Bool.true_and, Bool.false_and, Bool.and_true, Bool.and_false] at h); exact h
            go_wp2_with (first | ((go_at_call 64; first | (with_reducible refine (CisRd.out _).mono ?_) | (with_reducible refine (CisRs.out _).mono ?_)); rintro e w' ⟨rfl, rfl⟩) | ((go_at_call 65; first | (with_reducible refine (CisW4i.out _).mono ?_)); rintro e w' ⟨rfl, rfl⟩) | ((go_at_call 69; with_reducible refine (CY.out _ kp).mono ?_); rintro e w2 ⟨v2, rfl, hr2, hb2, hs2⟩; have HR2 := Lib.hid hr2; clear hr2; have q0b := q0 _ hs2; have q1b := q1 _ hs2; have q2b := q2 _ hs2; have q3b := q3 _ hs2; have q4b := q4 _ hs2; have HBW2 := Lib.hid hb2; have HSI2 := Lib.hid hs2; obtain ⟨a2, n2, rfl⟩ := HR2.out.shape; clear hb2) | (at_builtin; refine wpList_app_u8 rfl _ _ rfl W0.heap.size _ [15, 183] rfl (RowI.below (RowI.lit W0 #[.int .u8 15, .int .u8 183] [15, 183] .u8 5 W0.heap.size 2 (Nat.le_refl _) rfl rfl (by unfold maxLen; simp)) HBW2.out) _ (mmB d s i) rfl (HR2.out.ints HY5.out) HPOS.out HLEN.out HSI2.out.size ?_; intro v9 w9 hr9 hb9; have HR9 := Lib.hid hr9; have hs9 := since_step HSI2.out hb9; clear hr9; have q0c := q0 _ hs9; have q1c := q1 _ hs9; have q2c := q2 _ hs9; have q3c := q3 _ hs9; have q4c := q4 _ hs9))
            all_goals go_ret2
            all_goals exact MRet.mk HOK.out.symm (fun h => RowI.to (RowI.mono HR9.out HB.out.size) (by first | rfl | (have hb1 := ok_fit h; simp [fitI, fitJ, isR, isM, isL, isC, isB, isW4, inZ] at hb1; simp [bodyI, IntKind.wrap_u8, IntKind.wrap_i64] <;> omega))) (below_hop HB.out (by first | exact hs9 | exact below_drewN hs9 1))
set_option maxRecDepth 100000 in
set_option maxHeartbeats 4000000 in
theorem ref_6 (d s z i : Int) (w : World) (hi : I64 i) : Calls Try.prog 48 #[.agg #[.int .i64 6, .int .i64 d, .int .i64 s, .int .i64 z, .int .i64 i]] w (MRet ⟨6, d, s, z, i⟩ w) := by
  obtain ⟨W0, hW0⟩ : ∃ W, w.alloc (.cells #[.int .i64 6, .int .i64 d, .int .i64 s, .int .i64 z, .int .i64 i] 25) = W := ⟨_, rfl⟩
  have HB : Hid (Below w.heap.size w W0) := by rw [← hW0]; exact (Below.refl _ _).alloc (Nat.le_refl _) _
  have hlt0 : w.heap.size < W0.heap.size := by rw [← hW0]; simp
  obtain ⟨q0, q1, q2, q3, q4⟩ := ins_box 6 d s z i w W0 hW0
  have h00 := Since.refl W0
  have q0a := q0 _ h00
  have q1a := q1 _ h00
  have q2a := q2 _ h00
  have q3a := q3 _ h00
  have q4a := q4 _ h00
  have HK : Hid (okI ⟨6, d, s, z, i⟩ = (((z == 32)) && ((isR d && isR s)) && (isL s) && ((d != 4)) && (isW4 i))) := by show _ = _; rw [Bool.eq_iff_iff]; simp [okI, szI, fitI, fitJ, isM, isR, isL, isC, isB, isW4] <;> omega
  have CisLs := Lib.hid (fun w => low_ref s w)
  have CisRd := Lib.hid (fun w => isReg_ref d w)
  have CisRs := Lib.hid (fun w => isReg_ref s w)
  have CisW4i := Lib.hid (fun w => between_32 i w)
  have CY : Hid (∀ wk, Since W0 wk → Calls Try.prog 69 #[.int .i64 s, .int .i64 d, .int .i64 i] wk fun e w' => ∃ v, e = .returned v ∧ RowI w' W0.heap.size 5 .u8 v (mmB s d i) ∧ Below wk.heap.size wk w' ∧ Since W0 w') := fun wk h => acc_r (rmm_any s d i wk hi) h
  have hml : (mmB s d i).length = 5 := by simp [mmB, leB_length]
  have HLEN : Hid (([(0 : Int)]).length + (mmB s d i).length ≤ 100000) := by show _ ≤ _; rw [hml]; decide
  have HPOS : Hid (0 < (mmB s d i).length) := by show 0 < _; omega
  have HY5 : Hid ((mmB s d i).length ≤ 140737488351232) := by show _ ≤ _; omega
  clear hml
  obtain ⟨wd, hwd⟩ : ∃ b, (z == 32) = b := ⟨_, rfl⟩
  obtain ⟨wh, hwh⟩ : ∃ b, (z == 16) = b := ⟨_, rfl⟩
  try rw [hwd] at HK
  try rw [hwh] at HK
  obtain ⟨rd, hrd⟩ : ∃ b, isR d = b := ⟨_, rfl⟩
  rw [hrd] at CisRd
  obtain ⟨rs, hrs⟩ : ∃ b, isR s = b := ⟨_, rfl⟩
  rw [hrs] at CisRs
  try rw [hrd] at HK
  try rw [hrs] at HK
  have HRD := Lib.hid hrd
  have HRS := Lib.hid hrs
  clear hrd hrs
  go_enter Try.func48, Try.ntmps48
  go_upto_region 2 with (first | ((go_at_call 70; first | (with_reducible refine (CisLs.out _).mono ?_)); rintro e w' ⟨rfl, rfl⟩) | ((go_at_call 64; first | (with_reducible refine (CisRd.out _).mono ?_) | (with_reducible refine (CisRs.out _).mono ?_)); rintro e w' ⟨rfl, rfl⟩) | ((go_at_call 65; first | (with_reducible refine (CisW4i.out _).mono ?_)); rintro e w' ⟨rfl, rfl⟩))
  go_cut [5] from 11 to 16 (fun b wx => b = .bool (wd || wh) ∧ W0 = wx)
  case first =>
    cases wd
    all_goals
     exact qMb6
  case rest =>
    obtain ⟨rfl, rfl⟩ := hcut
    go_upto_region 3 with (first | ((go_at_call 70; first | (with_reducible refine (CisLs.out _).mono ?_)); rintro e w' ⟨rfl, rfl⟩) | ((go_at_call 64; first | (with_reducible refine (CisRd.out _).mono ?_) | (with_reducible refine (CisRs.out _).mono ?_)); rintro e w' ⟨rfl, rfl⟩) | ((go_at_call 65; first | (with_reducible refine (CisW4i.out _).mono ?_)); rintro e w' ⟨rfl, rfl⟩))
    go_cut [6] from 17 to 24 (fun b wx => b = .bool (rd && rs) ∧ W0 = wx)
    case first =>
      cases rd
      all_goals
       exact qMb6
    case rest =>
      obtain ⟨rfl, rfl⟩ := hcut
      generalize (wd || wh) = bt at *
      generalize (rd && rs) = rg at *
      cases wd
      · skip
        exact qMb0
      · skip
        cases rg
        · skip
          exact qMb0
        · skip
          cases hisLs : isL s
          · rw [hisLs] at CisLs
            rw [hisLs] at HK
            have HisLs := Lib.hid hisLs
            clear hisLs
            exact qMb0
          · rw [hisLs] at CisLs
            rw [hisLs] at HK
            have HisLs := Lib.hid hisLs
            clear hisLs
            cases hned : (d != 4)
            · rw [hned] at HK
              exact qMb0
            · rw [hned] at HK
              have HOK : Hid (okI ⟨6, d, s, z, i⟩ = isW4 i) := by show _ = _; have h := HK.out; (try simp only [Bool.true_and, Bool.false_and, Bool.and_true, Bool.and_false] at h); exact h
              go_wp2_with (first | ((go_at_call 70; first | (with_reducible refine (CisLs.out _).mono ?_)); rintro e w' ⟨rfl, rfl⟩) | ((go_at_call 64; first | (with_reducible refine (CisRd.out _).mono ?_) | (with_reducible refine (CisRs.out _).mono ?_)); rintro e w' ⟨rfl, rfl⟩) | ((go_at_call 65; first | (with_reducible refine (CisW4i.out _).mono ?_)); rintro e w' ⟨rfl, rfl⟩) | ((go_at_call 69; with_reducible refine (CY.out _ kp).mono ?_); rintro e w2 ⟨v2, rfl, hr2, hb2, hs2⟩; have HR2 := Lib.hid hr2; clear hr2; have q0b := q0 _ hs2; have q1b := q1 _ hs2; have q2b := q2 _ hs2; have q3b := q3 _ hs2; have q4b := q4 _ hs2; have HBW2 := Lib.hid hb2; have HSI2 := Lib.hid hs2; obtain ⟨a2, n2, rfl⟩ := HR2.out.shape; clear hb2) | (at_builtin; refine wpList_app_u8 rfl _ _ rfl W0.heap.size _ [136] rfl (RowI.below (RowI.lit W0 #[.int .u8 136] [136] .u8 5 W0.heap.size 1 (Nat.le_refl _) rfl rfl (by unfold maxLen; simp)) HBW2.out) _ (mmB s d i) rfl (HR2.out.ints HY5.out) HPOS.out HLEN.out HSI2.out.size ?_; intro v9 w9 hr9 hb9; have HR9 := Lib.hid hr9; have hs9 := since_step HSI2.out hb9; clear hr9; have q0c := q0 _ hs9; have q1c := q1 _ hs9; have q2c := q2 _ hs9; have q3c := q3 _ hs9; have q4c := q4 _ hs9))
              all_goals go_ret2
              all_goals exact MRet.mk HOK.out.symm (fun h => RowI.to (RowI.mono HR9.out HB.out.size) (by first | rfl | (have hb1 := ok_fit h; simp [fitI, fitJ, isR, isM, isL, isC, isB, isW4, inZ] at hb1; simp [bodyI, IntKind.wrap_u8, IntKind.wrap_i64] <;> omega))) (below_hop HB.out (by first | exact hs9 | exact below_drewN hs9 1))
end Go.Proofs.Ytdojafpjipcbjaa
