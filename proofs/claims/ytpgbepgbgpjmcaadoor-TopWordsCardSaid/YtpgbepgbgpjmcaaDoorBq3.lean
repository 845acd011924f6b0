/- Breaks: an operation with a whole result -/
import Derived.Test.YtpgbepgbgpjmcaaDoorBg
import Derived.Test.YtpgbepgbgpjmcaaDoorBp
import Derived.BigQuiet
namespace Go.Proofs.YtpgbepgbgpjmcaaDoor
open Go.RowKit Wd
set_option linter.unusedVariables false
set_option linter.unusedSimpArgs false
set_option maxRecDepth 100000 in
set_option maxHeartbeats 16000000 in
theorem pBreaks_2 (fl n a b : Int) (w : World) (g : good 2 n a b = true) (h3 : 0 ≤ a) (h5 : 0 ≤ b) (f7 : 0 ≤ fl) (f8 : fl ≤ 7) : Calls Tryd.prog 26 #[.int .i64 2, .int .i64 fl, .int .i64 n, .int .u32 a, .int .u32 b] w fun e w' => e = .returned (.tuple #[.bool (has 2 n a b && brk 2 fl n a b), .int .i64 0]) ∧ Below w.heap.size w w' := by
  have ew : ∀ w, (binOp .eql 50 (.func (.func 36) #[] #[]) .nilFunc).run Tryd.prog w = .ok (.bool false) w := fun _ => by kernel_rfl
  have el : ∀ w, (binOp .neq 51 (.nilFunc) .nilFunc).run Tryd.prog w = .ok (.bool false) w := fun _ => by kernel_rfl
  obtain ⟨_, _, h1, h2, h4, h6⟩ := (good_iff _ _ _ _).1 g
  obtain ⟨m, rfl⟩ := Int.eq_ofNat_of_zero_le (show 0 ≤ n by omega)
  have hp := @pw_le32 (m : Int) (by omega)
  have hp0 := pw_pos (m : Int)
  have hw : isW m = true := by simp [isW]; omega
  have fa : fit m a = true := by simp [fit, h4]
  have fb : fit m b = true := by simp [fit, h6]
  obtain ⟨k1, k2, k4⟩ := and_fl fl f7 f8
  have u1 : decide (fl < 0) = false := by simp; omega
  have u2 : decide (7 < fl) = false := by simp; omega
  have x1 := sgn_lo32 (n := m) (a := a) (by omega) (by omega) h3
  have x2 := sgn_hi32 (n := m) (a := a) (by omega) (by omega) h4
  have y1 := sgn_lo32 (n := m) (a := b) (by omega) (by omega) h5
  have y2 := sgn_hi32 (n := m) (a := b) (by omega) (by omega) h6
  have hp3 := @pw_le31 ((m : Int) - 1) (by omega)
  have hp4 := pw_pos ((m : Int) - 1)
  have hz := sgn_zero (n := m) (b := b) (by omega) h6
  have hpw : wrap64 ((2 : Int) ^ (m - 1)) = pw ((m : Int) - 1) := by
    have e : ((m : Int) - 1).toNat = m - 1 := by omega
    rw [← e]; exact IntWalk.wrap64_in (pw ((m : Int) - 1)) (by omega)
  have hB : brk 2 fl m a b = ((f0 fl && (decide (a - b < 0) || decide (pw m - 1 < a - b))) || (f1 fl && (decide (sgn m a - sgn m b < -pw ((m : Int) - 1)) || decide (pw ((m : Int) - 1) ≤ sgn m a - sgn m b)))) := by rfl
  clear hz
  have hh : has 2 m a b = true := rfl
  cases e2 : f2 fl
  · have j2 : (bits .and .i64 fl 4 != 0) = false := k4.trans e2
    cases e0 : f0 fl
    · have j0 : (bits .and .i64 fl 1 != 0) = false := k1.trans e0
      cases e1 : f1 fl
      · have j1 : (bits .and .i64 fl 2 != 0) = false := k2.trans e1
        have hv : (has 2 m a b && brk 2 fl m a b) = false := by rw [hh, hB, e0, e1] <;> rfl
        rw [hv]
        clear hv hB k1 k2 k4 g
        go_enter Tryd.func26, Tryd.ntmps26
        go_wp2_with (first | (go_at_call 24; refine (asked_w 2 _ _ _ 1 59 36 (fun h => #[.pointer (some ⟨h + 3, 0, none⟩)]) _ (fun _ => rfl)).mono ?_; rintro e w1 ⟨h, rfl, ⟨m3, m4, c1, c2, c3, c8, c9, c10⟩, hb1⟩) | (go_at_call 59; refine (pdo_2 _ _ _ _ (by assumption) (by assumption) (by assumption) (by assumption) (by assumption) (by assumption) (h + 3) (by have q : h + 3 < w1.heap.size := (by omega); simp [go_sem, *])).mono ?_; rintro e w2 ⟨rfl, hd1⟩; have z1 : w2.cell? ⟨w1.heap.size, 1, none⟩ = some (.func (.func 36) #[] #[]) := (by obtain ⟨d1, rfl⟩ := hd1; simp [go_sem]); have z2 : w2.cell? ⟨w1.heap.size, 2, none⟩ = some (.nilFunc) := (by obtain ⟨d1, rfl⟩ := hd1; simp [go_sem])) | (go_at_call 36; refine (wh3 _ _ _ (by omega) (by omega) (by omega) (by omega)).mono ?_; rintro e w' ⟨rfl, rfl⟩) | (go_at_call 30; refine (mask_any _ _ (by assumption) (by assumption)).mono ?_; rintro e w' ⟨rfl, rfl⟩) | (go_at_call 29; refine (signed_any _ _ _ (by omega) (by omega) (by omega) (by omega)).mono ?_; rintro e w' ⟨rfl, rfl⟩))
        go_ret2
        exact ⟨rfl, ((hb1.trans ((Below.refl _ _).alloc hb1.size _)).trans (hd1.below _))⟩
      · have j1 : (bits .and .i64 fl 2 != 0) = true := k2.trans e1
        cases q3 : decide (sgn m a - sgn m b < -pw ((m : Int) - 1))
        · cases q4 : decide (pw ((m : Int) - 1) ≤ sgn m a - sgn m b)
          · have hv : (has 2 m a b && brk 2 fl m a b) = false := by rw [hh, hB, e0, e1, q3, q4] <;> rfl
            rw [hv]
            clear hv hB k1 k2 k4 g
            go_enter Tryd.func26, Tryd.ntmps26
            go_wp2_with (first | (go_at_call 24; refine (asked_w 2 _ _ _ 1 59 36 (fun h => #[.pointer (some ⟨h + 3, 0, none⟩)]) _ (fun _ => rfl)).mono ?_; rintro e w1 ⟨h, rfl, ⟨m3, m4, c1, c2, c3, c8, c9, c10⟩, hb1⟩) | (go_at_call 59; refine (pdo_2 _ _ _ _ (by assumption) (by assumption) (by assumption) (by assumption) (by assumption) (by assumption) (h + 3) (by have q : h + 3 < w1.heap.size := (by omega); simp [go_sem, *])).mono ?_; rintro e w2 ⟨rfl, hd1⟩; have z1 : w2.cell? ⟨w1.heap.size, 1, none⟩ = some (.func (.func 36) #[] #[]) := (by obtain ⟨d1, rfl⟩ := hd1; simp [go_sem]); have z2 : w2.cell? ⟨w1.heap.size, 2, none⟩ = some (.nilFunc) := (by obtain ⟨d1, rfl⟩ := hd1; simp [go_sem])) | (go_at_call 36; refine (wh3 _ _ _ (by omega) (by omega) (by omega) (by omega)).mono ?_; rintro e w' ⟨rfl, rfl⟩) | (go_at_call 30; refine (mask_any _ _ (by assumption) (by assumption)).mono ?_; rintro e w' ⟨rfl, rfl⟩) | (go_at_call 29; refine (signed_any _ _ _ (by omega) (by omega) (by omega) (by omega)).mono ?_; rintro e w' ⟨rfl, rfl⟩))
            go_quiet (first | (go_at_call 29; exact quiet_same (signed_any _ _ _ (by omega) (by omega) (by omega) (by omega))) | (go_at_call 36; exact quiet_same (wh3 _ _ _ (by omega) (by omega) (by omega) (by omega))))
            go_wp2_with (first | (go_at_call 24; refine (asked_w 2 _ _ _ 1 59 36 (fun h => #[.pointer (some ⟨h + 3, 0, none⟩)]) _ (fun _ => rfl)).mono ?_; rintro e w1 ⟨h, rfl, ⟨m3, m4, c1, c2, c3, c8, c9, c10⟩, hb1⟩) | (go_at_call 59; refine (pdo_2 _ _ _ _ (by assumption) (by assumption) (by assumption) (by assumption) (by assumption) (by assumption) (h + 3) (by have q : h + 3 < w1.heap.size := (by omega); simp [go_sem, *])).mono ?_; rintro e w2 ⟨rfl, hd1⟩; have z1 : w2.cell? ⟨w1.heap.size, 1, none⟩ = some (.func (.func 36) #[] #[]) := (by obtain ⟨d1, rfl⟩ := hd1; simp [go_sem]); have z2 : w2.cell? ⟨w1.heap.size, 2, none⟩ = some (.nilFunc) := (by obtain ⟨d1, rfl⟩ := hd1; simp [go_sem])) | (go_at_call 36; refine (wh3 _ _ _ (by omega) (by omega) (by omega) (by omega)).mono ?_; rintro e w' ⟨rfl, rfl⟩) | (go_at_call 30; refine (mask_any _ _ (by assumption) (by assumption)).mono ?_; rintro e w' ⟨rfl, rfl⟩) | (go_at_call 29; refine (signed_any _ _ _ (by omega) (by omega) (by omega) (by omega)).mono ?_; rintro e w' ⟨rfl, rfl⟩))
            go_ret2
            exact ⟨rfl, below_drewN ((hb1.trans ((Below.refl _ _).alloc hb1.size _)).trans (hd1.below _)) _⟩
          · have hv : (has 2 m a b && brk 2 fl m a b) = true := by rw [hh, hB, e0, e1, q3, q4] <;> rfl
            rw [hv]
            clear hv hB k1 k2 k4 g
            go_enter Tryd.func26, Tryd.ntmps26
            go_wp2_with (first | (go_at_call 24; refine (asked_w 2 _ _ _ 1 59 36 (fun h => #[.pointer (some ⟨h + 3, 0, none⟩)]) _ (fun _ => rfl)).mono ?_; rintro e w1 ⟨h, rfl, ⟨m3, m4, c1, c2, c3, c8, c9, c10⟩, hb1⟩) | (go_at_call 59; refine (pdo_2 _ _ _ _ (by assumption) (by assumption) (by assumption) (by assumption) (by assumption) (by assumption) (h + 3) (by have q : h + 3 < w1.heap.size := (by omega); simp [go_sem, *])).mono ?_; rintro e w2 ⟨rfl, hd1⟩; have z1 : w2.cell? ⟨w1.heap.size, 1, none⟩ = some (.func (.func 36) #[] #[]) := (by obtain ⟨d1, rfl⟩ := hd1; simp [go_sem]); have z2 : w2.cell? ⟨w1.heap.size, 2, none⟩ = some (.nilFunc) := (by obtain ⟨d1, rfl⟩ := hd1; simp [go_sem])) | (go_at_call 36; refine (wh3 _ _ _ (by omega) (by omega) (by omega) (by omega)).mono ?_; rintro e w' ⟨rfl, rfl⟩) | (go_at_call 30; refine (mask_any _ _ (by assumption) (by assumption)).mono ?_; rintro e w' ⟨rfl, rfl⟩) | (go_at_call 29; refine (signed_any _ _ _ (by omega) (by omega) (by omega) (by omega)).mono ?_; rintro e w' ⟨rfl, rfl⟩))
            go_quiet (first | (go_at_call 29; exact quiet_same (signed_any _ _ _ (by omega) (by omega) (by omega) (by omega))) | (go_at_call 36; exact quiet_same (wh3 _ _ _ (by omega) (by omega) (by omega) (by omega))))
            go_wp2_with (first | (go_at_call 24; refine (asked_w 2 _ _ _ 1 59 36 (fun h => #[.pointer (some ⟨h + 3, 0, none⟩)]) _ (fun _ => rfl)).mono ?_; rintro e w1 ⟨h, rfl, ⟨m3, m4, c1, c2, c3, c8, c9, c10⟩, hb1⟩) | (go_at_call 59; refine (pdo_2 _ _ _ _ (by assumption) (by assumption) (by assumption) (by assumption) (by assumption) (by assumption) (h + 3) (by have q : h + 3 < w1.heap.size := (by omega); simp [go_sem, *])).mono ?_; rintro e w2 ⟨rfl, hd1⟩; have z1 : w2.cell? ⟨w1.heap.size, 1, none⟩ = some (.func (.func 36) #[] #[]) := (by obtain ⟨d1, rfl⟩ := hd1; simp [go_sem]); have z2 : w2.cell? ⟨w1.heap.size, 2, none⟩ = some (.nilFunc) := (by obtain ⟨d1, rfl⟩ := hd1; simp [go_sem])) | (go_at_call 36; refine (wh3 _ _ _ (by omega) (by omega) (by omega) (by omega)).mono ?_; rintro e w' ⟨rfl, rfl⟩) | (go_at_call 30; refine (mask_any _ _ (by assumption) (by assumption)).mono ?_; rintro e w' ⟨rfl, rfl⟩) | (go_at_call 29; refine (signed_any _ _ _ (by omega) (by omega) (by omega) (by omega)).mono ?_; rintro e w' ⟨rfl, rfl⟩))
            go_ret2
            exact ⟨rfl, below_drewN ((hb1.trans ((Below.refl _ _).alloc hb1.size _)).trans (hd1.below _)) _⟩
        · have hv : (has 2 m a b && brk 2 fl m a b) = true := by rw [hh, hB, e0, e1, q3] <;> rfl
          rw [hv]
          clear hv hB k1 k2 k4 g
          go_enter Tryd.func26, Tryd.ntmps26
          go_wp2_with (first | (go_at_call 24; refine (asked_w 2 _ _ _ 1 59 36 (fun h => #[.pointer (some ⟨h + 3, 0, none⟩)]) _ (fun _ => rfl)).mono ?_; rintro e w1 ⟨h, rfl, ⟨m3, m4, c1, c2, c3, c8, c9, c10⟩, hb1⟩) | (go_at_call 59; refine (pdo_2 _ _ _ _ (by assumption) (by assumption) (by assumption) (by assumption) (by assumption) (by assumption) (h + 3) (by have q : h + 3 < w1.heap.size := (by omega); simp [go_sem, *])).mono ?_; rintro e w2 ⟨rfl, hd1⟩; have z1 : w2.cell? ⟨w1.heap.size, 1, none⟩ = some (.func (.func 36) #[] #[]) := (by obtain ⟨d1, rfl⟩ := hd1; simp [go_sem]); have z2 : w2.cell? ⟨w1.heap.size, 2, none⟩ = some (.nilFunc) := (by obtain ⟨d1, rfl⟩ := hd1; simp [go_sem])) | (go_at_call 36; refine (wh3 _ _ _ (by omega) (by omega) (by omega) (by omega)).mono ?_; rintro e w' ⟨rfl, rfl⟩) | (go_at_call 30; refine (mask_any _ _ (by assumption) (by assumption)).mono ?_; rintro e w' ⟨rfl, rfl⟩) | (go_at_call 29; refine (signed_any _ _ _ (by omega) (by omega) (by omega) (by omega)).mono ?_; rintro e w' ⟨rfl, rfl⟩))
          go_quiet (first | (go_at_call 29; exact quiet_same (signed_any _ _ _ (by omega) (by omega) (by omega) (by omega))) | (go_at_call 36; exact quiet_same (wh3 _ _ _ (by omega) (by omega) (by omega) (by omega))))
          go_wp2_with (first | (go_at_call 24; refine (asked_w 2 _ _ _ 1 59 36 (fun h => #[.pointer (some ⟨h + 3, 0, none⟩)]) _ (fun _ => rfl)).mono ?_; rintro e w1 ⟨h, rfl, ⟨m3, m4, c1, c2, c3, c8, c9, c10⟩, hb1⟩) | (go_at_call 59; refine (pdo_2 _ _ _ _ (by assumption) (by assumption) (by assumption) (by assumption) (by assumption) (by assumption) (h + 3) (by have q : h + 3 < w1.heap.size := (by omega); simp [go_sem, *])).mono ?_; rintro e w2 ⟨rfl, hd1⟩; have z1 : w2.cell? ⟨w1.heap.size, 1, none⟩ = some (.func (.func 36) #[] #[]) := (by obtain ⟨d1, rfl⟩ := hd1; simp [go_sem]); have z2 : w2.cell? ⟨w1.heap.size, 2, none⟩ = some (.nilFunc) := (by obtain ⟨d1, rfl⟩ := hd1; simp [go_sem])) | (go_at_call 36; refine (wh3 _ _ _ (by omega) (by omega) (by omega) (by omega)).mono ?_; rintro e w' ⟨rfl, rfl⟩) | (go_at_call 30; refine (mask_any _ _ (by assumption) (by assumption)).mono ?_; rintro e w' ⟨rfl, rfl⟩) | (go_at_call 29; refine (signed_any _ _ _ (by omega) (by omega) (by omega) (by omega)).mono ?_; rintro e w' ⟨rfl, rfl⟩))
          go_ret2
          exact ⟨rfl, below_drewN ((hb1.trans ((Below.refl _ _).alloc hb1.size _)).trans (hd1.below _)) _⟩
    · have j0 : (bits .and .i64 fl 1 != 0) = true := k1.trans e0
      cases q1 : decide (a - b < 0)
      · cases q2 : decide (pw m - 1 < a - b)
        · cases e1 : f1 fl
          · have j1 : (bits .and .i64 fl 2 != 0) = false := k2.trans e1
            have hv : (has 2 m a b && brk 2 fl m a b) = false := by rw [hh, hB, e0, q1, q2, e1] <;> rfl
            rw [hv]
            clear hv hB k1 k2 k4 g
            go_enter Tryd.func26, Tryd.ntmps26
            go_wp2_with (first | (go_at_call 24; refine (asked_w 2 _ _ _ 1 59 36 (fun h => #[.pointer (some ⟨h + 3, 0, none⟩)]) _ (fun _ => rfl)).mono ?_; rintro e w1 ⟨h, rfl, ⟨m3, m4, c1, c2, c3, c8, c9, c10⟩, hb1⟩) | (go_at_call 59; refine (pdo_2 _ _ _ _ (by assumption) (by assumption) (by assumption) (by assumption) (by assumption) (by assumption) (h + 3) (by have q : h + 3 < w1.heap.size := (by omega); simp [go_sem, *])).mono ?_; rintro e w2 ⟨rfl, hd1⟩; have z1 : w2.cell? ⟨w1.heap.size, 1, none⟩ = some (.func (.func 36) #[] #[]) := (by obtain ⟨d1, rfl⟩ := hd1; simp [go_sem]); have z2 : w2.cell? ⟨w1.heap.size, 2, none⟩ = some (.nilFunc) := (by obtain ⟨d1, rfl⟩ := hd1; simp [go_sem])) | (go_at_call 36; refine (wh3 _ _ _ (by omega) (by omega) (by omega) (by omega)).mono ?_; rintro e w' ⟨rfl, rfl⟩) | (go_at_call 30; refine (mask_any _ _ (by assumption) (by assumption)).mono ?_; rintro e w' ⟨rfl, rfl⟩) | (go_at_call 29; refine (signed_any _ _ _ (by omega) (by omega) (by omega) (by omega)).mono ?_; rintro e w' ⟨rfl, rfl⟩))
            go_ret2
            exact ⟨rfl, ((hb1.trans ((Below.refl _ _).alloc hb1.size _)).trans (hd1.below _))⟩
          · have j1 : (bits .and .i64 fl 2 != 0) = true := k2.trans e1
            cases q3 : decide (sgn m a - sgn m b < -pw ((m : Int) - 1))
            · cases q4 : decide (pw ((m : Int) - 1) ≤ sgn m a - sgn m b)
              · have hv : (has 2 m a b && brk 2 fl m a b) = false := by rw [hh, hB, e0, q1, q2, e1, q3, q4] <;> rfl
                rw [hv]
                clear hv hB k1 k2 k4 g
                go_enter Tryd.func26, Tryd.ntmps26
                go_wp2_with (first | (go_at_call 24; refine (asked_w 2 _ _ _ 1 59 36 (fun h => #[.pointer (some ⟨h + 3, 0, none⟩)]) _ (fun _ => rfl)).mono ?_; rintro e w1 ⟨h, rfl, ⟨m3, m4, c1, c2, c3, c8, c9, c10⟩, hb1⟩) | (go_at_call 59; refine (pdo_2 _ _ _ _ (by assumption) (by assumption) (by assumption) (by assumption) (by assumption) (by assumption) (h + 3) (by have q : h + 3 < w1.heap.size := (by omega); simp [go_sem, *])).mono ?_; rintro e w2 ⟨rfl, hd1⟩; have z1 : w2.cell? ⟨w1.heap.size, 1, none⟩ = some (.func (.func 36) #[] #[]) := (by obtain ⟨d1, rfl⟩ := hd1; simp [go_sem]); have z2 : w2.cell? ⟨w1.heap.size, 2, none⟩ = some (.nilFunc) := (by obtain ⟨d1, rfl⟩ := hd1; simp [go_sem])) | (go_at_call 36; refine (wh3 _ _ _ (by omega) (by omega) (by omega) (by omega)).mono ?_; rintro e w' ⟨rfl, rfl⟩) | (go_at_call 30; refine (mask_any _ _ (by assumption) (by assumption)).mono ?_; rintro e w' ⟨rfl, rfl⟩) | (go_at_call 29; refine (signed_any _ _ _ (by omega) (by omega) (by omega) (by omega)).mono ?_; rintro e w' ⟨rfl, rfl⟩))
                go_quiet (first | (go_at_call 29; exact quiet_same (signed_any _ _ _ (by omega) (by omega) (by omega) (by omega))) | (go_at_call 36; exact quiet_same (wh3 _ _ _ (by omega) (by omega) (by omega) (by omega))))
                go_wp2_with (first | (go_at_call 24; refine (asked_w 2 _ _ _ 1 59 36 (fun h => #[.pointer (some ⟨h + 3, 0, none⟩)]) _ (fun _ => rfl)).mono ?_; rintro e w1 ⟨h, rfl, ⟨m3, m4, c1, c2, c3, c8, c9, c10⟩, hb1⟩) | (go_at_call 59; refine (pdo_2 _ _ _ _ (by assumption) (by assumption) (by assumption) (by assumption) (by assumption) (by assumption) (h + 3) (by have q : h + 3 < w1.heap.size := (by omega); simp [go_sem, *])).mono ?_; rintro e w2 ⟨rfl, hd1⟩; have z1 : w2.cell? ⟨w1.heap.size, 1, none⟩ = some (.func (.func 36) #[] #[]) := (by obtain ⟨d1, rfl⟩ := hd1; simp [go_sem]); have z2 : w2.cell? ⟨w1.heap.size, 2, none⟩ = some (.nilFunc) := (by obtain ⟨d1, rfl⟩ := hd1; simp [go_sem])) | (go_at_call 36; refine (wh3 _ _ _ (by omega) (by omega) (by omega) (by omega)).mono ?_; rintro e w' ⟨rfl, rfl⟩) | (go_at_call 30; refine (mask_any _ _ (by assumption) (by assumption)).mono ?_; rintro e w' ⟨rfl, rfl⟩) | (go_at_call 29; refine (signed_any _ _ _ (by omega) (by omega) (by omega) (by omega)).mono ?_; rintro e w' ⟨rfl, rfl⟩))
                go_ret2
                exact ⟨rfl, below_drewN ((hb1.trans ((Below.refl _ _).alloc hb1.size _)).trans (hd1.below _)) _⟩
              · have hv : (has 2 m a b && brk 2 fl m a b) = true := by rw [hh, hB, e0, q1, q2, e1, q3, q4] <;> rfl
                rw [hv]
                clear hv hB k1 k2 k4 g
                go_enter Tryd.func26, Tryd.ntmps26
                go_wp2_with (first | (go_at_call 24; refine (asked_w 2 _ _ _ 1 59 36 (fun h => #[.pointer (some ⟨h + 3, 0, none⟩)]) _ (fun _ => rfl)).mono ?_; rintro e w1 ⟨h, rfl, ⟨m3, m4, c1, c2, c3, c8, c9, c10⟩, hb1⟩) | (go_at_call 59; refine (pdo_2 _ _ _ _ (by assumption) (by assumption) (by assumption) (by assumption) (by assumption) (by assumption) (h + 3) (by have q : h + 3 < w1.heap.size := (by omega); simp [go_sem, *])).mono ?_; rintro e w2 ⟨rfl, hd1⟩; have z1 : w2.cell? ⟨w1.heap.size, 1, none⟩ = some (.func (.func 36) #[] #[]) := (by obtain ⟨d1, rfl⟩ := hd1; simp [go_sem]); have z2 : w2.cell? ⟨w1.heap.size, 2, none⟩ = some (.nilFunc) := (by obtain ⟨d1, rfl⟩ := hd1; simp [go_sem])) | (go_at_call 36; refine (wh3 _ _ _ (by omega) (by omega) (by omega) (by omega)).mono ?_; rintro e w' ⟨rfl, rfl⟩) | (go_at_call 30; refine (mask_any _ _ (by assumption) (by assumption)).mono ?_; rintro e w' ⟨rfl, rfl⟩) | (go_at_call 29; refine (signed_any _ _ _ (by omega) (by omega) (by omega) (by omega)).mono ?_; rintro e w' ⟨rfl, rfl⟩))
                go_quiet (first | (go_at_call 29; exact quiet_same (signed_any _ _ _ (by omega) (by omega) (by omega) (by omega))) | (go_at_call 36; exact quiet_same (wh3 _ _ _ (by omega) (by omega) (by omega) (by omega))))
                go_wp2_with (first | (go_at_call 24; refine (asked_w 2 _ _ _ 1 59 36 (fun h => #[.pointer (some ⟨h + 3, 0, none⟩)]) _ (fun _ => rfl)).mono ?_; rintro e w1 ⟨h, rfl, ⟨m3, m4, c1, c2, c3, c8, c9, c10⟩, hb1⟩) | (go_at_call 59; refine (pdo_2 _ _ _ _ (by assumption) (by assumption) (by assumption) (by assumption) (by assumption) (by assumption) (h + 3) (by have q : h + 3 < w1.heap.size := (by omega); simp [go_sem, *])).mono ?_; rintro e w2 ⟨rfl, hd1⟩; have z1 : w2.cell? ⟨w1.heap.size, 1, none⟩ = some (.func (.func 36) #[] #[]) := (by obtain ⟨d1, rfl⟩ := hd1; simp [go_sem]); have z2 : w2.cell? ⟨w1.heap.size, 2, none⟩ = some (.nilFunc) := (by obtain ⟨d1, rfl⟩ := hd1; simp [go_sem])) | (go_at_call 36; refine (wh3 _ _ _ (by omega) (by omega) (by omega) (by omega)).mono ?_; rintro e w' ⟨rfl, rfl⟩) | (go_at_call 30; refine (mask_any _ _ (by assumption) (by assumption)).mono ?_; rintro e w' ⟨rfl, rfl⟩) | (go_at_call 29; refine (signed_any _ _ _ (by omega) (by omega) (by omega) (by omega)).mono ?_; rintro e w' ⟨rfl, rfl⟩))
                go_ret2
                exact ⟨rfl, below_drewN ((hb1.trans ((Below.refl _ _).alloc hb1.size _)).trans (hd1.below _)) _⟩
            · have hv : (has 2 m a b && brk 2 fl m a b) = true := by rw [hh, hB, e0, q1, q2, e1, q3] <;> rfl
              rw [hv]
              clear hv hB k1 k2 k4 g
              go_enter Tryd.func26, Tryd.ntmps26
              go_wp2_with (first | (go_at_call 24; refine (asked_w 2 _ _ _ 1 59 36 (fun h => #[.pointer (some ⟨h + 3, 0, none⟩)]) _ (fun _ => rfl)).mono ?_; rintro e w1 ⟨h, rfl, ⟨m3, m4, c1, c2, c3, c8, c9, c10⟩, hb1⟩) | (go_at_call 59; refine (pdo_2 _ _ _ _ (by assumption) (by assumption) (by assumption) (by assumption) (by assumption) (by assumption) (h + 3) (by have q : h + 3 < w1.heap.size := (by omega); simp [go_sem, *])).mono ?_; rintro e w2 ⟨rfl, hd1⟩; have z1 : w2.cell? ⟨w1.heap.size, 1, none⟩ = some (.func (.func 36) #[] #[]) := (by obtain ⟨d1, rfl⟩ := hd1; simp [go_sem]); have z2 : w2.cell? ⟨w1.heap.size, 2, none⟩ = some (.nilFunc) := (by obtain ⟨d1, rfl⟩ := hd1; simp [go_sem])) | (go_at_call 36; refine (wh3 _ _ _ (by omega) (by omega) (by omega) (by omega)).mono ?_; rintro e w' ⟨rfl, rfl⟩) | (go_at_call 30; refine (mask_any _ _ (by assumption) (by assumption)).mono ?_; rintro e w' ⟨rfl, rfl⟩) | (go_at_call 29; refine (signed_any _ _ _ (by omega) (by omega) (by omega) (by omega)).mono ?_; rintro e w' ⟨rfl, rfl⟩))
              go_quiet (first | (go_at_call 29; exact quiet_same (signed_any _ _ _ (by omega) (by omega) (by omega) (by omega))) | (go_at_call 36; exact quiet_same (wh3 _ _ _ (by omega) (by omega) (by omega) (by omega))))
              go_wp2_with (first | (go_at_call 24; refine (asked_w 2 _ _ _ 1 59 36 (fun h => #[.pointer (some ⟨h + 3, 0, none⟩)]) _ (fun _ => rfl)).mono ?_; rintro e w1 ⟨h, rfl, ⟨m3, m4, c1, c2, c3, c8, c9, c10⟩, hb1⟩) | (go_at_call 59; refine (pdo_2 _ _ _ _ (by assumption) (by assumption) (by assumption) (by assumption) (by assumption) (by assumption) (h + 3) (by have q : h + 3 < w1.heap.size := (by omega); simp [go_sem, *])).mono ?_; rintro e w2 ⟨rfl, hd1⟩; have z1 : w2.cell? ⟨w1.heap.size, 1, none⟩ = some (.func (.func 36) #[] #[]) := (by obtain ⟨d1, rfl⟩ := hd1; simp [go_sem]); have z2 : w2.cell? ⟨w1.heap.size, 2, none⟩ = some (.nilFunc) := (by obtain ⟨d1, rfl⟩ := hd1; simp [go_sem])) | (go_at_call 36; refine (wh3 _ _ _ (by omega) (by omega) (by omega) (by omega)).mono ?_; rintro e w' ⟨rfl, rfl⟩) | (go_at_call 30; refine (mask_any _ _ (by assumption) (by assumption)).mono ?_; rintro e w' ⟨rfl, rfl⟩) | (go_at_call 29; refine (signed_any _ _ _ (by omega) (by omega) (by omega) (by omega)).mono ?_; rintro e w' ⟨rfl, rfl⟩))
              go_ret2
              exact ⟨rfl, below_drewN ((hb1.trans ((Below.refl _ _).alloc hb1.size _)).trans (hd1.below _)) _⟩
        · have hv : (has 2 m a b && brk 2 fl m a b) = true := by rw [hh, hB, e0, q1, q2] <;> rfl
          rw [hv]
          clear hv hB k1 k2 k4 g
          go_enter Tryd.func26, Tryd.ntmps26
          go_wp2_with (first | (go_at_call 24; refine (asked_w 2 _ _ _ 1 59 36 (fun h => #[.pointer (some ⟨h + 3, 0, none⟩)]) _ (fun _ => rfl)).mono ?_; rintro e w1 ⟨h, rfl, ⟨m3, m4, c1, c2, c3, c8, c9, c10⟩, hb1⟩) | (go_at_call 59; refine (pdo_2 _ _ _ _ (by assumption) (by assumption) (by assumption) (by assumption) (by assumption) (by assumption) (h + 3) (by have q : h + 3 < w1.heap.size := (by omega); simp [go_sem, *])).mono ?_; rintro e w2 ⟨rfl, hd1⟩; have z1 : w2.cell? ⟨w1.heap.size, 1, none⟩ = some (.func (.func 36) #[] #[]) := (by obtain ⟨d1, rfl⟩ := hd1; simp [go_sem]); have z2 : w2.cell? ⟨w1.heap.size, 2, none⟩ = some (.nilFunc) := (by obtain ⟨d1, rfl⟩ := hd1; simp [go_sem])) | (go_at_call 36; refine (wh3 _ _ _ (by omega) (by omega) (by omega) (by omega)).mono ?_; rintro e w' ⟨rfl, rfl⟩) | (go_at_call 30; refine (mask_any _ _ (by assumption) (by assumption)).mono ?_; rintro e w' ⟨rfl, rfl⟩) | (go_at_call 29; refine (signed_any _ _ _ (by omega) (by omega) (by omega) (by omega)).mono ?_; rintro e w' ⟨rfl, rfl⟩))
          go_ret2
          exact ⟨rfl, ((hb1.trans ((Below.refl _ _).alloc hb1.size _)).trans (hd1.below _))⟩
      · have hv : (has 2 m a b && brk 2 fl m a b) = true := by rw [hh, hB, e0, q1] <;> rfl
        rw [hv]
        clear hv hB k1 k2 k4 g
        go_enter Tryd.func26, Tryd.ntmps26
        go_wp2_with (first | (go_at_call 24; refine (asked_w 2 _ _ _ 1 59 36 (fun h => #[.pointer (some ⟨h + 3, 0, none⟩)]) _ (fun _ => rfl)).mono ?_; rintro e w1 ⟨h, rfl, ⟨m3, m4, c1, c2, c3, c8, c9, c10⟩, hb1⟩) | (go_at_call 59; refine (pdo_2 _ _ _ _ (by assumption) (by assumption) (by assumption) (by assumption) (by assumption) (by assumption) (h + 3) (by have q : h + 3 < w1.heap.size := (by omega); simp [go_sem, *])).mono ?_; rintro e w2 ⟨rfl, hd1⟩; have z1 : w2.cell? ⟨w1.heap.size, 1, none⟩ = some (.func (.func 36) #[] #[]) := (by obtain ⟨d1, rfl⟩ := hd1; simp [go_sem]); have z2 : w2.cell? ⟨w1.heap.size, 2, none⟩ = some (.nilFunc) := (by obtain ⟨d1, rfl⟩ := hd1; simp [go_sem])) | (go_at_call 36; refine (wh3 _ _ _ (by omega) (by omega) (by omega) (by omega)).mono ?_; rintro e w' ⟨rfl, rfl⟩) | (go_at_call 30; refine (mask_any _ _ (by assumption) (by assumption)).mono ?_; rintro e w' ⟨rfl, rfl⟩) | (go_at_call 29; refine (signed_any _ _ _ (by omega) (by omega) (by omega) (by omega)).mono ?_; rintro e w' ⟨rfl, rfl⟩))
        go_ret2
        exact ⟨rfl, ((hb1.trans ((Below.refl _ _).alloc hb1.size _)).trans (hd1.below _))⟩
  · have j2 : (bits .and .i64 fl 4 != 0) = true := k4.trans e2
    cases e0 : f0 fl
    · have j0 : (bits .and .i64 fl 1 != 0) = false := k1.trans e0
      cases e1 : f1 fl
      · have j1 : (bits .and .i64 fl 2 != 0) = false := k2.trans e1
        have hv : (has 2 m a b && brk 2 fl m a b) = false := by rw [hh, hB, e0, e1] <;> rfl
        rw [hv]
        clear hv hB k1 k2 k4 g
        go_enter Tryd.func26, Tryd.ntmps26
        go_wp2_with (first | (go_at_call 24; refine (asked_w 2 _ _ _ 1 59 36 (fun h => #[.pointer (some ⟨h + 3, 0, none⟩)]) _ (fun _ => rfl)).mono ?_; rintro e w1 ⟨h, rfl, ⟨m3, m4, c1, c2, c3, c8, c9, c10⟩, hb1⟩) | (go_at_call 59; refine (pdo_2 _ _ _ _ (by assumption) (by assumption) (by assumption) (by assumption) (by assumption) (by assumption) (h + 3) (by have q : h + 3 < w1.heap.size := (by omega); simp [go_sem, *])).mono ?_; rintro e w2 ⟨rfl, hd1⟩; have z1 : w2.cell? ⟨w1.heap.size, 1, none⟩ = some (.func (.func 36) #[] #[]) := (by obtain ⟨d1, rfl⟩ := hd1; simp [go_sem]); have z2 : w2.cell? ⟨w1.heap.size, 2, none⟩ = some (.nilFunc) := (by obtain ⟨d1, rfl⟩ := hd1; simp [go_sem])) | (go_at_call 36; refine (wh3 _ _ _ (by omega) (by omega) (by omega) (by omega)).mono ?_; rintro e w' ⟨rfl, rfl⟩) | (go_at_call 30; refine (mask_any _ _ (by assumption) (by assumption)).mono ?_; rintro e w' ⟨rfl, rfl⟩) | (go_at_call 29; refine (signed_any _ _ _ (by omega) (by omega) (by omega) (by omega)).mono ?_; rintro e w' ⟨rfl, rfl⟩))
        go_ret2
        exact ⟨rfl, ((hb1.trans ((Below.refl _ _).alloc hb1.size _)).trans (hd1.below _))⟩
      · have j1 : (bits .and .i64 fl 2 != 0) = true := k2.trans e1
        cases q3 : decide (sgn m a - sgn m b < -pw ((m : Int) - 1))
        · cases q4 : decide (pw ((m : Int) - 1) ≤ sgn m a - sgn m b)
          · have hv : (has 2 m a b && brk 2 fl m a b) = false := by rw [hh, hB, e0, e1, q3, q4] <;> rfl
            rw [hv]
            clear hv hB k1 k2 k4 g
            go_enter Tryd.func26, Tryd.ntmps26
            go_wp2_with (first | (go_at_call 24; refine (asked_w 2 _ _ _ 1 59 36 (fun h => #[.pointer (some ⟨h + 3, 0, none⟩)]) _ (fun _ => rfl)).mono ?_; rintro e w1 ⟨h, rfl, ⟨m3, m4, c1, c2, c3, c8, c9, c10⟩, hb1⟩) | (go_at_call 59; refine (pdo_2 _ _ _ _ (by assumption) (by assumption) (by assumption) (by assumption) (by assumption) (by assumption) (h + 3) (by have q : h + 3 < w1.heap.size := (by omega); simp [go_sem, *])).mono ?_; rintro e w2 ⟨rfl, hd1⟩; have z1 : w2.cell? ⟨w1.heap.size, 1, none⟩ = some (.func (.func 36) #[] #[]) := (by obtain ⟨d1, rfl⟩ := hd1; simp [go_sem]); have z2 : w2.cell? ⟨w1.heap.size, 2, none⟩ = some (.nilFunc) := (by obtain ⟨d1, rfl⟩ := hd1; simp [go_sem])) | (go_at_call 36; refine (wh3 _ _ _ (by omega) (by omega) (by omega) (by omega)).mono ?_; rintro e w' ⟨rfl, rfl⟩) | (go_at_call 30; refine (mask_any _ _ (by assumption) (by assumption)).mono ?_; rintro e w' ⟨rfl, rfl⟩) | (go_at_call 29; refine (signed_any _ _ _ (by omega) (by omega) (by omega) (by omega)).mono ?_; rintro e w' ⟨rfl, rfl⟩))
            go_quiet (first | (go_at_call 29; exact quiet_same (signed_any _ _ _ (by omega) (by omega) (by omega) (by omega))) | (go_at_call 36; exact quiet_same (wh3 _ _ _ (by omega) (by omega) (by omega) (by omega))))
            go_wp2_with (first | (go_at_call 24; refine (asked_w 2 _ _ _ 1 59 36 (fun h => #[.pointer (some ⟨h + 3, 0, none⟩)]) _ (fun _ => rfl)).mono ?_; rintro e w1 ⟨h, rfl, ⟨m3, m4, c1, c2, c3, c8, c9, c10⟩, hb1⟩) | (go_at_call 59; refine (pdo_2 _ _ _ _ (by assumption) (by assumption) (by assumption) (by assumption) (by assumption) (by assumption) (h + 3) (by have q : h + 3 < w1.heap.size := (by omega); simp [go_sem, *])).mono ?_; rintro e w2 ⟨rfl, hd1⟩; have z1 : w2.cell? ⟨w1.heap.size, 1, none⟩ = some (.func (.func 36) #[] #[]) := (by obtain ⟨d1, rfl⟩ := hd1; simp [go_sem]); have z2 : w2.cell? ⟨w1.heap.size, 2, none⟩ = some (.nilFunc) := (by obtain ⟨d1, rfl⟩ := hd1; simp [go_sem])) | (go_at_call 36; refine (wh3 _ _ _ (by omega) (by omega) (by omega) (by omega)).mono ?_; rintro e w' ⟨rfl, rfl⟩) | (go_at_call 30; refine (mask_any _ _ (by assumption) (by assumption)).mono ?_; rintro e w' ⟨rfl, rfl⟩) | (go_at_call 29; refine (signed_any _ _ _ (by omega) (by omega) (by omega) (by omega)).mono ?_; rintro e w' ⟨rfl, rfl⟩))
            go_ret2
            exact ⟨rfl, below_drewN ((hb1.trans ((Below.refl _ _).alloc hb1.size _)).trans (hd1.below _)) _⟩
          · have hv : (has 2 m a b && brk 2 fl m a b) = true := by rw [hh, hB, e0, e1, q3, q4] <;> rfl
            rw [hv]
            clear hv hB k1 k2 k4 g
            go_enter Tryd.func26, Tryd.ntmps26
            go_wp2_with (first | (go_at_call 24; refine (asked_w 2 _ _ _ 1 59 36 (fun h => #[.pointer (some ⟨h + 3, 0, none⟩)]) _ (fun _ => rfl)).mono ?_; rintro e w1 ⟨h, rfl, ⟨m3, m4, c1, c2, c3, c8, c9, c10⟩, hb1⟩) | (go_at_call 59; refine (pdo_2 _ _ _ _ (by assumption) (by assumption) (by assumption) (by assumption) (by assumption) (by assumption) (h + 3) (by have q : h + 3 < w1.heap.size := (by omega); simp [go_sem, *])).mono ?_; rintro e w2 ⟨rfl, hd1⟩; have z1 : w2.cell? ⟨w1.heap.size, 1, none⟩ = some (.func (.func 36) #[] #[]) := (by obtain ⟨d1, rfl⟩ := hd1; simp [go_sem]); have z2 : w2.cell? ⟨w1.heap.size, 2, none⟩ = some (.nilFunc) := (by obtain ⟨d1, rfl⟩ := hd1; simp [go_sem])) | (go_at_call 36; refine (wh3 _ _ _ (by omega) (by omega) (by omega) (by omega)).mono ?_; rintro e w' ⟨rfl, rfl⟩) | (go_at_call 30; refine (mask_any _ _ (by assumption) (by assumption)).mono ?_; rintro e w' ⟨rfl, rfl⟩) | (go_at_call 29; refine (signed_any _ _ _ (by omega) (by omega) (by omega) (by omega)).mono ?_; rintro e w' ⟨rfl, rfl⟩))
            go_quiet (first | (go_at_call 29; exact quiet_same (signed_any _ _ _ (by omega) (by omega) (by omega) (by omega))) | (go_at_call 36; exact quiet_same (wh3 _ _ _ (by omega) (by omega) (by omega) (by omega))))
            go_wp2_with (first | (go_at_call 24; refine (asked_w 2 _ _ _ 1 59 36 (fun h => #[.pointer (some ⟨h + 3, 0, none⟩)]) _ (fun _ => rfl)).mono ?_; rintro e w1 ⟨h, rfl, ⟨m3, m4, c1, c2, c3, c8, c9, c10⟩, hb1⟩) | (go_at_call 59; refine (pdo_2 _ _ _ _ (by assumption) (by assumption) (by assumption) (by assumption) (by assumption) (by assumption) (h + 3) (by have q : h + 3 < w1.heap.size := (by omega); simp [go_sem, *])).mono ?_; rintro e w2 ⟨rfl, hd1⟩; have z1 : w2.cell? ⟨w1.heap.size, 1, none⟩ = some (.func (.func 36) #[] #[]) := (by obtain ⟨d1, rfl⟩ := hd1; simp [go_sem]); have z2 : w2.cell? ⟨w1.heap.size, 2, none⟩ = some (.nilFunc) := (by obtain ⟨d1, rfl⟩ := hd1; simp [go_sem])) | (go_at_call 36; refine (wh3 _ _ _ (by omega) (by omega) (by omega) (by omega)).mono ?_; rintro e w' ⟨rfl, rfl⟩) | (go_at_call 30; refine (mask_any _ _ (by assumption) (by assumption)).mono ?_; rintro e w' ⟨rfl, rfl⟩) | (go_at_call 29; refine (signed_any _ _ _ (by omega) (by omega) (by omega) (by omega)).mono ?_; rintro e w' ⟨rfl, rfl⟩))
            go_ret2
            exact ⟨rfl, below_drewN ((hb1.trans ((Below.refl _ _).alloc hb1.size _)).trans (hd1.below _)) _⟩
        · have hv : (has 2 m a b && brk 2 fl m a b) = true := by rw [hh, hB, e0, e1, q3] <;> rfl
          rw [hv]
          clear hv hB k1 k2 k4 g
          go_enter Tryd.func26, Tryd.ntmps26
          go_wp2_with (first | (go_at_call 24; refine (asked_w 2 _ _ _ 1 59 36 (fun h => #[.pointer (some ⟨h + 3, 0, none⟩)]) _ (fun _ => rfl)).mono ?_; rintro e w1 ⟨h, rfl, ⟨m3, m4, c1, c2, c3, c8, c9, c10⟩, hb1⟩) | (go_at_call 59; refine (pdo_2 _ _ _ _ (by assumption) (by assumption) (by assumption) (by assumption) (by assumption) (by assumption) (h + 3) (by have q : h + 3 < w1.heap.size := (by omega); simp [go_sem, *])).mono ?_; rintro e w2 ⟨rfl, hd1⟩; have z1 : w2.cell? ⟨w1.heap.size, 1, none⟩ = some (.func (.func 36) #[] #[]) := (by obtain ⟨d1, rfl⟩ := hd1; simp [go_sem]); have z2 : w2.cell? ⟨w1.heap.size, 2, none⟩ = some (.nilFunc) := (by obtain ⟨d1, rfl⟩ := hd1; simp [go_sem])) | (go_at_call 36; refine (wh3 _ _ _ (by omega) (by omega) (by omega) (by omega)).mono ?_; rintro e w' ⟨rfl, rfl⟩) | (go_at_call 30; refine (mask_any _ _ (by assumption) (by assumption)).mono ?_; rintro e w' ⟨rfl, rfl⟩) | (go_at_call 29; refine (signed_any _ _ _ (by omega) (by omega) (by omega) (by omega)).mono ?_; rintro e w' ⟨rfl, rfl⟩))
          go_quiet (first | (go_at_call 29; exact quiet_same (signed_any _ _ _ (by omega) (by omega) (by omega) (by omega))) | (go_at_call 36; exact quiet_same (wh3 _ _ _ (by omega) (by omega) (by omega) (by omega))))
          go_wp2_with (first | (go_at_call 24; refine (asked_w 2 _ _ _ 1 59 36 (fun h => #[.pointer (some ⟨h + 3, 0, none⟩)]) _ (fun _ => rfl)).mono ?_; rintro e w1 ⟨h, rfl, ⟨m3, m4, c1, c2, c3, c8, c9, c10⟩, hb1⟩) | (go_at_call 59; refine (pdo_2 _ _ _ _ (by assumption) (by assumption) (by assumption) (by assumption) (by assumption) (by assumption) (h + 3) (by have q : h + 3 < w1.heap.size := (by omega); simp [go_sem, *])).mono ?_; rintro e w2 ⟨rfl, hd1⟩; have z1 : w2.cell? ⟨w1.heap.size, 1, none⟩ = some (.func (.func 36) #[] #[]) := (by obtain ⟨d1, rfl⟩ := hd1; simp [go_sem]); have z2 : w2.cell? ⟨w1.heap.size, 2, none⟩ = some (.nilFunc) := (by obtain ⟨d1, rfl⟩ := hd1; simp [go_sem])) | (go_at_call 36; refine (wh3 _ _ _ (by omega) (by omega) (by omega) (by omega)).mono ?_; rintro e w' ⟨rfl, rfl⟩) | (go_at_call 30; refine (mask_any _ _ (by assumption) (by assumption)).mono ?_; rintro e w' ⟨rfl, rfl⟩) | (go_at_call 29; refine (signed_any _ _ _ (by omega) (by omega) (by omega) (by omega)).mono ?_; rintro e w' ⟨rfl, rfl⟩))
          go_ret2
          exact ⟨rfl, below_drewN ((hb1.trans ((Below.refl _ _).alloc hb1.size _)).trans (hd1.below _)) _⟩
    · have j0 : (bits .and .i64 fl 1 != 0) = true := k1.trans e0
      cases q1 : decide (a - b < 0)
      · cases q2 : decide (pw m - 1 < a - b)
        · cases e1 : f1 fl
          · have j1 : (bits .and .i64 fl 2 != 0) = false := k2.trans e1
            have hv : (has 2 m a b && brk 2 fl m a b) = false := by rw [hh, hB, e0, q1, q2, e1] <;> rfl
            rw [hv]
            clear hv hB k1 k2 k4 g
            go_enter Tryd.func26, Tryd.ntmps26
            go_wp2_with (first | (go_at_call 24; refine (asked_w 2 _ _ _ 1 59 36 (fun h => #[.pointer (some ⟨h + 3, 0, none⟩)]) _ (fun _ => rfl)).mono ?_; rintro e w1 ⟨h, rfl, ⟨m3, m4, c1, c2, c3, c8, c9, c10⟩, hb1⟩) | (go_at_call 59; refine (pdo_2 _ _ _ _ (by assumption) (by assumption) (by assumption) (by assumption) (by assumption) (by assumption) (h + 3) (by have q : h + 3 < w1.heap.size := (by omega); simp [go_sem, *])).mono ?_; rintro e w2 ⟨rfl, hd1⟩; have z1 : w2.cell? ⟨w1.heap.size, 1, none⟩ = some (.func (.func 36) #[] #[]) := (by obtain ⟨d1, rfl⟩ := hd1; simp [go_sem]); have z2 : w2.cell? ⟨w1.heap.size, 2, none⟩ = some (.nilFunc) := (by obtain ⟨d1, rfl⟩ := hd1; simp [go_sem])) | (go_at_call 36; refine (wh3 _ _ _ (by omega) (by omega) (by omega) (by omega)).mono ?_; rintro e w' ⟨rfl, rfl⟩) | (go_at_call 30; refine (mask_any _ _ (by assumption) (by assumption)).mono ?_; rintro e w' ⟨rfl, rfl⟩) | (go_at_call 29; refine (signed_any _ _ _ (by omega) (by omega) (by omega) (by omega)).mono ?_; rintro e w' ⟨rfl, rfl⟩))
            go_ret2
            exact ⟨rfl, ((hb1.trans ((Below.refl _ _).alloc hb1.size _)).trans (hd1.below _))⟩
          · have j1 : (bits .and .i64 fl 2 != 0) = true := k2.trans e1
            cases q3 : decide (sgn m a - sgn m b < -pw ((m : Int) - 1))
            · cases q4 : decide (pw ((m : Int) - 1) ≤ sgn m a - sgn m b)
              · have hv : (has 2 m a b && brk 2 fl m a b) = false := by rw [hh, hB, e0, q1, q2, e1, q3, q4] <;> rfl
                rw [hv]
                clear hv hB k1 k2 k4 g
                go_enter Tryd.func26, Tryd.ntmps26
                go_wp2_with (first | (go_at_call 24; refine (asked_w 2 _ _ _ 1 59 36 (fun h => #[.pointer (some ⟨h + 3, 0, none⟩)]) _ (fun _ => rfl)).mono ?_; rintro e w1 ⟨h, rfl, ⟨m3, m4, c1, c2, c3, c8, c9, c10⟩, hb1⟩) | (go_at_call 59; refine (pdo_2 _ _ _ _ (by assumption) (by assumption) (by assumption) (by assumption) (by assumption) (by assumption) (h + 3) (by have q : h + 3 < w1.heap.size := (by omega); simp [go_sem, *])).mono ?_; rintro e w2 ⟨rfl, hd1⟩; have z1 : w2.cell? ⟨w1.heap.size, 1, none⟩ = some (.func (.func 36) #[] #[]) := (by obtain ⟨d1, rfl⟩ := hd1; simp [go_sem]); have z2 : w2.cell? ⟨w1.heap.size, 2, none⟩ = some (.nilFunc) := (by obtain ⟨d1, rfl⟩ := hd1; simp [go_sem])) | (go_at_call 36; refine (wh3 _ _ _ (by omega) (by omega) (by omega) (by omega)).mono ?_; rintro e w' ⟨rfl, rfl⟩) | (go_at_call 30; refine (mask_any _ _ (by assumption) (by assumption)).mono ?_; rintro e w' ⟨rfl, rfl⟩) | (go_at_call 29; refine (signed_any _ _ _ (by omega) (by omega) (by omega) (by omega)).mono ?_; rintro e w' ⟨rfl, rfl⟩))
                go_quiet (first | (go_at_call 29; exact quiet_same (signed_any _ _ _ (by omega) (by omega) (by omega) (by omega))) | (go_at_call 36; exact quiet_same (wh3 _ _ _ (by omega) (by omega) (by omega) (by omega))))
                go_wp2_with (first | (go_at_call 24; refine (asked_w 2 _ _ _ 1 59 36 (fun h => #[.pointer (some ⟨h + 3, 0, none⟩)]) _ (fun _ => rfl)).mono ?_; rintro e w1 ⟨h, rfl, ⟨m3, m4, c1, c2, c3, c8, c9, c10⟩, hb1⟩) | (go_at_call 59; refine (pdo_2 _ _ _ _ (by assumption) (by assumption) (by assumption) (by assumption) (by assumption) (by assumption) (h + 3) (by have q : h + 3 < w1.heap.size := (by omega); simp [go_sem, *])).mono ?_; rintro e w2 ⟨rfl, hd1⟩; have z1 : w2.cell? ⟨w1.heap.size, 1, none⟩ = some (.func (.func 36) #[] #[]) := (by obtain ⟨d1, rfl⟩ := hd1; simp [go_sem]); have z2 : w2.cell? ⟨w1.heap.size, 2, none⟩ = some (.nilFunc) := (by obtain ⟨d1, rfl⟩ := hd1; simp [go_sem])) | (go_at_call 36; refine (wh3 _ _ _ (by omega) (by omega) (by omega) (by omega)).mono ?_; rintro e w' ⟨rfl, rfl⟩) | (go_at_call 30; refine (mask_any _ _ (by assumption) (by assumption)).mono ?_; rintro e w' ⟨rfl, rfl⟩) | (go_at_call 29; refine (signed_any _ _ _ (by omega) (by omega) (by omega) (by omega)).mono ?_; rintro e w' ⟨rfl, rfl⟩))
                go_ret2
                exact ⟨rfl, below_drewN ((hb1.trans ((Below.refl _ _).alloc hb1.size _)).trans (hd1.below _)) _⟩
              · have hv : (has 2 m a b && brk 2 fl m a b) = true := by rw [hh, hB, e0, q1, q2, e1, q3, q4] <;> rfl
                rw [hv]
                clear hv hB k1 k2 k4 g
                go_enter Tryd.func26, Tryd.ntmps26
                go_wp2_with (first | (go_at_call 24; refine (asked_w 2 _ _ _ 1 59 36 (fun h => #[.pointer (some ⟨h + 3, 0, none⟩)]) _ (fun _ => rfl)).mono ?_; rintro e w1 ⟨h, rfl, ⟨m3, m4, c1, c2, c3, c8, c9, c10⟩, hb1⟩) | (go_at_call 59; refine (pdo_2 _ _ _ _ (by assumption) (by assumption) (by assumption) (by assumption) (by assumption) (by assumption) (h + 3) (by have q : h + 3 < w1.heap.size := (by omega); simp [go_sem, *])).mono ?_; rintro e w2 ⟨rfl, hd1⟩; have z1 : w2.cell? ⟨w1.heap.size, 1, none⟩ = some (.func (.func 36) #[] #[]) := (by obtain ⟨d1, rfl⟩ := hd1; simp [go_sem]); have z2 : w2.cell? ⟨w1.heap.size, 2, none⟩ = some (.nilFunc) := (by obtain ⟨d1, rfl⟩ := hd1; simp [go_sem])) | (go_at_call 36; refine (wh3 _ _ _ (by omega) (by omega) (by omega) (by omega)).mono ?_; rintro e w' ⟨rfl, rfl⟩) | (go_at_call 30; refine (mask_any _ _ (by assumption) (by assumption)).mono ?_; rintro e w' ⟨rfl, rfl⟩) | (go_at_call 29; refine (signed_any _ _ _ (by omega) (by omega) (by omega) (by omega)).mono ?_; rintro e w' ⟨rfl, rfl⟩))
                go_quiet (first | (go_at_call 29; exact quiet_same (signed_any _ _ _ (by omega) (by omega) (by omega) (by omega))) | (go_at_call 36; exact quiet_same (wh3 _ _ _ (by omega) (by omega) (by omega) (by omega))))
                go_wp2_with (first | (go_at_call 24; refine (asked_w 2 _ _ _ 1 59 36 (fun h => #[.pointer (some ⟨h + 3, 0, none⟩)]) _ (fun _ => rfl)).mono ?_; rintro e w1 ⟨h, rfl, ⟨m3, m4, c1, c2, c3, c8, c9, c10⟩, hb1⟩) | (go_at_call 59; refine (pdo_2 _ _ _ _ (by assumption) (by assumption) (by assumption) (by assumption) (by assumption) (by assumption) (h + 3) (by have q : h + 3 < w1.heap.size := (by omega); simp [go_sem, *])).mono ?_; rintro e w2 ⟨rfl, hd1⟩; have z1 : w2.cell? ⟨w1.heap.size, 1, none⟩ = some (.func (.func 36) #[] #[]) := (by obtain ⟨d1, rfl⟩ := hd1; simp [go_sem]); have z2 : w2.cell? ⟨w1.heap.size, 2, none⟩ = some (.nilFunc) := (by obtain ⟨d1, rfl⟩ := hd1; simp [go_sem])) | (go_at_call 36; refine (wh3 _ _ _ (by omega) (by omega) (by omega) (by omega)).mono ?_; rintro e w' ⟨rfl, rfl⟩) | (go_at_call 30; refine (mask_any _ _ (by assumption) (by assumption)).mono ?_; rintro e w' ⟨rfl, rfl⟩) | (go_at_call 29; refine (signed_any _ _ _ (by omega) (by omega) (by omega) (by omega)).mono ?_; rintro e w' ⟨rfl, rfl⟩))
                go_ret2
                exact ⟨rfl, below_drewN ((hb1.trans ((Below.refl _ _).alloc hb1.size _)).trans (hd1.below _)) _⟩
            · have hv : (has 2 m a b && brk 2 fl m a b) = true := by rw [hh, hB, e0, q1, q2, e1, q3] <;> rfl
              rw [hv]
              clear hv hB k1 k2 k4 g
              go_enter Tryd.func26, Tryd.ntmps26
              go_wp2_with (first | (go_at_call 24; refine (asked_w 2 _ _ _ 1 59 36 (fun h => #[.pointer (some ⟨h + 3, 0, none⟩)]) _ (fun _ => rfl)).mono ?_; rintro e w1 ⟨h, rfl, ⟨m3, m4, c1, c2, c3, c8, c9, c10⟩, hb1⟩) | (go_at_call 59; refine (pdo_2 _ _ _ _ (by assumption) (by assumption) (by assumption) (by assumption) (by assumption) (by assumption) (h + 3) (by have q : h + 3 < w1.heap.size := (by omega); simp [go_sem, *])).mono ?_; rintro e w2 ⟨rfl, hd1⟩; have z1 : w2.cell? ⟨w1.heap.size, 1, none⟩ = some (.func (.func 36) #[] #[]) := (by obtain ⟨d1, rfl⟩ := hd1; simp [go_sem]); have z2 : w2.cell? ⟨w1.heap.size, 2, none⟩ = some (.nilFunc) := (by obtain ⟨d1, rfl⟩ := hd1; simp [go_sem])) | (go_at_call 36; refine (wh3 _ _ _ (by omega) (by omega) (by omega) (by omega)).mono ?_; rintro e w' ⟨rfl, rfl⟩) | (go_at_call 30; refine (mask_any _ _ (by assumption) (by assumption)).mono ?_; rintro e w' ⟨rfl, rfl⟩) | (go_at_call 29; refine (signed_any _ _ _ (by omega) (by omega) (by omega) (by omega)).mono ?_; rintro e w' ⟨rfl, rfl⟩))
              go_quiet (first | (go_at_call 29; exact quiet_same (signed_any _ _ _ (by omega) (by omega) (by omega) (by omega))) | (go_at_call 36; exact quiet_same (wh3 _ _ _ (by omega) (by omega) (by omega) (by omega))))
              go_wp2_with (first | (go_at_call 24; refine (asked_w 2 _ _ _ 1 59 36 (fun h => #[.pointer (some ⟨h + 3, 0, none⟩)]) _ (fun _ => rfl)).mono ?_; rintro e w1 ⟨h, rfl, ⟨m3, m4, c1, c2, c3, c8, c9, c10⟩, hb1⟩) | (go_at_call 59; refine (pdo_2 _ _ _ _ (by assumption) (by assumption) (by assumption) (by assumption) (by assumption) (by assumption) (h + 3) (by have q : h + 3 < w1.heap.size := (by omega); simp [go_sem, *])).mono ?_; rintro e w2 ⟨rfl, hd1⟩; have z1 : w2.cell? ⟨w1.heap.size, 1, none⟩ = some (.func (.func 36) #[] #[]) := (by obtain ⟨d1, rfl⟩ := hd1; simp [go_sem]); have z2 : w2.cell? ⟨w1.heap.size, 2, none⟩ = some (.nilFunc) := (by obtain ⟨d1, rfl⟩ := hd1; simp [go_sem])) | (go_at_call 36; refine (wh3 _ _ _ (by omega) (by omega) (by omega) (by omega)).mono ?_; rintro e w' ⟨rfl, rfl⟩) | (go_at_call 30; refine (mask_any _ _ (by assumption) (by assumption)).mono ?_; rintro e w' ⟨rfl, rfl⟩) | (go_at_call 29; refine (signed_any _ _ _ (by omega) (by omega) (by omega) (by omega)).mono ?_; rintro e w' ⟨rfl, rfl⟩))
              go_ret2
              exact ⟨rfl, below_drewN ((hb1.trans ((Below.refl _ _).alloc hb1.size _)).trans (hd1.below _)) _⟩
        · have hv : (has 2 m a b && brk 2 fl m a b) = true := by rw [hh, hB, e0, q1, q2] <;> rfl
          rw [hv]
          clear hv hB k1 k2 k4 g
          go_enter Tryd.func26, Tryd.ntmps26
          go_wp2_with (first | (go_at_call 24; refine (asked_w 2 _ _ _ 1 59 36 (fun h => #[.pointer (some ⟨h + 3, 0, none⟩)]) _ (fun _ => rfl)).mono ?_; rintro e w1 ⟨h, rfl, ⟨m3, m4, c1, c2, c3, c8, c9, c10⟩, hb1⟩) | (go_at_call 59; refine (pdo_2 _ _ _ _ (by assumption) (by assumption) (by assumption) (by assumption) (by assumption) (by assumption) (h + 3) (by have q : h + 3 < w1.heap.size := (by omega); simp [go_sem, *])).mono ?_; rintro e w2 ⟨rfl, hd1⟩; have z1 : w2.cell? ⟨w1.heap.size, 1, none⟩ = some (.func (.func 36) #[] #[]) := (by obtain ⟨d1, rfl⟩ := hd1; simp [go_sem]); have z2 : w2.cell? ⟨w1.heap.size, 2, none⟩ = some (.nilFunc) := (by obtain ⟨d1, rfl⟩ := hd1; simp [go_sem])) | (go_at_call 36; refine (wh3 _ _ _ (by omega) (by omega) (by omega) (by omega)).mono ?_; rintro e w' ⟨rfl, rfl⟩) | (go_at_call 30; refine (mask_any _ _ (by assumption) (by assumption)).mono ?_; rintro e w' ⟨rfl, rfl⟩) | (go_at_call 29; refine (signed_any _ _ _ (by omega) (by omega) (by omega) (by omega)).mono ?_; rintro e w' ⟨rfl, rfl⟩))
          go_ret2
          exact ⟨rfl, ((hb1.trans ((Below.refl _ _).alloc hb1.size _)).trans (hd1.below _))⟩
      · have hv : (has 2 m a b && brk 2 fl m a b) = true := by rw [hh, hB, e0, q1] <;> rfl
        rw [hv]
        clear hv hB k1 k2 k4 g
        go_enter Tryd.func26, Tryd.ntmps26
        go_wp2_with (first | (go_at_call 24; refine (asked_w 2 _ _ _ 1 59 36 (fun h => #[.pointer (some ⟨h + 3, 0, none⟩)]) _ (fun _ => rfl)).mono ?_; rintro e w1 ⟨h, rfl, ⟨m3, m4, c1, c2, c3, c8, c9, c10⟩, hb1⟩) | (go_at_call 59; refine (pdo_2 _ _ _ _ (by assumption) (by assumption) (by assumption) (by assumption) (by assumption) (by assumption) (h + 3) (by have q : h + 3 < w1.heap.size := (by omega); simp [go_sem, *])).mono ?_; rintro e w2 ⟨rfl, hd1⟩; have z1 : w2.cell? ⟨w1.heap.size, 1, none⟩ = some (.func (.func 36) #[] #[]) := (by obtain ⟨d1, rfl⟩ := hd1; simp [go_sem]); have z2 : w2.cell? ⟨w1.heap.size, 2, none⟩ = some (.nilFunc) := (by obtain ⟨d1, rfl⟩ := hd1; simp [go_sem])) | (go_at_call 36; refine (wh3 _ _ _ (by omega) (by omega) (by omega) (by omega)).mono ?_; rintro e w' ⟨rfl, rfl⟩) | (go_at_call 30; refine (mask_any _ _ (by assumption) (by assumption)).mono ?_; rintro e w' ⟨rfl, rfl⟩) | (go_at_call 29; refine (signed_any _ _ _ (by omega) (by omega) (by omega) (by omega)).mono ?_; rintro e w' ⟨rfl, rfl⟩))
        go_ret2
        exact ⟨rfl, ((hb1.trans ((Below.refl _ _).alloc hb1.size _)).trans (hd1.below _))⟩

end Go.Proofs.YtpgbepgbgpjmcaaDoor
