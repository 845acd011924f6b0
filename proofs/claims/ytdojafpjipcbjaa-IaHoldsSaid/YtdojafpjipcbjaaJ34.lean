/- Walks of Reads of the reference. -/
import Derived.Test.YtdojafpjipcbjaaJ33
namespace Go.Proofs.Ytdojafpjipcbjaa
open Go.RowKit
set_option linter.unusedVariables false
set_option linter.unusedSimpArgs false
set_option maxRecDepth 100000 in
theorem rreads_bad (o d s z i : Int) (w : World) (hi : I64 i) (hok : okI ⟨o, d, s, z, i⟩ = false) : Calls Try.prog 21 #[.agg #[.int .i64 o, .int .i64 d, .int .i64 s, .int .i64 z, .int .i64 i]] w fun e w' => e = .returned (.tuple #[.int .i64 0, .int .i64 1]) ∧ Below w.heap.size w w' := by
  have C0 : Hid (∀ w, Calls Try.prog 16 #[.agg #[.int .i64 o, .int .i64 d, .int .i64 s, .int .i64 z, .int .i64 i]] w fun e w' => e = .returned (.int .i64 1) ∧ Below w.heap.size w w') := fun w => by have h := rValidate_any ⟨o, d, s, z, i⟩ w hi; rw [show vaI ⟨o, d, s, z, i⟩ = 1 by unfold vaI; rw [hok]; rfl] at h; exact h
  clear hok
  go_enter Try.func21, Try.ntmps21
  go_wp2_with ((go_at_call 16; with_reducible refine (C0.out _).mono ?_); rintro e w1 ⟨rfl, hb⟩; have HB := Lib.hid hb; have x0 : w1.cell? ⟨w.heap.size, 0, none⟩ = some (.int .i64 (o)) := box_kept hb 0; have x1 : w1.cell? ⟨w.heap.size, 1, none⟩ = some (.int .i64 d) := box_kept hb 1; have x2 : w1.cell? ⟨w.heap.size, 2, none⟩ = some (.int .i64 s) := box_kept hb 2; have x3 : w1.cell? ⟨w.heap.size, 3, none⟩ = some (.int .i64 z) := box_kept hb 3; have x4 : w1.cell? ⟨w.heap.size, 4, none⟩ = some (.int .i64 i) := box_kept hb 4; clear hb)
  go_ret2
  exact ⟨rfl, below_box HB.out⟩
set_option maxRecDepth 100000 in
theorem rreads_none (o d s z i : Int) (w : World) (hi : I64 i) (hok : okI ⟨o, d, s, z, i⟩ = true) (h29 : (o == 29) = false) (h31 : (o == 31) = false) (h32 : (o == 32) = false) : Calls Try.prog 21 #[.agg #[.int .i64 o, .int .i64 d, .int .i64 s, .int .i64 z, .int .i64 i]] w fun e w' => e = .returned (.tuple #[.int .i64 0, .int .i64 0]) ∧ Below w.heap.size w w' := by
  have C0 : Hid (∀ w, Calls Try.prog 16 #[.agg #[.int .i64 o, .int .i64 d, .int .i64 s, .int .i64 z, .int .i64 i]] w fun e w' => e = .returned (.int .i64 0) ∧ Below w.heap.size w w') := fun w => by have h := rValidate_any ⟨o, d, s, z, i⟩ w hi; rw [show vaI ⟨o, d, s, z, i⟩ = 0 by unfold vaI; rw [hok]; rfl] at h; exact h
  clear hok
  go_enter Try.func21, Try.ntmps21
  go_wp2_with ((go_at_call 16; with_reducible refine (C0.out _).mono ?_); rintro e w1 ⟨rfl, hb⟩; have HB := Lib.hid hb; have x0 : w1.cell? ⟨w.heap.size, 0, none⟩ = some (.int .i64 (o)) := box_kept hb 0; have x1 : w1.cell? ⟨w.heap.size, 1, none⟩ = some (.int .i64 d) := box_kept hb 1; have x2 : w1.cell? ⟨w.heap.size, 2, none⟩ = some (.int .i64 s) := box_kept hb 2; have x3 : w1.cell? ⟨w.heap.size, 3, none⟩ = some (.int .i64 z) := box_kept hb 3; have x4 : w1.cell? ⟨w.heap.size, 4, none⟩ = some (.int .i64 i) := box_kept hb 4; clear hb)
  go_ret2
  exact ⟨rfl, below_box HB.out⟩
/-- Whether the flag q decides the condition c, looked at up to the flags k. -/
def difB (c q : Int) : Nat → Bool
  | 0 => false
  | k + 1 => difB c q k || (((k : Int) / q % 2 == 0) && (!(hoB c k == hoB c (k + q))))
/-- The sum of the flags that decide, the first j looked at. -/
def sumR (c : Int) : Nat → Int
  | 0 => 0
  | j + 1 => sumR c j + (if difB c (2 ^ j) 16 = true then 2 ^ j else 0)
theorem sumR_is {c : Int} (h : isC c = true) : sumR c 4 = rdT c := by
  rcases isC_cases h with rfl | rfl | rfl | rfl | rfl | rfl | rfl | rfl | rfl | rfl | rfl | rfl | rfl | rfl <;> decide
/-- The j-th flag stands in the slot. -/
def BJ (j : Nat) (q : Value) : Prop := (j = 0 ∧ q = .int .i64 1) ∨ (j = 1 ∧ q = .int .i64 2) ∨ (j = 2 ∧ q = .int .i64 4) ∨ (j = 3 ∧ q = .int .i64 8) ∨ (j = 4 ∧ q = .int .i64 16)
theorem sumR_bd (c : Int) : ∀ j, j ≤ 4 → 0 ≤ sumR c j ∧ sumR c j ≤ 16
  | 0, _ => by simp [sumR]
  | 1, _ => by simp only [sumR]; split <;> decide
  | 2, _ => by simp only [sumR]; split <;> split <;> decide
  | 3, _ => by simp only [sumR]; split <;> split <;> split <;> decide
  | 4, _ => by simp only [sumR]; split <;> split <;> split <;> split <;> decide
set_option maxRecDepth 100000 in
set_option maxHeartbeats 4000000 in
theorem rreads_29 (d s z i : Int) (w : World) (hi : I64 i) (hok : okI ⟨29, d, s, z, i⟩ = true) (hc : isC s = true) : Calls Try.prog 21 #[.agg #[.int .i64 29, .int .i64 d, .int .i64 s, .int .i64 z, .int .i64 i]] w fun e w' => e = .returned (.tuple #[.int .i64 (rdT s), .int .i64 0]) ∧ Below w.heap.size w w' := by
  have C0 : Hid (∀ w, Calls Try.prog 16 #[.agg #[.int .i64 29, .int .i64 d, .int .i64 s, .int .i64 z, .int .i64 i]] w fun e w' => e = .returned (.int .i64 0) ∧ Below w.heap.size w w') := fun w => by have h := rValidate_any ⟨29, d, s, z, i⟩ w hi; rw [show vaI ⟨29, d, s, z, i⟩ = 0 by unfold vaI; rw [hok]; rfl] at h; exact h
  have hb2 : 0 ≤ s ∧ s ≤ 15 := by simp [isC] at hc; omega
  obtain ⟨hb3, hb4⟩ := hb2
  have d0 : decide (s < 0) = false := decide_eq_false (by omega)
  rw [← sumR_is hc]
  have HH := Lib.hid (fun (f : Int) (h0 : 0 ≤ f) (h1 : f ≤ 15) (w : World) => rholds_any s f w hc h0 h1)
  clear hok hc
  go_enter Try.func21, Try.ntmps21
  go_wp2_with ((go_at_call 16; with_reducible refine (C0.out _).mono ?_); rintro e w1 ⟨rfl, hb⟩; have HB := Lib.hid hb; have x0 : w1.cell? ⟨w.heap.size, 0, none⟩ = some (.int .i64 (29)) := box_kept hb 0; have x1 : w1.cell? ⟨w.heap.size, 1, none⟩ = some (.int .i64 d) := box_kept hb 1; have x2 : w1.cell? ⟨w.heap.size, 2, none⟩ = some (.int .i64 s) := box_kept hb 2; have x3 : w1.cell? ⟨w.heap.size, 3, none⟩ = some (.int .i64 z) := box_kept hb 3; have x4 : w1.cell? ⟨w.heap.size, 4, none⟩ = some (.int .i64 i) := box_kept hb 4; clear hb)
  go_loopw [6, 7] (fun u q wr => ∃ j : Nat, BJ j q ∧ u = .int .i64 (sumR s j) ∧ Below w1.heap.size w1 wr) (fun _ q _ => 16 - (intOf q).toNat)
  case atStart => exact ⟨0, .inl ⟨rfl, rfl⟩, rfl, Below.refl _ _⟩
  case round =>
    obtain ⟨j, hj, rfl, hbr⟩ := hrel
    have HBR := Lib.hid hbr
    clear hbr
    obtain ⟨wo, rfl⟩ : ∃ wo : World, wo = wr := ⟨_, rfl⟩
    rcases hj with ⟨rfl, rfl⟩ | ⟨rfl, rfl⟩ | ⟨rfl, rfl⟩ | ⟨rfl, rfl⟩ | ⟨rfl, rfl⟩
    · have hsb := sumR_bd s 0 (by decide)
      obtain ⟨sb1, sb2⟩ := hsb
      have HSU : Hid (sumR s 1 = sumR s 0 + (if difB s 1 16 = true then 1 else 0)) := rfl
      generalize sumR s 0 = su at *
      go_wp2_with fail
      go_loopw [8, 9] (fun dv fv wr2 => ∃ k : Nat, k ≤ 16 ∧ dv = .bool (difB s 1 k) ∧ fv = .int .i64 k ∧ Below w1.heap.size w1 wr2) (fun _ fv _ => 16 - (intOf fv).toNat)
      case atStart => exact ⟨0, by decide, rfl, rfl, HBR.out⟩
      case round =>
        obtain ⟨k, hk, rfl, rfl, hb2⟩ := hrel
        have HB2 := Lib.hid hb2
        clear hb2
        by_cases hlt : k < 16
        · have HD : Hid (difB s 1 (k + 1) = (difB s 1 k || (((k : Int) % 2 == 0) && (!(hoB s k == hoB s (k + 1)))))) := Lib.hid (by simp only [difB, Int.ediv_one])
          have K1 := Lib.hid (fun w => HH.out k (by omega) (by omega) w)
          have dlt : decide (k < 16) = true := decide_eq_true hlt
          have dlt2 : decide ((k : Int) < 16) = true := decide_eq_true (by omega)
          generalize difB s 1 k = df at *
          cases hg : ((k : Int) % 2 == 0)
          · rw [hg] at HD
            go_wp2_with fail
            go_roundw
            case rel => exact ⟨k + 1, by omega, by rw [HD.out]; simp, by go_num, HB2.out⟩
            case measure => simp [intOf]; omega
          · have hg2 : (k : Int) % 2 = 0 := by simpa using hg
            have K2 := Lib.hid (fun w => HH.out ((k : Int) + 1) (by omega) (by omega) w)
            rw [hg] at HD
            clear hg2
            generalize hoB s k = a at *
            generalize hoB s ((k : Int) + 1) = b at *
            cases hab : (!(a == b)) <;> rw [hab] at HD
            all_goals
              go_wp2_with ((go_at_call 35; first | (with_reducible refine (K1.out _).mono ?_) | (with_reducible refine (K2.out _).mono ?_)); rintro e w2 ⟨rfl, hb2⟩; have HB2 := Lib.hid (below_hop HB2.out hb2); clear hb2)
              go_roundw
              case rel => exact ⟨k + 1, by omega, by rw [HD.out]; simp, by go_num, HB2.out⟩
              case measure => simp [intOf]; omega
        · obtain rfl : k = 16 := by omega
          cases hd : difB s 1 16 <;> rw [hd] at HSU
          · go_wp2_with fail
            go_roundw
            case rel => exact ⟨1, by simp [BJ], by rw [HSU.out]; simp, HB2.out⟩
            case measure => simp [intOf]
          · go_wp2_with fail
            go_roundw
            case rel => exact ⟨1, by simp [BJ], by rw [HSU.out]; simp, HB2.out⟩
            case measure => simp [intOf]
    · have hsb := sumR_bd s 1 (by decide)
      obtain ⟨sb1, sb2⟩ := hsb
      have HSU : Hid (sumR s 2 = sumR s 1 + (if difB s 2 16 = true then 2 else 0)) := rfl
      generalize sumR s 1 = su at *
      go_wp2_with fail
      go_loopw [8, 9] (fun dv fv wr2 => ∃ k : Nat, k ≤ 16 ∧ dv = .bool (difB s 2 k) ∧ fv = .int .i64 k ∧ Below w1.heap.size w1 wr2) (fun _ fv _ => 16 - (intOf fv).toNat)
      case atStart => exact ⟨0, by decide, rfl, rfl, HBR.out⟩
      case round =>
        obtain ⟨k, hk, rfl, rfl, hb2⟩ := hrel
        have HB2 := Lib.hid hb2
        clear hb2
        by_cases hlt : k < 16
        · have HD : Hid (difB s 2 (k + 1) = (difB s 2 k || (((k : Int) / 2 % 2 == 0) && (!(hoB s k == hoB s (k + 2)))))) := Lib.hid (by simp only [difB])
          have K1 := Lib.hid (fun w => HH.out k (by omega) (by omega) w)
          have dlt : decide (k < 16) = true := decide_eq_true hlt
          have dlt2 : decide ((k : Int) < 16) = true := decide_eq_true (by omega)
          generalize difB s 2 k = df at *
          cases hg : ((k : Int) / 2 % 2 == 0)
          · rw [hg] at HD
            go_wp2_with fail
            go_roundw
            case rel => exact ⟨k + 1, by omega, by rw [HD.out]; simp, by go_num, HB2.out⟩
            case measure => simp [intOf]; omega
          · have hg2 : (k : Int) / 2 % 2 = 0 := by simpa using hg
            have K2 := Lib.hid (fun w => HH.out ((k : Int) + 2) (by omega) (by omega) w)
            rw [hg] at HD
            clear hg2
            generalize hoB s k = a at *
            generalize hoB s ((k : Int) + 2) = b at *
            cases hab : (!(a == b)) <;> rw [hab] at HD
            all_goals
              go_wp2_with ((go_at_call 35; first | (with_reducible refine (K1.out _).mono ?_) | (with_reducible refine (K2.out _).mono ?_)); rintro e w2 ⟨rfl, hb2⟩; have HB2 := Lib.hid (below_hop HB2.out hb2); clear hb2)
              go_roundw
              case rel => exact ⟨k + 1, by omega, by rw [HD.out]; simp, by go_num, HB2.out⟩
              case measure => simp [intOf]; omega
        · obtain rfl : k = 16 := by omega
          cases hd : difB s 2 16 <;> rw [hd] at HSU
          · go_wp2_with fail
            go_roundw
            case rel => exact ⟨2, by simp [BJ], by rw [HSU.out]; simp, HB2.out⟩
            case measure => simp [intOf]
          · go_wp2_with fail
            go_roundw
            case rel => exact ⟨2, by simp [BJ], by rw [HSU.out]; simp, HB2.out⟩
            case measure => simp [intOf]
    · have hsb := sumR_bd s 2 (by decide)
      obtain ⟨sb1, sb2⟩ := hsb
      have HSU : Hid (sumR s 3 = sumR s 2 + (if difB s 4 16 = true then 4 else 0)) := rfl
      generalize sumR s 2 = su at *
      go_wp2_with fail
      go_loopw [8, 9] (fun dv fv wr2 => ∃ k : Nat, k ≤ 16 ∧ dv = .bool (difB s 4 k) ∧ fv = .int .i64 k ∧ Below w1.heap.size w1 wr2) (fun _ fv _ => 16 - (intOf fv).toNat)
      case atStart => exact ⟨0, by decide, rfl, rfl, HBR.out⟩
      case round =>
        obtain ⟨k, hk, rfl, rfl, hb2⟩ := hrel
        have HB2 := Lib.hid hb2
        clear hb2
        by_cases hlt : k < 16
        · have HD : Hid (difB s 4 (k + 1) = (difB s 4 k || (((k : Int) / 4 % 2 == 0) && (!(hoB s k == hoB s (k + 4)))))) := Lib.hid (by simp only [difB])
          have K1 := Lib.hid (fun w => HH.out k (by omega) (by omega) w)
          have dlt : decide (k < 16) = true := decide_eq_true hlt
          have dlt2 : decide ((k : Int) < 16) = true := decide_eq_true (by omega)
          generalize difB s 4 k = df at *
          cases hg : ((k : Int) / 4 % 2 == 0)
          · rw [hg] at HD
            go_wp2_with fail
            go_roundw
            case rel => exact ⟨k + 1, by omega, by rw [HD.out]; simp, by go_num, HB2.out⟩
            case measure => simp [intOf]; omega
          · have hg2 : (k : Int) / 4 % 2 = 0 := by simpa using hg
            have K2 := Lib.hid (fun w => HH.out ((k : Int) + 4) (by omega) (by omega) w)
            rw [hg] at HD
            clear hg2
            generalize hoB s k = a at *
            generalize hoB s ((k : Int) + 4) = b at *
            cases hab : (!(a == b)) <;> rw [hab] at HD
            all_goals
              go_wp2_with ((go_at_call 35; first | (with_reducible refine (K1.out _).mono ?_) | (with_reducible refine (K2.out _).mono ?_)); rintro e w2 ⟨rfl, hb2⟩; have HB2 := Lib.hid (below_hop HB2.out hb2); clear hb2)
              go_roundw
              case rel => exact ⟨k + 1, by omega, by rw [HD.out]; simp, by go_num, HB2.out⟩
              case measure => simp [intOf]; omega
        · obtain rfl : k = 16 := by omega
          cases hd : difB s 4 16 <;> rw [hd] at HSU
          · go_wp2_with fail
            go_roundw
            case rel => exact ⟨3, by simp [BJ], by rw [HSU.out]; simp, HB2.out⟩
            case measure => simp [intOf]
          · go_wp2_with fail
            go_roundw
            case rel => exact ⟨3, by simp [BJ], by rw [HSU.out]; simp, HB2.out⟩
            case measure => simp [intOf]
    · have hsb := sumR_bd s 3 (by decide)
      obtain ⟨sb1, sb2⟩ := hsb
      have HSU : Hid (sumR s 4 = sumR s 3 + (if difB s 8 16 = true then 8 else 0)) := rfl
      generalize sumR s 3 = su at *
      go_wp2_with fail
      go_loopw [8, 9] (fun dv fv wr2 => ∃ k : Nat, k ≤ 16 ∧ dv = .bool (difB s 8 k) ∧ fv = .int .i64 k ∧ Below w1.heap.size w1 wr2) (fun _ fv _ => 16 - (intOf fv).toNat)
      case atStart => exact ⟨0, by decide, rfl, rfl, HBR.out⟩
      case round =>
        obtain ⟨k, hk, rfl, rfl, hb2⟩ := hrel
        have HB2 := Lib.hid hb2
        clear hb2
        by_cases hlt : k < 16
        · have HD : Hid (difB s 8 (k + 1) = (difB s 8 k || (((k : Int) / 8 % 2 == 0) && (!(hoB s k == hoB s (k + 8)))))) := Lib.hid (by simp only [difB])
          have K1 := Lib.hid (fun w => HH.out k (by omega) (by omega) w)
          have dlt : decide (k < 16) = true := decide_eq_true hlt
          have dlt2 : decide ((k : Int) < 16) = true := decide_eq_true (by omega)
          generalize difB s 8 k = df at *
          cases hg : ((k : Int) / 8 % 2 == 0)
          · rw [hg] at HD
            go_wp2_with fail
            go_roundw
            case rel => exact ⟨k + 1, by omega, by rw [HD.out]; simp, by go_num, HB2.out⟩
            case measure => simp [intOf]; omega
          · have hg2 : (k : Int) / 8 % 2 = 0 := by simpa using hg
            have K2 := Lib.hid (fun w => HH.out ((k : Int) + 8) (by omega) (by omega) w)
            rw [hg] at HD
            clear hg2
            generalize hoB s k = a at *
            generalize hoB s ((k : Int) + 8) = b at *
            cases hab : (!(a == b)) <;> rw [hab] at HD
            all_goals
              go_wp2_with ((go_at_call 35; first | (with_reducible refine (K1.out _).mono ?_) | (with_reducible refine (K2.out _).mono ?_)); rintro e w2 ⟨rfl, hb2⟩; have HB2 := Lib.hid (below_hop HB2.out hb2); clear hb2)
              go_roundw
              case rel => exact ⟨k + 1, by omega, by rw [HD.out]; simp, by go_num, HB2.out⟩
              case measure => simp [intOf]; omega
        · obtain rfl : k = 16 := by omega
          cases hd : difB s 8 16 <;> rw [hd] at HSU
          · go_wp2_with fail
            go_roundw
            case rel => exact ⟨4, by simp [BJ], by rw [HSU.out]; simp, HB2.out⟩
            case measure => simp [intOf]
          · go_wp2_with fail
            go_roundw
            case rel => exact ⟨4, by simp [BJ], by rw [HSU.out]; simp, HB2.out⟩
            case measure => simp [intOf]
    · go_wp2_with fail
      go_ret2
      exact ⟨rfl, below_hop (below_box HB.out) HBR.out⟩
set_option maxRecDepth 100000 in
set_option maxHeartbeats 4000000 in
theorem rreads_32 (d s z i : Int) (w : World) (hi : I64 i) (hok : okI ⟨32, d, s, z, i⟩ = true) (hc : isC s = true) : Calls Try.prog 21 #[.agg #[.int .i64 32, .int .i64 d, .int .i64 s, .int .i64 z, .int .i64 i]] w fun e w' => e = .returned (.tuple #[.int .i64 (rdT s), .int .i64 0]) ∧ Below w.heap.size w w' := by
  have C0 : Hid (∀ w, Calls Try.prog 16 #[.agg #[.int .i64 32, .int .i64 d, .int .i64 s, .int .i64 z, .int .i64 i]] w fun e w' => e = .returned (.int .i64 0) ∧ Below w.heap.size w w') := fun w => by have h := rValidate_any ⟨32, d, s, z, i⟩ w hi; rw [show vaI ⟨32, d, s, z, i⟩ = 0 by unfold vaI; rw [hok]; rfl] at h; exact h
  have hb2 : 0 ≤ s ∧ s ≤ 15 := by simp [isC] at hc; omega
  obtain ⟨hb3, hb4⟩ := hb2
  have d0 : decide (s < 0) = false := decide_eq_false (by omega)
  rw [← sumR_is hc]
  have HH := Lib.hid (fun (f : Int) (h0 : 0 ≤ f) (h1 : f ≤ 15) (w : World) => rholds_any s f w hc h0 h1)
  clear hok hc
  go_enter Try.func21, Try.ntmps21
  go_wp2_with ((go_at_call 16; with_reducible refine (C0.out _).mono ?_); rintro e w1 ⟨rfl, hb⟩; have HB := Lib.hid hb; have x0 : w1.cell? ⟨w.heap.size, 0, none⟩ = some (.int .i64 (32)) := box_kept hb 0; have x1 : w1.cell? ⟨w.heap.size, 1, none⟩ = some (.int .i64 d) := box_kept hb 1; have x2 : w1.cell? ⟨w.heap.size, 2, none⟩ = some (.int .i64 s) := box_kept hb 2; have x3 : w1.cell? ⟨w.heap.size, 3, none⟩ = some (.int .i64 z) := box_kept hb 3; have x4 : w1.cell? ⟨w.heap.size, 4, none⟩ = some (.int .i64 i) := box_kept hb 4; clear hb)
  go_loopw [6, 7] (fun u q wr => ∃ j : Nat, BJ j q ∧ u = .int .i64 (sumR s j) ∧ Below w1.heap.size w1 wr) (fun _ q _ => 16 - (intOf q).toNat)
  case atStart => exact ⟨0, .inl ⟨rfl, rfl⟩, rfl, Below.refl _ _⟩
  case round =>
    obtain ⟨j, hj, rfl, hbr⟩ := hrel
    have HBR := Lib.hid hbr
    clear hbr
    obtain ⟨wo, rfl⟩ : ∃ wo : World, wo = wr := ⟨_, rfl⟩
    rcases hj with ⟨rfl, rfl⟩ | ⟨rfl, rfl⟩ | ⟨rfl, rfl⟩ | ⟨rfl, rfl⟩ | ⟨rfl, rfl⟩
    · have hsb := sumR_bd s 0 (by decide)
      obtain ⟨sb1, sb2⟩ := hsb
      have HSU : Hid (sumR s 1 = sumR s 0 + (if difB s 1 16 = true then 1 else 0)) := rfl
      generalize sumR s 0 = su at *
      go_wp2_with fail
      go_loopw [8, 9] (fun dv fv wr2 => ∃ k : Nat, k ≤ 16 ∧ dv = .bool (difB s 1 k) ∧ fv = .int .i64 k ∧ Below w1.heap.size w1 wr2) (fun _ fv _ => 16 - (intOf fv).toNat)
      case atStart => exact ⟨0, by decide, rfl, rfl, HBR.out⟩
      case round =>
        obtain ⟨k, hk, rfl, rfl, hb2⟩ := hrel
        have HB2 := Lib.hid hb2
        clear hb2
        by_cases hlt : k < 16
        · have HD : Hid (difB s 1 (k + 1) = (difB s 1 k || (((k : Int) % 2 == 0) && (!(hoB s k == hoB s (k + 1)))))) := Lib.hid (by simp only [difB, Int.ediv_one])
          have K1 := Lib.hid (fun w => HH.out k (by omega) (by omega) w)
          have dlt : decide (k < 16) = true := decide_eq_true hlt
          have dlt2 : decide ((k : Int) < 16) = true := decide_eq_true (by omega)
          generalize difB s 1 k = df at *
          cases hg : ((k : Int) % 2 == 0)
          · rw [hg] at HD
            go_wp2_with fail
            go_roundw
            case rel => exact ⟨k + 1, by omega, by rw [HD.out]; simp, by go_num, HB2.out⟩
            case measure => simp [intOf]; omega
          · have hg2 : (k : Int) % 2 = 0 := by simpa using hg
            have K2 := Lib.hid (fun w => HH.out ((k : Int) + 1) (by omega) (by omega) w)
            rw [hg] at HD
            clear hg2
            generalize hoB s k = a at *
            generalize hoB s ((k : Int) + 1) = b at *
            cases hab : (!(a == b)) <;> rw [hab] at HD
            all_goals
              go_wp2_with ((go_at_call 35; first | (with_reducible refine (K1.out _).mono ?_) | (with_reducible refine (K2.out _).mono ?_)); rintro e w2 ⟨rfl, hb2⟩; have HB2 := Lib.hid (below_hop HB2.out hb2); clear hb2)
              go_roundw
              case rel => exact ⟨k + 1, by omega, by rw [HD.out]; simp, by go_num, HB2.out⟩
              case measure => simp [intOf]; omega
        · obtain rfl : k = 16 := by omega
          cases hd : difB s 1 16 <;> rw [hd] at HSU
          · go_wp2_with fail
            go_roundw
            case rel => exact ⟨1, by simp [BJ], by rw [HSU.out]; simp, HB2.out⟩
            case measure => simp [intOf]
          · go_wp2_with fail
            go_roundw
            case rel => exact ⟨1, by simp [BJ], by rw [HSU.out]; simp, HB2.out⟩
            case measure => simp [intOf]
    · have hsb := sumR_bd s 1 (by decide)
      obtain ⟨sb1, sb2⟩ := hsb
      have HSU : Hid (sumR s 2 = sumR s 1 + (if difB s 2 16 = true then 2 else 0)) := rfl
      generalize sumR s 1 = su at *
      go_wp2_with fail
      go_loopw [8, 9] (fun dv fv wr2 => ∃ k : Nat, k ≤ 16 ∧ dv = .bool (difB s 2 k) ∧ fv = .int .i64 k ∧ Below w1.heap.size w1 wr2) (fun _ fv _ => 16 - (intOf fv).toNat)
      case atStart => exact ⟨0, by decide, rfl, rfl, HBR.out⟩
      case round =>
        obtain ⟨k, hk, rfl, rfl, hb2⟩ := hrel
        have HB2 := Lib.hid hb2
        clear hb2
        by_cases hlt : k < 16
        · have HD : Hid (difB s 2 (k + 1) = (difB s 2 k || (((k : Int) / 2 % 2 == 0) && (!(hoB s k == hoB s (k + 2)))))) := Lib.hid (by simp only [difB])
          have K1 := Lib.hid (fun w => HH.out k (by omega) (by omega) w)
          have dlt : decide (k < 16) = true := decide_eq_true hlt
          have dlt2 : decide ((k : Int) < 16) = true := decide_eq_true (by omega)
          generalize difB s 2 k = df at *
          cases hg : ((k : Int) / 2 % 2 == 0)
          · rw [hg] at HD
            go_wp2_with fail
            go_roundw
            case rel => exact ⟨k + 1, by omega, by rw [HD.out]; simp, by go_num, HB2.out⟩
            case measure => simp [intOf]; omega
          · have hg2 : (k : Int) / 2 % 2 = 0 := by simpa using hg
            have K2 := Lib.hid (fun w => HH.out ((k : Int) + 2) (by omega) (by omega) w)
            rw [hg] at HD
            clear hg2
            generalize hoB s k = a at *
            generalize hoB s ((k : Int) + 2) = b at *
            cases hab : (!(a == b)) <;> rw [hab] at HD
            all_goals
              go_wp2_with ((go_at_call 35; first | (with_reducible refine (K1.out _).mono ?_) | (with_reducible refine (K2.out _).mono ?_)); rintro e w2 ⟨rfl, hb2⟩; have HB2 := Lib.hid (below_hop HB2.out hb2); clear hb2)
              go_roundw
              case rel => exact ⟨k + 1, by omega, by rw [HD.out]; simp, by go_num, HB2.out⟩
              case measure => simp [intOf]; omega
        · obtain rfl : k = 16 := by omega
          cases hd : difB s 2 16 <;> rw [hd] at HSU
          · go_wp2_with fail
            go_roundw
            case rel => exact ⟨2, by simp [BJ], by rw [HSU.out]; simp, HB2.out⟩
            case measure => simp [intOf]
          · go_wp2_with fail
            go_roundw
            case rel => exact ⟨2, by simp [BJ], by rw [HSU.out]; simp, HB2.out⟩
            case measure => simp [intOf]
    · have hsb := sumR_bd s 2 (by decide)
      obtain ⟨sb1, sb2⟩ := hsb
      have HSU : Hid (sumR s 3 = sumR s 2 + (if difB s 4 16 = true then 4 else 0)) := rfl
      generalize sumR s 2 = su at *
      go_wp2_with fail
      go_loopw [8, 9] (fun dv fv wr2 => ∃ k : Nat, k ≤ 16 ∧ dv = .bool (difB s 4 k) ∧ fv = .int .i64 k ∧ Below w1.heap.size w1 wr2) (fun _ fv _ => 16 - (intOf fv).toNat)
      case atStart => exact ⟨0, by decide, rfl, rfl, HBR.out⟩
      case round =>
        obtain ⟨k, hk, rfl, rfl, hb2⟩ := hrel
        have HB2 := Lib.hid hb2
        clear hb2
        by_cases hlt : k < 16
        · have HD : Hid (difB s 4 (k + 1) = (difB s 4 k || (((k : Int) / 4 % 2 == 0) && (!(hoB s k == hoB s (k + 4)))))) := Lib.hid (by simp only [difB])
          have K1 := Lib.hid (fun w => HH.out k (by omega) (by omega) w)
          have dlt : decide (k < 16) = true := decide_eq_true hlt
          have dlt2 : decide ((k : Int) < 16) = true := decide_eq_true (by omega)
          generalize difB s 4 k = df at *
          cases hg : ((k : Int) / 4 % 2 == 0)
          · rw [hg] at HD
            go_wp2_with fail
            go_roundw
            case rel => exact ⟨k + 1, by omega, by rw [HD.out]; simp, by go_num, HB2.out⟩
            case measure => simp [intOf]; omega
          · have hg2 : (k : Int) / 4 % 2 = 0 := by simpa using hg
            have K2 := Lib.hid (fun w => HH.out ((k : Int) + 4) (by omega) (by omega) w)
            rw [hg] at HD
            clear hg2
            generalize hoB s k = a at *
            generalize hoB s ((k : Int) + 4) = b at *
            cases hab : (!(a == b)) <;> rw [hab] at HD
            all_goals
              go_wp2_with ((go_at_call 35; first | (with_reducible refine (K1.out _).mono ?_) | (with_reducible refine (K2.out _).mono ?_)); rintro e w2 ⟨rfl, hb2⟩; have HB2 := Lib.hid (below_hop HB2.out hb2); clear hb2)
              go_roundw
              case rel => exact ⟨k + 1, by omega, by rw [HD.out]; simp, by go_num, HB2.out⟩
              case measure => simp [intOf]; omega
        · obtain rfl : k = 16 := by omega
          cases hd : difB s 4 16 <;> rw [hd] at HSU
          · go_wp2_with fail
            go_roundw
            case rel => exact ⟨3, by simp [BJ], by rw [HSU.out]; simp, HB2.out⟩
            case measure => simp [intOf]
          · go_wp2_with fail
            go_roundw
            case rel => exact ⟨3, by simp [BJ], by rw [HSU.out]; simp, HB2.out⟩
            case measure => simp [intOf]
    · have hsb := sumR_bd s 3 (by decide)
      obtain ⟨sb1, sb2⟩ := hsb
      have HSU : Hid (sumR s 4 = sumR s 3 + (if difB s 8 16 = true then 8 else 0)) := rfl
      generalize sumR s 3 = su at *
      go_wp2_with fail
      go_loopw [8, 9] (fun dv fv wr2 => ∃ k : Nat, k ≤ 16 ∧ dv = .bool (difB s 8 k) ∧ fv = .int .i64 k ∧ Below w1.heap.size w1 wr2) (fun _ fv _ => 16 - (intOf fv).toNat)
      case atStart => exact ⟨0, by decide, rfl, rfl, HBR.out⟩
      case round =>
        obtain ⟨k, hk, rfl, rfl, hb2⟩ := hrel
        have HB2 := Lib.hid hb2
        clear hb2
        by_cases hlt : k < 16
        · have HD : Hid (difB s 8 (k + 1) = (difB s 8 k || (((k : Int) / 8 % 2 == 0) && (!(hoB s k == hoB s (k + 8)))))) := Lib.hid (by simp only [difB])
          have K1 := Lib.hid (fun w => HH.out k (by omega) (by omega) w)
          have dlt : decide (k < 16) = true := decide_eq_true hlt
          have dlt2 : decide ((k : Int) < 16) = true := decide_eq_true (by omega)
          generalize difB s 8 k = df at *
          cases hg : ((k : Int) / 8 % 2 == 0)
          · rw [hg] at HD
            go_wp2_with fail
            go_roundw
            case rel => exact ⟨k + 1, by omega, by rw [HD.out]; simp, by go_num, HB2.out⟩
            case measure => simp [intOf]; omega
          · have hg2 : (k : Int) / 8 % 2 = 0 := by simpa using hg
            have K2 := Lib.hid (fun w => HH.out ((k : Int) + 8) (by omega) (by omega) w)
            rw [hg] at HD
            clear hg2
            generalize hoB s k = a at *
            generalize hoB s ((k : Int) + 8) = b at *
            cases hab : (!(a == b)) <;> rw [hab] at HD
            all_goals
              go_wp2_with ((go_at_call 35; first | (with_reducible refine (K1.out _).mono ?_) | (with_reducible refine (K2.out _).mono ?_)); rintro e w2 ⟨rfl, hb2⟩; have HB2 := Lib.hid (below_hop HB2.out hb2); clear hb2)
              go_roundw
              case rel => exact ⟨k + 1, by omega, by rw [HD.out]; simp, by go_num, HB2.out⟩
              case measure => simp [intOf]; omega
        · obtain rfl : k = 16 := by omega
          cases hd : difB s 8 16 <;> rw [hd] at HSU
          · go_wp2_with fail
            go_roundw
            case rel => exact ⟨4, by simp [BJ], by rw [HSU.out]; simp, HB2.out⟩
            case measure => simp [intOf]
          · go_wp2_with fail
            go_roundw
            case rel => exact ⟨4, by simp [BJ], by rw [HSU.out]; simp, HB2.out⟩
            case measure => simp [intOf]
    · go_wp2_with fail
      go_ret2
      exact ⟨rfl, below_hop (below_box HB.out) HBR.out⟩
set_option maxRecDepth 100000 in
set_option maxHeartbeats 4000000 in
theorem rreads_31 (d s z i : Int) (w : World) (hi : I64 i) (hok : okI ⟨31, d, s, z, i⟩ = true) (hc : isC i = true) : Calls Try.prog 21 #[.agg #[.int .i64 31, .int .i64 d, .int .i64 s, .int .i64 z, .int .i64 i]] w fun e w' => e = .returned (.tuple #[.int .i64 (rdT i), .int .i64 0]) ∧ Below w.heap.size w w' := by
  have C0 : Hid (∀ w, Calls Try.prog 16 #[.agg #[.int .i64 31, .int .i64 d, .int .i64 s, .int .i64 z, .int .i64 i]] w fun e w' => e = .returned (.int .i64 0) ∧ Below w.heap.size w w') := fun w => by have h := rValidate_any ⟨31, d, s, z, i⟩ w hi; rw [show vaI ⟨31, d, s, z, i⟩ = 0 by unfold vaI; rw [hok]; rfl] at h; exact h
  have hb2 : 0 ≤ i ∧ i ≤ 15 := by simp [isC] at hc; omega
  obtain ⟨hb3, hb4⟩ := hb2
  have d0 : decide (i < 0) = false := decide_eq_false (by omega)
  rw [← sumR_is hc]
  have HH := Lib.hid (fun (f : Int) (h0 : 0 ≤ f) (h1 : f ≤ 15) (w : World) => rholds_any i f w hc h0 h1)
  clear hok hc
  go_enter Try.func21, Try.ntmps21
  go_wp2_with ((go_at_call 16; with_reducible refine (C0.out _).mono ?_); rintro e w1 ⟨rfl, hb⟩; have HB := Lib.hid hb; have x0 : w1.cell? ⟨w.heap.size, 0, none⟩ = some (.int .i64 (31)) := box_kept hb 0; have x1 : w1.cell? ⟨w.heap.size, 1, none⟩ = some (.int .i64 d) := box_kept hb 1; have x2 : w1.cell? ⟨w.heap.size, 2, none⟩ = some (.int .i64 s) := box_kept hb 2; have x3 : w1.cell? ⟨w.heap.size, 3, none⟩ = some (.int .i64 z) := box_kept hb 3; have x4 : w1.cell? ⟨w.heap.size, 4, none⟩ = some (.int .i64 i) := box_kept hb 4; clear hb)
  go_loopw [6, 7] (fun u q wr => ∃ j : Nat, BJ j q ∧ u = .int .i64 (sumR i j) ∧ Below w1.heap.size w1 wr) (fun _ q _ => 16 - (intOf q).toNat)
  case atStart => exact ⟨0, .inl ⟨rfl, rfl⟩, rfl, Below.refl _ _⟩
  case round =>
    obtain ⟨j, hj, rfl, hbr⟩ := hrel
    have HBR := Lib.hid hbr
    clear hbr
    obtain ⟨wo, rfl⟩ : ∃ wo : World, wo = wr := ⟨_, rfl⟩
    rcases hj with ⟨rfl, rfl⟩ | ⟨rfl, rfl⟩ | ⟨rfl, rfl⟩ | ⟨rfl, rfl⟩ | ⟨rfl, rfl⟩
    · have hsb := sumR_bd i 0 (by decide)
      obtain ⟨sb1, sb2⟩ := hsb
      have HSU : Hid (sumR i 1 = sumR i 0 + (if difB i 1 16 = true then 1 else 0)) := rfl
      generalize sumR i 0 = su at *
      go_wp2_with fail
      go_loopw [8, 9] (fun dv fv wr2 => ∃ k : Nat, k ≤ 16 ∧ dv = .bool (difB i 1 k) ∧ fv = .int .i64 k ∧ Below w1.heap.size w1 wr2) (fun _ fv _ => 16 - (intOf fv).toNat)
      case atStart => exact ⟨0, by decide, rfl, rfl, HBR.out⟩
      case round =>
        obtain ⟨k, hk, rfl, rfl, hb2⟩ := hrel
        have HB2 := Lib.hid hb2
        clear hb2
        by_cases hlt : k < 16
        · have HD : Hid (difB i 1 (k + 1) = (difB i 1 k || (((k : Int) % 2 == 0) && (!(hoB i k == hoB i (k + 1)))))) := Lib.hid (by simp only [difB, Int.ediv_one])
          have K1 := Lib.hid (fun w => HH.out k (by omega) (by omega) w)
          have dlt : decide (k < 16) = true := decide_eq_true hlt
          have dlt2 : decide ((k : Int) < 16) = true := decide_eq_true (by omega)
          generalize difB i 1 k = df at *
          cases hg : ((k : Int) % 2 == 0)
          · rw [hg] at HD
            go_wp2_with fail
            go_roundw
            case rel => exact ⟨k + 1, by omega, by rw [HD.out]; simp, by go_num, HB2.out⟩
            case measure => simp [intOf]; omega
          · have hg2 : (k : Int) % 2 = 0 := by simpa using hg
            have K2 := Lib.hid (fun w => HH.out ((k : Int) + 1) (by omega) (by omega) w)
            rw [hg] at HD
            clear hg2
            generalize hoB i k = a at *
            generalize hoB i ((k : Int) + 1) = b at *
            cases hab : (!(a == b)) <;> rw [hab] at HD
            all_goals
              go_wp2_with ((go_at_call 35; first | (with_reducible refine (K1.out _).mono ?_) | (with_reducible refine (K2.out _).mono ?_)); rintro e w2 ⟨rfl, hb2⟩; have HB2 := Lib.hid (below_hop HB2.out hb2); clear hb2)
              go_roundw
              case rel => exact ⟨k + 1, by omega, by rw [HD.out]; simp, by go_num, HB2.out⟩
              case measure => simp [intOf]; omega
        · obtain rfl : k = 16 := by omega
          cases hd : difB i 1 16 <;> rw [hd] at HSU
          · go_wp2_with fail
            go_roundw
            case rel => exact ⟨1, by simp [BJ], by rw [HSU.out]; simp, HB2.out⟩
            case measure => simp [intOf]
          · go_wp2_with fail
            go_roundw
            case rel => exact ⟨1, by simp [BJ], by rw [HSU.out]; simp, HB2.out⟩
            case measure => simp [intOf]
    · have hsb := sumR_bd i 1 (by decide)
      obtain ⟨sb1, sb2⟩ := hsb
      have HSU : Hid (sumR i 2 = sumR i 1 + (if difB i 2 16 = true then 2 else 0)) := rfl
      generalize sumR i 1 = su at *
      go_wp2_with fail
      go_loopw [8, 9] (fun dv fv wr2 => ∃ k : Nat, k ≤ 16 ∧ dv = .bool (difB i 2 k) ∧ fv = .int .i64 k ∧ Below w1.heap.size w1 wr2) (fun _ fv _ => 16 - (intOf fv).toNat)
      case atStart => exact ⟨0, by decide, rfl, rfl, HBR.out⟩
      case round =>
        obtain ⟨k, hk, rfl, rfl, hb2⟩ := hrel
        have HB2 := Lib.hid hb2
        clear hb2
        by_cases hlt : k < 16
        · have HD : Hid (difB i 2 (k + 1) = (difB i 2 k || (((k : Int) / 2 % 2 == 0) && (!(hoB i k == hoB i (k + 2)))))) := Lib.hid (by simp only [difB])
          have K1 := Lib.hid (fun w => HH.out k (by omega) (by omega) w)
          have dlt : decide (k < 16) = true := decide_eq_true hlt
          have dlt2 : decide ((k : Int) < 16) = true := decide_eq_true (by omega)
          generalize difB i 2 k = df at *
          cases hg : ((k : Int) / 2 % 2 == 0)
          · rw [hg] at HD
            go_wp2_with fail
            go_roundw
            case rel => exact ⟨k + 1, by omega, by rw [HD.out]; simp, by go_num, HB2.out⟩
            case measure => simp [intOf]; omega
          · have hg2 : (k : Int) / 2 % 2 = 0 := by simpa using hg
            have K2 := Lib.hid (fun w => HH.out ((k : Int) + 2) (by omega) (by omega) w)
            rw [hg] at HD
            clear hg2
            generalize hoB i k = a at *
            generalize hoB i ((k : Int) + 2) = b at *
            cases hab : (!(a == b)) <;> rw [hab] at HD
            all_goals
              go_wp2_with ((go_at_call 35; first | (with_reducible refine (K1.out _).mono ?_) | (with_reducible refine (K2.out _).mono ?_)); rintro e w2 ⟨rfl, hb2⟩; have HB2 := Lib.hid (below_hop HB2.out hb2); clear hb2)
              go_roundw
              case rel => exact ⟨k + 1, by omega, by rw [HD.out]; simp, by go_num, HB2.out⟩
              case measure => simp [intOf]; omega
        · obtain rfl : k = 16 := by omega
          cases hd : difB i 2 16 <;> rw [hd] at HSU
          · go_wp2_with fail
            go_roundw
            case rel => exact ⟨2, by simp [BJ], by rw [HSU.out]; simp, HB2.out⟩
            case measure => simp [intOf]
          · go_wp2_with fail
            go_roundw
            case rel => exact ⟨2, by simp [BJ], by rw [HSU.out]; simp, HB2.out⟩
            case measure => simp [intOf]
    · have hsb := sumR_bd i 2 (by decide)
      obtain ⟨sb1, sb2⟩ := hsb
      have HSU : Hid (sumR i 3 = sumR i 2 + (if difB i 4 16 = true then 4 else 0)) := rfl
      generalize sumR i 2 = su at *
      go_wp2_with fail
      go_loopw [8, 9] (fun dv fv wr2 => ∃ k : Nat, k ≤ 16 ∧ dv = .bool (difB i 4 k) ∧ fv = .int .i64 k ∧ Below w1.heap.size w1 wr2) (fun _ fv _ => 16 - (intOf fv).toNat)
      case atStart => exact ⟨0, by decide, rfl, rfl, HBR.out⟩
      case round =>
        obtain ⟨k, hk, rfl, rfl, hb2⟩ := hrel
        have HB2 := Lib.hid hb2
        clear hb2
        by_cases hlt : k < 16
        · have HD : Hid (difB i 4 (k + 1) = (difB i 4 k || (((k : Int) / 4 % 2 == 0) && (!(hoB i k == hoB i (k + 4)))))) := Lib.hid (by simp only [difB])
          have K1 := Lib.hid (fun w => HH.out k (by omega) (by omega) w)
          have dlt : decide (k < 16) = true := decide_eq_true hlt
          have dlt2 : decide ((k : Int) < 16) = true := decide_eq_true (by omega)
          generalize difB i 4 k = df at *
          cases hg : ((k : Int) / 4 % 2 == 0)
          · rw [hg] at HD
            go_wp2_with fail
            go_roundw
            case rel => exact ⟨k + 1, by omega, by rw [HD.out]; simp, by go_num, HB2.out⟩
            case measure => simp [intOf]; omega
          · have hg2 : (k : Int) / 4 % 2 = 0 := by simpa using hg
            have K2 := Lib.hid (fun w => HH.out ((k : Int) + 4) (by omega) (by omega) w)
            rw [hg] at HD
            clear hg2
            generalize hoB i k = a at *
            generalize hoB i ((k : Int) + 4) = b at *
            cases hab : (!(a == b)) <;> rw [hab] at HD
            all_goals
              go_wp2_with ((go_at_call 35; first | (with_reducible refine (K1.out _).mono ?_) | (with_reducible refine (K2.out _).mono ?_)); rintro e w2 ⟨rfl, hb2⟩; have HB2 := Lib.hid (below_hop HB2.out hb2); clear hb2)
              go_roundw
              case rel => exact ⟨k + 1, by omega, by rw [HD.out]; simp, by go_num, HB2.out⟩
              case measure => simp [intOf]; omega
        · obtain rfl : k = 16 := by omega
          cases hd : difB i 4 16 <;> rw [hd] at HSU
          · go_wp2_with fail
            go_roundw
            case rel => exact ⟨3, by simp [BJ], by rw [HSU.out]; simp, HB2.out⟩
            case measure => simp [intOf]
          · go_wp2_with fail
            go_roundw
            case rel => exact ⟨3, by simp [BJ], by rw [HSU.out]; simp, HB2.out⟩
            case measure => simp [intOf]
    · have hsb := sumR_bd i 3 (by decide)
      obtain ⟨sb1, sb2⟩ := hsb
      have HSU : Hid (sumR i 4 = sumR i 3 + (if difB i 8 16 = true then 8 else 0)) := rfl
      generalize sumR i 3 = su at *
      go_wp2_with fail
      go_loopw [8, 9] (fun dv fv wr2 => ∃ k : Nat, k ≤ 16 ∧ dv = .bool (difB i 8 k) ∧ fv = .int .i64 k ∧ Below w1.heap.size w1 wr2) (fun _ fv _ => 16 - (intOf fv).toNat)
      case atStart => exact ⟨0, by decide, rfl, rfl, HBR.out⟩
      case round =>
        obtain ⟨k, hk, rfl, rfl, hb2⟩ := hrel
        have HB2 := Lib.hid hb2
        clear hb2
        by_cases hlt : k < 16
        · have HD : Hid (difB i 8 (k + 1) = (difB i 8 k || (((k : Int) / 8 % 2 == 0) && (!(hoB i k == hoB i (k + 8)))))) := Lib.hid (by simp only [difB])
          have K1 := Lib.hid (fun w => HH.out k (by omega) (by omega) w)
          have dlt : decide (k < 16) = true := decide_eq_true hlt
          have dlt2 : decide ((k : Int) < 16) = true := decide_eq_true (by omega)
          generalize difB i 8 k = df at *
          cases hg : ((k : Int) / 8 % 2 == 0)
          · rw [hg] at HD
            go_wp2_with fail
            go_roundw
            case rel => exact ⟨k + 1, by omega, by rw [HD.out]; simp, by go_num, HB2.out⟩
            case measure => simp [intOf]; omega
          · have hg2 : (k : Int) / 8 % 2 = 0 := by simpa using hg
            have K2 := Lib.hid (fun w => HH.out ((k : Int) + 8) (by omega) (by omega) w)
            rw [hg] at HD
            clear hg2
            generalize hoB i k = a at *
            generalize hoB i ((k : Int) + 8) = b at *
            cases hab : (!(a == b)) <;> rw [hab] at HD
            all_goals
              go_wp2_with ((go_at_call 35; first | (with_reducible refine (K1.out _).mono ?_) | (with_reducible refine (K2.out _).mono ?_)); rintro e w2 ⟨rfl, hb2⟩; have HB2 := Lib.hid (below_hop HB2.out hb2); clear hb2)
              go_roundw
              case rel => exact ⟨k + 1, by omega, by rw [HD.out]; simp, by go_num, HB2.out⟩
              case measure => simp [intOf]; omega
        · obtain rfl : k = 16 := by omega
          cases hd : difB i 8 16 <;> rw [hd] at HSU
          · go_wp2_with fail
            go_roundw
            case rel => exact ⟨4, by simp [BJ], by rw [HSU.out]; simp, HB2.out⟩
            case measure => simp [intOf]
          · go_wp2_with fail
            go_roundw
            case rel => exact ⟨4, by simp [BJ], by rw [HSU.out]; simp, HB2.out⟩
            case measure => simp [intOf]
    · go_wp2_with fail
      go_ret2
      exact ⟨rfl, below_hop (below_box HB.out) HBR.out⟩
theorem rreads_any (x : Ins) (w : World) (hi : I64 x.i) : Calls Try.prog 21 #[InsV x] w fun e w' => e = .returned (.tuple #[.int .i64 (rdX x), .int .i64 (vaI x)]) ∧ Below w.heap.size w w' := by
  cases hok : okI x
  · rw [show rdX x = 0 by simp [rdX, hok], show vaI x = 1 by simp [vaI, hok]]
    obtain ⟨o, d, s, z, i⟩ := x
    exact rreads_bad o d s z i w hi hok
  · rw [show rdX x = rdT (rdC x) by simp [rdX, hok], show vaI x = 0 by simp [vaI, hok]]
    have hf := ok_fit hok
    obtain ⟨o, d, s, z, i⟩ := x
    by_cases c1 : o = 29
    · subst c1; simp [fitI] at hf; exact rreads_29 d s z i w hi hok hf.2.1
    by_cases c2 : o = 32
    · subst c2; simp [fitI] at hf; exact rreads_32 d s z i w hi hok hf.2.1
    by_cases c3 : o = 31
    · subst c3; simp [fitI] at hf; exact rreads_31 d s z i w hi hok hf.2.2
    · have e : rdC ⟨o, d, s, z, i⟩ = -1 := by unfold rdC; simp only; rw [if_neg (by omega), if_neg c3]
      rw [e]
      exact rreads_none o d s z i w hi hok (by simpa using c1) (by simpa using c3) (by simpa using c2)
end Go.Proofs.Ytdojafpjipcbjaa
