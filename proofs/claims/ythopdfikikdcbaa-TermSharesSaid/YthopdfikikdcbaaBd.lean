/- Walks of backstayref01.two, do, Do, Total: what each returns, said of numbers. -/
import Derived.Test.YthopdfikikdcbaaBc
namespace Go.Proofs.Ythopdfikikdcbaa
open Go.RowKit Wd

theorem rtwo_ok (op n a b : Int) (w : World) (g : good op n a b = true) (h3 : 0 ≤ a) (h4 : a ≤ 4294967295) (h5 : 0 ≤ b) (h6 : b ≤ 4294967295) : Calls Try.prog 113 #[.int .i64 op, .int .i64 n, .int .u32 a, .int .u32 b] w fun e w' => e = .returned (.int .i64 0) ∧ w = w' := by
  obtain ⟨g1, g2, g3, g4, g5, g6⟩ := (good_iff _ _ _ _).1 g
  have hw : isW n = true := by simp [isW, g3, g4]
  have fa : fit n a = true := by simp [fit, g5]
  have fb : fit n b = true := by simp [fit, g6]
  go_enter Try.func113, Try.ntmps113
  go_wp2_with (first | (go_at_call 107; refine (rIsWidth_any _ _).mono ?_; rintro e w' ⟨rfl, rfl⟩) | (go_at_call 85; refine (rIsWord_any _ _ _ (by omega) (by omega)).mono ?_; rintro e w' ⟨rfl, rfl⟩))
  go_ret
  exact ⟨rfl, rfl⟩

theorem rtwo_no (op n a b : Int) (w : World) (g : good op n a b = false) (h3 : 0 ≤ a) (h4 : a ≤ 4294967295) (h5 : 0 ≤ b) (h6 : b ≤ 4294967295) : Calls Try.prog 113 #[.int .i64 op, .int .i64 n, .int .u32 a, .int .u32 b] w fun e w' => e = .returned (.int .i64 1) ∧ w = w' := by
  by_cases hw : isW n = true
  · by_cases o1 : op < 1
    · clear g
      go_enter Try.func113, Try.ntmps113
      go_wp2_with (first | (go_at_call 107; refine (rIsWidth_any _ _).mono ?_; rintro e w' ⟨rfl, rfl⟩) | (go_at_call 85; refine (rIsWord_any _ _ _ (by omega) (by omega)).mono ?_; rintro e w' ⟨rfl, rfl⟩))
      go_ret
      exact ⟨rfl, rfl⟩
    · by_cases o2 : 13 < op
      · clear g
        go_enter Try.func113, Try.ntmps113
        go_wp2_with (first | (go_at_call 107; refine (rIsWidth_any _ _).mono ?_; rintro e w' ⟨rfl, rfl⟩) | (go_at_call 85; refine (rIsWord_any _ _ _ (by omega) (by omega)).mono ?_; rintro e w' ⟨rfl, rfl⟩))
        go_ret
        exact ⟨rfl, rfl⟩
      · by_cases fa : fit n a = true
        · have fb : fit n b = false := by
            have h12 : 1 ≤ n ∧ n ≤ 32 := by simpa [isW] using hw
            have g5 : a < pw n := by simpa [fit] using fa
            rcases Bool.eq_false_or_eq_true (fit n b) with g6 | g6
            · have g6 : b < pw n := by simpa [fit] using g6
              have := (good_iff op n a b).2 ⟨by omega, by omega, h12.1, h12.2, g5, g6⟩
              rw [g] at this; cases this
            · exact g6
          clear g
          have d1 : decide (op < 1) = false := by simpa using o1
          have d2 : decide (13 < op) = false := by simpa using o2
          clear o1 o2
          go_enter Try.func113, Try.ntmps113
          go_wp2_with (first | (go_at_call 107; refine (rIsWidth_any _ _).mono ?_; rintro e w' ⟨rfl, rfl⟩) | (go_at_call 85; refine (rIsWord_any _ _ _ (by omega) (by omega)).mono ?_; rintro e w' ⟨rfl, rfl⟩))
          go_ret
          exact ⟨rfl, rfl⟩
        · have fa : fit n a = false := by simpa using fa
          clear g
          have d1 : decide (op < 1) = false := by simpa using o1
          have d2 : decide (13 < op) = false := by simpa using o2
          clear o1 o2
          go_enter Try.func113, Try.ntmps113
          go_wp2_with (first | (go_at_call 107; refine (rIsWidth_any _ _).mono ?_; rintro e w' ⟨rfl, rfl⟩) | (go_at_call 85; refine (rIsWord_any _ _ _ (by omega) (by omega)).mono ?_; rintro e w' ⟨rfl, rfl⟩))
          go_ret
          exact ⟨rfl, rfl⟩
  · have hw : isW n = false := by simpa using hw
    clear g
    go_enter Try.func113, Try.ntmps113
    go_wp2_with (first | (go_at_call 107; refine (rIsWidth_any _ _).mono ?_; rintro e w' ⟨rfl, rfl⟩) | (go_at_call 85; refine (rIsWord_any _ _ _ (by omega) (by omega)).mono ?_; rintro e w' ⟨rfl, rfl⟩))
    go_ret
    exact ⟨rfl, rfl⟩

theorem rdo_all (op n a b : Int) (w : World) (g : good op n a b = true) (h3 : 0 ≤ a) (h5 : 0 ≤ b) : Calls Try.prog 114 #[.int .i64 op, .int .i64 n, .int .u32 a, .int .u32 b] w (DoIs op n a b w) := by
  obtain ⟨g1, g2, g3, g4, g5, g6⟩ := (good_iff _ _ _ _).1 g
  have h : op = 1 ∨ op = 2 ∨ op = 3 ∨ op = 4 ∨ op = 5 ∨ op = 6 ∨ op = 7 ∨ op = 8 ∨ op = 9 ∨ op = 10 ∨ op = 11 ∨ op = 12 ∨ op = 13 := by omega
  rcases h with rfl | rfl | rfl | rfl | rfl | rfl | rfl | rfl | rfl | rfl | rfl | rfl | rfl
  · exact rdo_1 n a b w g3 g4 h3 g5 h5 g6
  · exact rdo_2 n a b w g3 g4 h3 g5 h5 g6
  · exact rdo_3 n a b w g3 g4 h3 g5 h5 g6
  · exact rdo_4 n a b w g3 g4 h3 g5 h5 g6
  · exact rdo_5 n a b w g3 g4 h3 g5 h5 g6
  · exact rdo_6 n a b w g3 g4 h3 g5 h5 g6
  · exact rdo_7 n a b w g3 g4 h3 g5 h5 g6
  · exact rdo_8 n a b w g3 g4 h3 g5 h5 g6
  · exact rdo_9 n a b w g3 g4 h3 g5 h5 g6
  · exact rdo_10 n a b w g3 g4 h3 g5 h5 g6
  · exact rdo_11 n a b w g3 g4 h3 g5 h5 g6
  · exact rdo_12 n a b w g3 g4 h3 g5 h5 g6
  · exact rdo_13 n a b w g3 g4 h3 g5 h5 g6
theorem rdo_yes (op n a b : Int) (w : World) (g : good op n a b = true) (h3 : 0 ≤ a) (h5 : 0 ≤ b) (h : has op n a b = true) : Calls Try.prog 114 #[.int .i64 op, .int .i64 n, .int .u32 a, .int .u32 b] w fun e w' => e = .returned (.tuple #[.int .u32 (tot op n a b), .bool true]) ∧ Dr w w' :=
  (rdo_all op n a b w g h3 h5).mono fun e w' hh => ⟨by rw [hh.1, h]; rfl, hh.2⟩
theorem rdo_nope (op n a b : Int) (w : World) (g : good op n a b = true) (h3 : 0 ≤ a) (h5 : 0 ≤ b) (h : has op n a b = false) : Calls Try.prog 114 #[.int .i64 op, .int .i64 n, .int .u32 a, .int .u32 b] w fun e w' => e = .returned (.tuple #[.int .u32 0, .bool false]) ∧ Dr w w' :=
  (rdo_all op n a b w g h3 h5).mono fun e w' hh => ⟨by rw [hh.1, h]; rfl, hh.2⟩

/-- What Do returns. -/
def doV (op n a b : Int) : Value := if good op n a b = true then (if has op n a b = true then .tuple #[.int .u32 (tot op n a b), .bool true, .int .i64 0] else .tuple #[.int .u32 0, .bool false, .int .i64 0]) else .tuple #[.int .u32 0, .bool false, .int .i64 1]
/-- What Total returns. -/
def totV (op n a b : Int) : Value := if good op n a b = true then .tuple #[.int .u32 (tot op n a b), .int .i64 0] else .tuple #[.int .u32 0, .int .i64 1]

theorem ret_t {x y : Int} {v : Value} (h : y = x) : Ending.returned (.tuple #[.int .u32 x, v]) = .returned (.tuple #[.int .u32 y, v]) := by rw [h]
set_option maxHeartbeats 1000000 in
theorem rTotal_nope (op n a b : Int) (w : World) (g : good op n a b = true) (h3 : 0 ≤ a) (h5 : 0 ≤ b) (h : has op n a b = false) : Calls Try.prog 88 #[.int .i64 op, .int .i64 n, .int .u32 a, .int .u32 b] w fun e w' => e = .returned (.tuple #[.int .u32 (tot op n a b), .int .i64 0]) ∧ Dr w w' := by
  obtain ⟨g1, g2, g3, g4, g5, g6⟩ := (good_iff _ _ _ _).1 g
  have hp := pw_le32 g4
  have hp0 := pw_pos n
  have o : op = 4 ∨ op = 5 ∨ op = 6 ∨ op = 7 ∨ op = 11 ∨ op = 12 ∨ op = 13 := by
    by_cases o1 : op = 4 ∨ op = 5
    · omega
    by_cases o2 : op = 6 ∨ op = 7
    · omega
    by_cases o3 : op = 11 ∨ op = 12 ∨ op = 13
    · omega
    simp [has, o1, o2, o3] at h
  rcases o with rfl | rfl | rfl | rfl | rfl | rfl | rfl
  · have hb : b = 0 := by simpa [has] using h
    have hv : tot 4 n a b = pw n - 1 := by simp [tot, hb]
    rw [hv]
    clear hv hb
    go_enter Try.func88, Try.ntmps88
    go_wp2_with (first | (go_at_call 113; refine (rtwo_ok _ _ _ _ _ (by assumption) (by omega) (by omega) (by omega) (by omega)).mono ?_; rintro e w' ⟨rfl, rfl⟩) | (go_at_call 114; refine (rdo_nope _ _ _ _ _ (by assumption) (by omega) (by omega) (by assumption)).mono ?_; rintro e w' ⟨rfl, hd1⟩) | (go_at_call 108; refine (size_any _ _ (by omega) (by omega)).mono ?_; rintro e w' ⟨rfl, rfl⟩) | (go_at_call 111; refine (rSign_any _ _ _ (by omega) (by omega) (by omega) (by omega)).mono ?_; rintro e w' ⟨rfl, rfl⟩))
    go_ret2
    exact ⟨rfl, hd1⟩
  · have hb : b = 0 := by simpa [has] using h
    have hv : tot 5 n a b = a := by simp [tot, hb]
    rw [hv]
    clear hv hb
    go_enter Try.func88, Try.ntmps88
    go_wp2_with (first | (go_at_call 113; refine (rtwo_ok _ _ _ _ _ (by assumption) (by omega) (by omega) (by omega) (by omega)).mono ?_; rintro e w' ⟨rfl, rfl⟩) | (go_at_call 114; refine (rdo_nope _ _ _ _ _ (by assumption) (by omega) (by omega) (by assumption)).mono ?_; rintro e w' ⟨rfl, hd1⟩) | (go_at_call 108; refine (size_any _ _ (by omega) (by omega)).mono ?_; rintro e w' ⟨rfl, rfl⟩) | (go_at_call 111; refine (rSign_any _ _ _ (by omega) (by omega) (by omega) (by omega)).mono ?_; rintro e w' ⟨rfl, rfl⟩))
    go_ret2
    exact ⟨rfl, hd1⟩
  · by_cases hb : b = 0
    · have hb2 : (b != 0) = false := by simpa using hb
      rcases Int.lt_or_le (sgn n a) 0 with hs | hs
      · have hv : tot 6 n a b = 1 := by simp [tot, hb, hs]
        rw [hv]
        clear hv hb
        go_enter Try.func88, Try.ntmps88
        go_wp2_with (first | (go_at_call 113; refine (rtwo_ok _ _ _ _ _ (by assumption) (by omega) (by omega) (by omega) (by omega)).mono ?_; rintro e w' ⟨rfl, rfl⟩) | (go_at_call 114; refine (rdo_nope _ _ _ _ _ (by assumption) (by omega) (by omega) (by assumption)).mono ?_; rintro e w' ⟨rfl, hd1⟩) | (go_at_call 108; refine (size_any _ _ (by omega) (by omega)).mono ?_; rintro e w' ⟨rfl, rfl⟩) | (go_at_call 111; refine (rSign_any _ _ _ (by omega) (by omega) (by omega) (by omega)).mono ?_; rintro e w' ⟨rfl, rfl⟩))
        go_ret2
        exact ⟨rfl, hd1⟩
      · have hv : tot 6 n a b = pw n - 1 := by simp [tot, hb]; intro; omega
        rw [hv]
        clear hv hb
        go_enter Try.func88, Try.ntmps88
        go_wp2_with (first | (go_at_call 113; refine (rtwo_ok _ _ _ _ _ (by assumption) (by omega) (by omega) (by omega) (by omega)).mono ?_; rintro e w' ⟨rfl, rfl⟩) | (go_at_call 114; refine (rdo_nope _ _ _ _ _ (by assumption) (by omega) (by omega) (by assumption)).mono ?_; rintro e w' ⟨rfl, hd1⟩) | (go_at_call 108; refine (size_any _ _ (by omega) (by omega)).mono ?_; rintro e w' ⟨rfl, rfl⟩) | (go_at_call 111; refine (rSign_any _ _ _ (by omega) (by omega) (by omega) (by omega)).mono ?_; rintro e w' ⟨rfl, rfl⟩))
        go_ret2
        exact ⟨rfl, hd1⟩
    · have hb2 : (b != 0) = true := by simpa using hb
      have hx : sgn n a = -pw (n - 1) ∧ sgn n b = -1 := by simpa [has, hb] using h
      have hv : tot 6 n a b = a := by simp [tot, hb, hx]
      rw [hv]
      clear hv hb hx
      go_enter Try.func88, Try.ntmps88
      go_wp2_with (first | (go_at_call 113; refine (rtwo_ok _ _ _ _ _ (by assumption) (by omega) (by omega) (by omega) (by omega)).mono ?_; rintro e w' ⟨rfl, rfl⟩) | (go_at_call 114; refine (rdo_nope _ _ _ _ _ (by assumption) (by omega) (by omega) (by assumption)).mono ?_; rintro e w' ⟨rfl, hd1⟩) | (go_at_call 108; refine (size_any _ _ (by omega) (by omega)).mono ?_; rintro e w' ⟨rfl, rfl⟩) | (go_at_call 111; refine (rSign_any _ _ _ (by omega) (by omega) (by omega) (by omega)).mono ?_; rintro e w' ⟨rfl, rfl⟩))
      go_ret2
      exact ⟨rfl, hd1⟩
  · by_cases hb : b = 0
    · have hb2 : (b != 0) = false := by simpa using hb
      have hv : tot 7 n a b = a := by simp [tot, hb]
      rw [hv]
      clear hv hb
      go_enter Try.func88, Try.ntmps88
      go_wp2_with (first | (go_at_call 113; refine (rtwo_ok _ _ _ _ _ (by assumption) (by omega) (by omega) (by omega) (by omega)).mono ?_; rintro e w' ⟨rfl, rfl⟩) | (go_at_call 114; refine (rdo_nope _ _ _ _ _ (by assumption) (by omega) (by omega) (by assumption)).mono ?_; rintro e w' ⟨rfl, hd1⟩) | (go_at_call 108; refine (size_any _ _ (by omega) (by omega)).mono ?_; rintro e w' ⟨rfl, rfl⟩) | (go_at_call 111; refine (rSign_any _ _ _ (by omega) (by omega) (by omega) (by omega)).mono ?_; rintro e w' ⟨rfl, rfl⟩))
      go_ret2
      exact ⟨rfl, hd1⟩
    · have hb2 : (b != 0) = true := by simpa using hb
      have hx : sgn n a = -pw (n - 1) ∧ sgn n b = -1 := by simpa [has, hb] using h
      have hv : tot 7 n a b = 0 := by simp [tot, hb, hx]
      rw [hv]
      clear hv hb hx
      go_enter Try.func88, Try.ntmps88
      go_wp2_with (first | (go_at_call 113; refine (rtwo_ok _ _ _ _ _ (by assumption) (by omega) (by omega) (by omega) (by omega)).mono ?_; rintro e w' ⟨rfl, rfl⟩) | (go_at_call 114; refine (rdo_nope _ _ _ _ _ (by assumption) (by omega) (by omega) (by assumption)).mono ?_; rintro e w' ⟨rfl, hd1⟩) | (go_at_call 108; refine (size_any _ _ (by omega) (by omega)).mono ?_; rintro e w' ⟨rfl, rfl⟩) | (go_at_call 111; refine (rSign_any _ _ _ (by omega) (by omega) (by omega) (by omega)).mono ?_; rintro e w' ⟨rfl, rfl⟩))
      go_ret2
      exact ⟨rfl, hd1⟩
  · have hb : n ≤ b := by simpa [has] using h
    have hv : tot 11 n a b = 0 := by simp [tot, hb]
    rw [hv]
    clear hv
    go_enter Try.func88, Try.ntmps88
    go_wp2_with (first | (go_at_call 113; refine (rtwo_ok _ _ _ _ _ (by assumption) (by omega) (by omega) (by omega) (by omega)).mono ?_; rintro e w' ⟨rfl, rfl⟩) | (go_at_call 114; refine (rdo_nope _ _ _ _ _ (by assumption) (by omega) (by omega) (by assumption)).mono ?_; rintro e w' ⟨rfl, hd1⟩) | (go_at_call 108; refine (size_any _ _ (by omega) (by omega)).mono ?_; rintro e w' ⟨rfl, rfl⟩) | (go_at_call 111; refine (rSign_any _ _ _ (by omega) (by omega) (by omega) (by omega)).mono ?_; rintro e w' ⟨rfl, rfl⟩))
    go_ret2
    exact ⟨rfl, hd1⟩
  · have hb : n ≤ b := by simpa [has] using h
    have hv : tot 12 n a b = 0 := by simp [tot, hb]
    rw [hv]
    clear hv
    go_enter Try.func88, Try.ntmps88
    go_wp2_with (first | (go_at_call 113; refine (rtwo_ok _ _ _ _ _ (by assumption) (by omega) (by omega) (by omega) (by omega)).mono ?_; rintro e w' ⟨rfl, rfl⟩) | (go_at_call 114; refine (rdo_nope _ _ _ _ _ (by assumption) (by omega) (by omega) (by assumption)).mono ?_; rintro e w' ⟨rfl, hd1⟩) | (go_at_call 108; refine (size_any _ _ (by omega) (by omega)).mono ?_; rintro e w' ⟨rfl, rfl⟩) | (go_at_call 111; refine (rSign_any _ _ _ (by omega) (by omega) (by omega) (by omega)).mono ?_; rintro e w' ⟨rfl, rfl⟩))
    go_ret2
    exact ⟨rfl, hd1⟩
  · have hb : n ≤ b := by simpa [has] using h
    rcases Int.lt_or_le (sgn n a) 0 with hs | hs
    · have hv : tot 13 n a b = pw n - 1 := by simp [tot, hb, hs]
      rw [hv]
      clear hv hb
      go_enter Try.func88, Try.ntmps88
      go_wp2_with (first | (go_at_call 113; refine (rtwo_ok _ _ _ _ _ (by assumption) (by omega) (by omega) (by omega) (by omega)).mono ?_; rintro e w' ⟨rfl, rfl⟩) | (go_at_call 114; refine (rdo_nope _ _ _ _ _ (by assumption) (by omega) (by omega) (by assumption)).mono ?_; rintro e w' ⟨rfl, hd1⟩) | (go_at_call 108; refine (size_any _ _ (by omega) (by omega)).mono ?_; rintro e w' ⟨rfl, rfl⟩) | (go_at_call 111; refine (rSign_any _ _ _ (by omega) (by omega) (by omega) (by omega)).mono ?_; rintro e w' ⟨rfl, rfl⟩))
      go_ret2
      exact ⟨rfl, hd1⟩
    · have hv : tot 13 n a b = 0 := by simp [tot, hb]; intro; omega
      rw [hv]
      clear hv hb
      go_enter Try.func88, Try.ntmps88
      go_wp2_with (first | (go_at_call 113; refine (rtwo_ok _ _ _ _ _ (by assumption) (by omega) (by omega) (by omega) (by omega)).mono ?_; rintro e w' ⟨rfl, rfl⟩) | (go_at_call 114; refine (rdo_nope _ _ _ _ _ (by assumption) (by omega) (by omega) (by assumption)).mono ?_; rintro e w' ⟨rfl, hd1⟩) | (go_at_call 108; refine (size_any _ _ (by omega) (by omega)).mono ?_; rintro e w' ⟨rfl, rfl⟩) | (go_at_call 111; refine (rSign_any _ _ _ (by omega) (by omega) (by omega) (by omega)).mono ?_; rintro e w' ⟨rfl, rfl⟩))
      go_ret2
      exact ⟨rfl, hd1⟩

theorem rTotal_any (op n a b : Int) (w : World) (h3 : 0 ≤ a) (h4 : a ≤ 4294967295) (h5 : 0 ≤ b) (h6 : b ≤ 4294967295) : Calls Try.prog 88 #[.int .i64 op, .int .i64 n, .int .u32 a, .int .u32 b] w fun e w' => e = .returned (totV op n a b) ∧ Dr w w' := by
  by_cases g : good op n a b = true
  · have hv : totV op n a b = .tuple #[.int .u32 (tot op n a b), .int .i64 0] := by simp [totV, g]
    rw [hv]
    clear hv
    by_cases h : has op n a b = true
    · go_enter Try.func88, Try.ntmps88
      go_wp2_with (first | (go_at_call 113; refine (rtwo_ok _ _ _ _ _ (by assumption) (by omega) (by omega) (by omega) (by omega)).mono ?_; rintro e w' ⟨rfl, rfl⟩) | (go_at_call 114; refine (rdo_yes _ _ _ _ _ (by assumption) (by omega) (by omega) (by assumption)).mono ?_; rintro e w' ⟨rfl, hd1⟩))
      go_ret2
      exact ⟨rfl, hd1⟩
    · exact rTotal_nope op n a b w g h3 h5 (by simpa using h)
  · have g : good op n a b = false := by simpa using g
    have hv : totV op n a b = .tuple #[.int .u32 0, .int .i64 1] := by simp [totV, g]
    rw [hv]
    clear hv
    go_enter Try.func88, Try.ntmps88
    go_wp2_with (first | (go_at_call 113; refine (rtwo_no _ _ _ _ _ (by assumption) (by omega) (by omega) (by omega) (by omega)).mono ?_; rintro e w' ⟨rfl, rfl⟩))
    go_ret2
    exact ⟨rfl, Dr.refl _⟩

end Go.Proofs.Ythopdfikikdcbaa
