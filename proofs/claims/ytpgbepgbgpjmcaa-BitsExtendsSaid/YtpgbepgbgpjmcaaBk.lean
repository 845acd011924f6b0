/- Mask, Signed, Of, Extend of both sides, and the walks of the statements BitsWords and BitsExtends. -/
import Derived.Test.YtpgbepgbgpjmcaaBj
import Derived.Test.YtpgbepgbgpjmcaaRing
namespace Go.Proofs.Ytpgbepgbgpjmcaa
open Go.RowKit Wd
set_option linter.unusedVariables false
set_option linter.unusedSimpArgs false
def mkX (n : Int) : Int := if isW n = true then pw n - 1 else 0
def mkE (n : Int) : Int := if isW n = true then 0 else 1
def sgX (n x : Int) : Int := if (isW n && fit n x) = true then sgn n x else 0
def sgE (n x : Int) : Int := if (isW n && fit n x) = true then 0 else 1
def ofX (n x : Int) : Int := if isW n = true then wr n x else 0
def exX (op m n x : Int) : Int := if goodX op m n x = true then extV op m n x else 0
def exE (op m n x : Int) : Int := if goodX op m n x = true then 0 else 1

theorem pMask (n : Int) (w : World) : Calls Try.prog 22 #[.int .i64 n] w fun e w' => e = .returned (.tuple #[.int .u32 (mkX n), .int .i64 (mkE n)]) ∧ w = w' := by
  by_cases hw : isW n = true
  · have hv : mkX n = pw n - 1 := by simp [mkX, hw]
    rw [hv]
    clear hv
    have hv : mkE n = 0 := by simp [mkE, hw]
    rw [hv]
    clear hv
    have h12 : 1 ≤ n ∧ n ≤ 32 := by simpa [isW] using hw
    obtain ⟨h1, h2⟩ := h12
    have hp := pw_le32 h2
    have hp0 := pw_pos n
    go_enter Try.func22, Try.ntmps22
    go_wp2_with (first | (go_at_call 45; refine (isWidth_any _ _).mono ?_; rintro e w' ⟨rfl, rfl⟩) | (go_at_call 42; refine (mask_any _ _ (by assumption) (by assumption)).mono ?_; rintro e w' ⟨rfl, rfl⟩))
    go_ret2
    exact ⟨rfl, rfl⟩
  · have hw : isW n = false := by simpa using hw
    have hv : mkX n = 0 := by simp [mkX, hw]
    rw [hv]
    clear hv
    have hv : mkE n = 1 := by simp [mkE, hw]
    rw [hv]
    clear hv
    go_enter Try.func22, Try.ntmps22
    go_wp2_with (first | (go_at_call 45; refine (isWidth_any _ _).mono ?_; rintro e w' ⟨rfl, rfl⟩) | (go_at_call 42; refine (mask_any _ _ (by assumption) (by assumption)).mono ?_; rintro e w' ⟨rfl, rfl⟩))
    go_ret2
    exact ⟨rfl, rfl⟩

theorem rMask (n : Int) (w : World) : Calls Try.prog 23 #[.int .i64 n] w fun e w' => e = .returned (.tuple #[.int .u32 (mkX n), .int .i64 (mkE n)]) ∧ w = w' := by
  by_cases hw : isW n = true
  · have hv : mkX n = pw n - 1 := by simp [mkX, hw]
    rw [hv]
    clear hv
    have hv : mkE n = 0 := by simp [mkE, hw]
    rw [hv]
    clear hv
    have h12 : 1 ≤ n ∧ n ≤ 32 := by simpa [isW] using hw
    obtain ⟨h1, h2⟩ := h12
    have hp := pw_le32 h2
    have hp0 := pw_pos n
    go_enter Try.func23, Try.ntmps23
    go_wp2_with (first | (go_at_call 44; refine (rIsWidth_any _ _).mono ?_; rintro e w' ⟨rfl, rfl⟩) | (go_at_call 39; refine (size_any _ _ (by omega) (by omega)).mono ?_; rintro e w' ⟨rfl, rfl⟩))
    go_ret2
    exact ⟨rfl, rfl⟩
  · have hw : isW n = false := by simpa using hw
    have hv : mkX n = 0 := by simp [mkX, hw]
    rw [hv]
    clear hv
    have hv : mkE n = 1 := by simp [mkE, hw]
    rw [hv]
    clear hv
    go_enter Try.func23, Try.ntmps23
    go_wp2_with (first | (go_at_call 44; refine (rIsWidth_any _ _).mono ?_; rintro e w' ⟨rfl, rfl⟩) | (go_at_call 39; refine (size_any _ _ (by omega) (by omega)).mono ?_; rintro e w' ⟨rfl, rfl⟩))
    go_ret2
    exact ⟨rfl, rfl⟩

theorem pSigned (n x : Int) (h0 : 0 ≤ x) (h4 : x ≤ 4294967295) (w : World) : Calls Try.prog 24 #[.int .i64 n, .int .u32 x] w fun e w' => e = .returned (.tuple #[.int .i64 (sgX n x), .int .i64 (sgE n x)]) ∧ Below w.heap.size w w' := by
  by_cases hw : (isW n && fit n x) = true
  · have hv : sgX n x = sgn n x := by simp [sgX, hw]
    rw [hv]
    clear hv
    have hv : sgE n x = 0 := by simp [sgE, hw]
    rw [hv]
    clear hv
    have h12 : (1 ≤ n ∧ n ≤ 32) ∧ x < pw n := by simpa [isW, fit] using hw
    obtain ⟨⟨h1, h2⟩, h3⟩ := h12
    go_enter Try.func24, Try.ntmps24
    go_wp2_with (first | (go_at_call 41; refine (fits1 n x _ _ (by simp [go_sem])).mono ?_; rintro e w' ⟨rfl, rfl⟩) | (go_at_call 46; refine (signed_any _ _ _ (by omega) (by omega) (by omega) (by omega)).mono ?_; rintro e w' ⟨rfl, rfl⟩))
    go_ret2
    exact ⟨rfl, (Below.refl _ _).alloc (Nat.le_refl _) _⟩
  · have hw : (isW n && fit n x) = false := by simpa using hw
    have hv : sgX n x = 0 := by simp [sgX, hw]
    rw [hv]
    clear hv
    have hv : sgE n x = 1 := by simp [sgE, hw]
    rw [hv]
    clear hv
    go_enter Try.func24, Try.ntmps24
    go_wp2_with (first | (go_at_call 41; refine (fits1 n x _ _ (by simp [go_sem])).mono ?_; rintro e w' ⟨rfl, rfl⟩) | (go_at_call 46; refine (signed_any _ _ _ (by omega) (by omega) (by omega) (by omega)).mono ?_; rintro e w' ⟨rfl, rfl⟩))
    go_ret2
    exact ⟨rfl, (Below.refl _ _).alloc (Nat.le_refl _) _⟩

theorem rSigned (n x : Int) (h0 : 0 ≤ x) (h4 : x ≤ 4294967295) (w : World) : Calls Try.prog 25 #[.int .i64 n, .int .u32 x] w fun e w' => e = .returned (.tuple #[.int .i64 (sgX n x), .int .i64 (sgE n x)]) ∧ w = w' := by
  by_cases hw : (isW n && fit n x) = true
  · have hv : sgX n x = sgn n x := by simp [sgX, hw]
    rw [hv]
    clear hv
    have hv : sgE n x = 0 := by simp [sgE, hw]
    rw [hv]
    clear hv
    have h12 : (1 ≤ n ∧ n ≤ 32) ∧ x < pw n := by simpa [isW, fit] using hw
    obtain ⟨⟨h1, h2⟩, h3⟩ := h12
    go_enter Try.func25, Try.ntmps25
    go_wp2_with (first | (go_at_call 18; refine (rIsWord_any _ _ _ (by omega) (by omega)).mono ?_; rintro e w' ⟨rfl, rfl⟩) | (go_at_call 40; refine (rSign_any _ _ _ (by omega) (by omega) (by omega) (by omega)).mono ?_; rintro e w' ⟨rfl, rfl⟩))
    go_ret2
    exact ⟨rfl, rfl⟩
  · have hw : (isW n && fit n x) = false := by simpa using hw
    have hv : sgX n x = 0 := by simp [sgX, hw]
    rw [hv]
    clear hv
    have hv : sgE n x = 1 := by simp [sgE, hw]
    rw [hv]
    clear hv
    go_enter Try.func25, Try.ntmps25
    go_wp2_with (first | (go_at_call 18; refine (rIsWord_any _ _ _ (by omega) (by omega)).mono ?_; rintro e w' ⟨rfl, rfl⟩) | (go_at_call 40; refine (rSign_any _ _ _ (by omega) (by omega) (by omega) (by omega)).mono ?_; rintro e w' ⟨rfl, rfl⟩))
    go_ret2
    exact ⟨rfl, rfl⟩

theorem pOf (n x : Int) (w : World) : Calls Try.prog 26 #[.int .i64 n, .int .i64 x] w fun e w' => e = .returned (.tuple #[.int .u32 (ofX n x), .int .i64 (mkE n)]) ∧ w = w' := by
  by_cases hw : isW n = true
  · have hv : ofX n x = wr n x := by simp [ofX, hw]
    rw [hv]
    clear hv
    have hv : mkE n = 0 := by simp [mkE, hw]
    rw [hv]
    clear hv
    have h12 : 1 ≤ n ∧ n ≤ 32 := by simpa [isW] using hw
    obtain ⟨h1, h2⟩ := h12
    have hp := pw_le32 h2
    have hp0 := pw_pos n
    have hm := mask_wr h2 x
    go_enter Try.func26, Try.ntmps26
    go_wp2_with (first | (go_at_call 45; refine (isWidth_any _ _).mono ?_; rintro e w' ⟨rfl, rfl⟩) | (go_at_call 42; refine (mask_any _ _ (by assumption) (by assumption)).mono ?_; rintro e w' ⟨rfl, rfl⟩))
    go_ret2
    exact ⟨rfl, rfl⟩
  · have hw : isW n = false := by simpa using hw
    have hv : ofX n x = 0 := by simp [ofX, hw]
    rw [hv]
    clear hv
    have hv : mkE n = 1 := by simp [mkE, hw]
    rw [hv]
    clear hv
    go_enter Try.func26, Try.ntmps26
    go_wp2_with (first | (go_at_call 45; refine (isWidth_any _ _).mono ?_; rintro e w' ⟨rfl, rfl⟩) | (go_at_call 42; refine (mask_any _ _ (by assumption) (by assumption)).mono ?_; rintro e w' ⟨rfl, rfl⟩))
    go_ret2
    exact ⟨rfl, rfl⟩

theorem rOf (n x : Int) (_h3 : -9223372036854775808 ≤ x) (_h4 : x ≤ 9223372036854775807) (w : World) : Calls Try.prog 27 #[.int .i64 n, .int .i64 x] w fun e w' => e = .returned (.tuple #[.int .u32 (ofX n x), .int .i64 (mkE n)]) ∧ w = w' := by
  by_cases hw : isW n = true
  · have hv : ofX n x = wr n x := by simp [ofX, hw]
    rw [hv]
    clear hv
    have hv : mkE n = 0 := by simp [mkE, hw]
    rw [hv]
    clear hv
    have h12 : 1 ≤ n ∧ n ≤ 32 := by simpa [isW] using hw
    obtain ⟨h1, h2⟩ := h12
    have hp := pw_le32 h2
    have hp0 := pw_pos n
    go_enter Try.func27, Try.ntmps27
    go_wp2_with (first | (go_at_call 44; refine (rIsWidth_any _ _).mono ?_; rintro e w' ⟨rfl, rfl⟩) | (go_at_call 43; refine (rWrap_any _ _ _ (by omega) (by omega) (by omega) (by omega)).mono ?_; rintro e w' ⟨rfl, rfl⟩))
    go_ret2
    exact ⟨rfl, rfl⟩
  · have hw : isW n = false := by simpa using hw
    have hv : ofX n x = 0 := by simp [ofX, hw]
    rw [hv]
    clear hv
    have hv : mkE n = 1 := by simp [mkE, hw]
    rw [hv]
    clear hv
    go_enter Try.func27, Try.ntmps27
    go_wp2_with (first | (go_at_call 44; refine (rIsWidth_any _ _).mono ?_; rintro e w' ⟨rfl, rfl⟩) | (go_at_call 43; refine (rWrap_any _ _ _ (by omega) (by omega) (by omega) (by omega)).mono ?_; rintro e w' ⟨rfl, rfl⟩))
    go_ret2
    exact ⟨rfl, rfl⟩

theorem wWords (n x y : Int) (w : World) (h3 : 0 ≤ x) (h4 : x ≤ 4294967295) (h5 : -9223372036854775808 ≤ y) (h6 : y ≤ 9223372036854775807) : Calls Try.prog 8 #[.int .i64 n, .int .u32 x, .int .i64 y] w fun e w' => e = .returned (.bool true) ∧ Below w.heap.size w w' := by
  have h00 := Since.refl w
  by_cases hw : (isW n && fit n x) = true
  · have h12 : (1 ≤ n ∧ n ≤ 32) ∧ x < pw n := by simpa [isW, fit] using hw
    have s1 : sgE n x = 0 := by simp [sgE, hw]
    have s2 : sgX n x = sgn n x := by simp [sgX, hw]
    have s3 : ofX n (sgn n x) = x := by
      have hq : isW n = true := by simp [isW, h12.1]
      simp only [ofX, hq, if_true]
      rw [wr_sgn, wr_small h3 h12.2]
    have s4 : mkE n = 0 := by
      have hq : isW n = true := by simp [isW, h12.1]
      simp [mkE, hq]
    have x1 := sgn_lo32 (n := n) (a := x) h12.1.1 h12.1.2 h3
    have x2 := sgn_hi32 (n := n) (a := x) h12.1.1 h12.1.2 h12.2
    clear hw h12
    go_enter Try.func8, Try.ntmps8
    go_wp2_with (first | (go_at_call 22; refine (acc_e (pMask _ _) (by assumption)).mono ?_; rintro e w' ⟨rfl, hb⟩) | (go_at_call 23; refine (acc_e (rMask _ _) (by assumption)).mono ?_; rintro e w' ⟨rfl, hb⟩) | (go_at_call 24; refine (acc_p (pSigned _ _ (by omega) (by omega) _) (by assumption)).mono ?_; rintro e w' ⟨rfl, hb⟩) | (go_at_call 25; refine (acc_e (rSigned _ _ (by omega) (by omega) _) (by assumption)).mono ?_; rintro e w' ⟨rfl, hb⟩) | (go_at_call 26; refine (acc_e (pOf _ _ _) (by assumption)).mono ?_; rintro e w' ⟨rfl, hb⟩) | (go_at_call 27; refine (acc_e (rOf _ _ (by omega) (by omega) _) (by assumption)).mono ?_; rintro e w' ⟨rfl, hb⟩) | (go_at_call 13; refine (acc_p (known_any _) (by assumption)).mono ?_; rintro e w' ⟨rfl, hb⟩))
    go_ret
    exact ⟨rfl, ‹_›⟩
  · have hw : (isW n && fit n x) = false := by simpa using hw
    have s1 : sgE n x = 1 := by simp [sgE, hw]
    clear hw
    go_enter Try.func8, Try.ntmps8
    go_wp2_with (first | (go_at_call 22; refine (acc_e (pMask _ _) (by assumption)).mono ?_; rintro e w' ⟨rfl, hb⟩) | (go_at_call 23; refine (acc_e (rMask _ _) (by assumption)).mono ?_; rintro e w' ⟨rfl, hb⟩) | (go_at_call 24; refine (acc_p (pSigned _ _ (by omega) (by omega) _) (by assumption)).mono ?_; rintro e w' ⟨rfl, hb⟩) | (go_at_call 25; refine (acc_e (rSigned _ _ (by omega) (by omega) _) (by assumption)).mono ?_; rintro e w' ⟨rfl, hb⟩) | (go_at_call 26; refine (acc_e (pOf _ _ _) (by assumption)).mono ?_; rintro e w' ⟨rfl, hb⟩) | (go_at_call 27; refine (acc_e (rOf _ _ (by omega) (by omega) _) (by assumption)).mono ?_; rintro e w' ⟨rfl, hb⟩) | (go_at_call 13; refine (acc_p (known_any _) (by assumption)).mono ?_; rintro e w' ⟨rfl, hb⟩))
    go_ret
    exact ⟨rfl, ‹_›⟩

set_option maxHeartbeats 1000000 in
theorem pExtend (op m n x : Int) (h0 : 0 ≤ x) (h4 : x ≤ 4294967295) (w : World) : Calls Try.prog 20 #[.int .i64 op, .int .i64 m, .int .i64 n, .int .u32 x] w fun e w' => e = .returned (.tuple #[.int .u32 (exX op m n x), .int .i64 (exE op m n x)]) ∧ Below w.heap.size w w' := by
  by_cases g : goodX op m n x = true
  · obtain ⟨g1, g2, g3, g4, g5, g6⟩ := (goodX_iff _ _ _ _).1 g
    have e2 : exE op m n x = 0 := by simp [exE, g]
    have e1 : exX op m n x = extV op m n x := by simp [exX, g]
    rw [e1, e2]
    have hm : isW m = true := by simp [isW, g1, g2]
    have hn : isW n = true := by simp [isW, g4, g5]
    have fx : fit m x = true := by simp [fit, g3]
    have q1 := sgn_lo32 (n := m) (a := x) g1 g2 h0
    have q2 := sgn_hi32 (n := m) (a := x) g1 g2 g3
    have k1 := mask_wr g5 (sgn m x)
    have k2 := mask_fit g5 h0 h4
    have pn := pw_le32 g5
    rcases g6 with ⟨rfl | rfl, g7⟩ | ⟨rfl, g7⟩
    · have e3 : extV 16 m n x = x := by
        show wr n x = x
        exact wr_small h0 (by have := pw_mono (m := m) (n := n) (by omega); omega)
      have e4 : wr n x = x := e3
      rw [e3]
      clear e1 e2 e3 g k2
      go_enter Try.func20, Try.ntmps20
      go_wp2_with (first | (go_at_call 41; refine (fits1 m x _ _ (by simp [go_sem])).mono ?_; rintro e w' ⟨rfl, rfl⟩) | (go_at_call 45; refine (isWidth_any _ _).mono ?_; rintro e w' ⟨rfl, rfl⟩) | (go_at_call 42; refine (mask_any _ _ (by assumption) (by assumption)).mono ?_; rintro e w' ⟨rfl, rfl⟩) | (go_at_call 46; refine (signed_any _ _ _ (by omega) (by omega) (by omega) (by omega)).mono ?_; rintro e w' ⟨rfl, rfl⟩))
      all_goals go_ret2
      all_goals exact ⟨rfl, (Below.refl _ _).alloc (Nat.le_refl _) _⟩
    · have e3 : extV 17 m n x = wr n (sgn m x) := rfl
      rw [e3]
      clear e1 e2 e3 g
      go_enter Try.func20, Try.ntmps20
      go_wp2_with (first | (go_at_call 41; refine (fits1 m x _ _ (by simp [go_sem])).mono ?_; rintro e w' ⟨rfl, rfl⟩) | (go_at_call 45; refine (isWidth_any _ _).mono ?_; rintro e w' ⟨rfl, rfl⟩) | (go_at_call 42; refine (mask_any _ _ (by assumption) (by assumption)).mono ?_; rintro e w' ⟨rfl, rfl⟩) | (go_at_call 46; refine (signed_any _ _ _ (by omega) (by omega) (by omega) (by omega)).mono ?_; rintro e w' ⟨rfl, rfl⟩))
      all_goals go_ret2
      all_goals exact ⟨rfl, (Below.refl _ _).alloc (Nat.le_refl _) _⟩
    · have e3 : extV 18 m n x = wr n x := rfl
      rw [e3]
      clear e1 e2 e3 g
      go_enter Try.func20, Try.ntmps20
      go_wp2_with (first | (go_at_call 41; refine (fits1 m x _ _ (by simp [go_sem])).mono ?_; rintro e w' ⟨rfl, rfl⟩) | (go_at_call 45; refine (isWidth_any _ _).mono ?_; rintro e w' ⟨rfl, rfl⟩) | (go_at_call 42; refine (mask_any _ _ (by assumption) (by assumption)).mono ?_; rintro e w' ⟨rfl, rfl⟩) | (go_at_call 46; refine (signed_any _ _ _ (by omega) (by omega) (by omega) (by omega)).mono ?_; rintro e w' ⟨rfl, rfl⟩))
      all_goals go_ret2
      all_goals exact ⟨rfl, (Below.refl _ _).alloc (Nat.le_refl _) _⟩
  · have e2 : exE op m n x = 1 := by simp [exE, g]
    have e1 : exX op m n x = 0 := by simp [exX, g]
    rw [e1, e2]
    clear e1 e2
    cases hm : isW m
    · clear g
      go_enter Try.func20, Try.ntmps20
      go_wp2_with (first | (go_at_call 41; refine (fits1 m x _ _ (by simp [go_sem])).mono ?_; rintro e w' ⟨rfl, rfl⟩) | (go_at_call 45; refine (isWidth_any _ _).mono ?_; rintro e w' ⟨rfl, rfl⟩) | (go_at_call 42; refine (mask_any _ _ (by assumption) (by assumption)).mono ?_; rintro e w' ⟨rfl, rfl⟩) | (go_at_call 46; refine (signed_any _ _ _ (by omega) (by omega) (by omega) (by omega)).mono ?_; rintro e w' ⟨rfl, rfl⟩))
      all_goals go_ret2
      all_goals exact ⟨rfl, (Below.refl _ _).alloc (Nat.le_refl _) _⟩
    · cases fx : fit m x
      · clear g
        go_enter Try.func20, Try.ntmps20
        go_wp2_with (first | (go_at_call 41; refine (fits1 m x _ _ (by simp [go_sem])).mono ?_; rintro e w' ⟨rfl, rfl⟩) | (go_at_call 45; refine (isWidth_any _ _).mono ?_; rintro e w' ⟨rfl, rfl⟩) | (go_at_call 42; refine (mask_any _ _ (by assumption) (by assumption)).mono ?_; rintro e w' ⟨rfl, rfl⟩) | (go_at_call 46; refine (signed_any _ _ _ (by omega) (by omega) (by omega) (by omega)).mono ?_; rintro e w' ⟨rfl, rfl⟩))
        all_goals go_ret2
        all_goals exact ⟨rfl, (Below.refl _ _).alloc (Nat.le_refl _) _⟩
      · cases hn : isW n
        · clear g
          go_enter Try.func20, Try.ntmps20
          go_wp2_with (first | (go_at_call 41; refine (fits1 m x _ _ (by simp [go_sem])).mono ?_; rintro e w' ⟨rfl, rfl⟩) | (go_at_call 45; refine (isWidth_any _ _).mono ?_; rintro e w' ⟨rfl, rfl⟩) | (go_at_call 42; refine (mask_any _ _ (by assumption) (by assumption)).mono ?_; rintro e w' ⟨rfl, rfl⟩) | (go_at_call 46; refine (signed_any _ _ _ (by omega) (by omega) (by omega) (by omega)).mono ?_; rintro e w' ⟨rfl, rfl⟩))
          all_goals go_ret2
          all_goals exact ⟨rfl, (Below.refl _ _).alloc (Nat.le_refl _) _⟩
        · have hg : ¬ ((op = 16 ∨ op = 17) ∧ m < n ∨ op = 18 ∧ n < m) := by
            intro h
            apply g
            simp only [isW, fit, decide_eq_true_eq] at hm fx hn
            exact (goodX_iff _ _ _ _).2 ⟨hm.1, hm.2, fx, hn.1, hn.2, h⟩
          clear g
          by_cases o1 : op = 16
          · have c : decide (m < n) = false := by simp; omega
            have c2 : decide (n ≤ m) = true := by simp; omega
            subst o1
            clear hg
            go_enter Try.func20, Try.ntmps20
            go_wp2_with (first | (go_at_call 41; refine (fits1 m x _ _ (by simp [go_sem])).mono ?_; rintro e w' ⟨rfl, rfl⟩) | (go_at_call 45; refine (isWidth_any _ _).mono ?_; rintro e w' ⟨rfl, rfl⟩) | (go_at_call 42; refine (mask_any _ _ (by assumption) (by assumption)).mono ?_; rintro e w' ⟨rfl, rfl⟩) | (go_at_call 46; refine (signed_any _ _ _ (by omega) (by omega) (by omega) (by omega)).mono ?_; rintro e w' ⟨rfl, rfl⟩))
            all_goals go_ret2
            all_goals exact ⟨rfl, (Below.refl _ _).alloc (Nat.le_refl _) _⟩
          · by_cases o2 : op = 17
            · have c : decide (m < n) = false := by simp; omega
              have c2 : decide (n ≤ m) = true := by simp; omega
              subst o2
              clear hg
              go_enter Try.func20, Try.ntmps20
              go_wp2_with (first | (go_at_call 41; refine (fits1 m x _ _ (by simp [go_sem])).mono ?_; rintro e w' ⟨rfl, rfl⟩) | (go_at_call 45; refine (isWidth_any _ _).mono ?_; rintro e w' ⟨rfl, rfl⟩) | (go_at_call 42; refine (mask_any _ _ (by assumption) (by assumption)).mono ?_; rintro e w' ⟨rfl, rfl⟩) | (go_at_call 46; refine (signed_any _ _ _ (by omega) (by omega) (by omega) (by omega)).mono ?_; rintro e w' ⟨rfl, rfl⟩))
              all_goals go_ret2
              all_goals exact ⟨rfl, (Below.refl _ _).alloc (Nat.le_refl _) _⟩
            · by_cases o3 : op = 18
              · have c : decide (n < m) = false := by simp; omega
                have c2 : decide (m ≤ n) = true := by simp; omega
                subst o3
                clear hg
                go_enter Try.func20, Try.ntmps20
                go_wp2_with (first | (go_at_call 41; refine (fits1 m x _ _ (by simp [go_sem])).mono ?_; rintro e w' ⟨rfl, rfl⟩) | (go_at_call 45; refine (isWidth_any _ _).mono ?_; rintro e w' ⟨rfl, rfl⟩) | (go_at_call 42; refine (mask_any _ _ (by assumption) (by assumption)).mono ?_; rintro e w' ⟨rfl, rfl⟩) | (go_at_call 46; refine (signed_any _ _ _ (by omega) (by omega) (by omega) (by omega)).mono ?_; rintro e w' ⟨rfl, rfl⟩))
                all_goals go_ret2
                all_goals exact ⟨rfl, (Below.refl _ _).alloc (Nat.le_refl _) _⟩
              · have b1 : (op == 16) = false := by simpa using o1
                have b2 : (op == 17) = false := by simpa using o2
                have b3 : (op == 18) = false := by simpa using o3
                have b4 : decide (op < 16) = true ∨ decide (18 < op) = true := by simp; omega
                clear hg o1 o2 o3
                rcases b4 with b4 | b4
                · go_enter Try.func20, Try.ntmps20
                  go_wp2_with (first | (go_at_call 41; refine (fits1 m x _ _ (by simp [go_sem])).mono ?_; rintro e w' ⟨rfl, rfl⟩) | (go_at_call 45; refine (isWidth_any _ _).mono ?_; rintro e w' ⟨rfl, rfl⟩) | (go_at_call 42; refine (mask_any _ _ (by assumption) (by assumption)).mono ?_; rintro e w' ⟨rfl, rfl⟩) | (go_at_call 46; refine (signed_any _ _ _ (by omega) (by omega) (by omega) (by omega)).mono ?_; rintro e w' ⟨rfl, rfl⟩))
                  all_goals go_ret2
                  all_goals exact ⟨rfl, (Below.refl _ _).alloc (Nat.le_refl _) _⟩
                · go_enter Try.func20, Try.ntmps20
                  go_wp2_with (first | (go_at_call 41; refine (fits1 m x _ _ (by simp [go_sem])).mono ?_; rintro e w' ⟨rfl, rfl⟩) | (go_at_call 45; refine (isWidth_any _ _).mono ?_; rintro e w' ⟨rfl, rfl⟩) | (go_at_call 42; refine (mask_any _ _ (by assumption) (by assumption)).mono ?_; rintro e w' ⟨rfl, rfl⟩) | (go_at_call 46; refine (signed_any _ _ _ (by omega) (by omega) (by omega) (by omega)).mono ?_; rintro e w' ⟨rfl, rfl⟩))
                  all_goals go_ret2
                  all_goals exact ⟨rfl, (Below.refl _ _).alloc (Nat.le_refl _) _⟩

set_option maxHeartbeats 1000000 in
theorem rExtend (op m n x : Int) (h0 : 0 ≤ x) (h4 : x ≤ 4294967295) (w : World) : Calls Try.prog 21 #[.int .i64 op, .int .i64 m, .int .i64 n, .int .u32 x] w fun e w' => e = .returned (.tuple #[.int .u32 (exX op m n x), .int .i64 (exE op m n x)]) ∧ w = w' := by
  by_cases g : goodX op m n x = true
  · obtain ⟨g1, g2, g3, g4, g5, g6⟩ := (goodX_iff _ _ _ _).1 g
    have e2 : exE op m n x = 0 := by simp [exE, g]
    have e1 : exX op m n x = extV op m n x := by simp [exX, g]
    rw [e1, e2]
    have hm : isW m = true := by simp [isW, g1, g2]
    have hn : isW n = true := by simp [isW, g4, g5]
    have fx : fit m x = true := by simp [fit, g3]
    have q1 := sgn_lo32 (n := m) (a := x) g1 g2 h0
    have q2 := sgn_hi32 (n := m) (a := x) g1 g2 g3
    have k1 := mask_wr g5 (sgn m x)
    have k2 := mask_fit g5 h0 h4
    have pn := pw_le32 g5
    rcases g6 with ⟨rfl | rfl, g7⟩ | ⟨rfl, g7⟩
    · have e3 : extV 16 m n x = x := by
        show wr n x = x
        exact wr_small h0 (by have := pw_mono (m := m) (n := n) (by omega); omega)
      have e4 : wr n x = x := e3
      rw [e3]
      clear e1 e2 e3 g k2
      go_enter Try.func21, Try.ntmps21
      go_wp2_with (first | (go_at_call 44; refine (rIsWidth_any _ _).mono ?_; rintro e w' ⟨rfl, rfl⟩) | (go_at_call 18; refine (rIsWord_any _ _ _ (by omega) (by omega)).mono ?_; rintro e w' ⟨rfl, rfl⟩) | (go_at_call 40; refine (rSign_any _ _ _ (by omega) (by omega) (by omega) (by omega)).mono ?_; rintro e w' ⟨rfl, rfl⟩) | (go_at_call 43; refine (rWrap_any _ _ _ (by omega) (by omega) (by omega) (by omega)).mono ?_; rintro e w' ⟨rfl, rfl⟩))
      all_goals go_ret2
      all_goals exact ⟨rfl, rfl⟩
    · have e3 : extV 17 m n x = wr n (sgn m x) := rfl
      rw [e3]
      clear e1 e2 e3 g
      go_enter Try.func21, Try.ntmps21
      go_wp2_with (first | (go_at_call 44; refine (rIsWidth_any _ _).mono ?_; rintro e w' ⟨rfl, rfl⟩) | (go_at_call 18; refine (rIsWord_any _ _ _ (by omega) (by omega)).mono ?_; rintro e w' ⟨rfl, rfl⟩) | (go_at_call 40; refine (rSign_any _ _ _ (by omega) (by omega) (by omega) (by omega)).mono ?_; rintro e w' ⟨rfl, rfl⟩) | (go_at_call 43; refine (rWrap_any _ _ _ (by omega) (by omega) (by omega) (by omega)).mono ?_; rintro e w' ⟨rfl, rfl⟩))
      all_goals go_ret2
      all_goals exact ⟨rfl, rfl⟩
    · have e3 : extV 18 m n x = wr n x := rfl
      rw [e3]
      clear e1 e2 e3 g
      go_enter Try.func21, Try.ntmps21
      go_wp2_with (first | (go_at_call 44; refine (rIsWidth_any _ _).mono ?_; rintro e w' ⟨rfl, rfl⟩) | (go_at_call 18; refine (rIsWord_any _ _ _ (by omega) (by omega)).mono ?_; rintro e w' ⟨rfl, rfl⟩) | (go_at_call 40; refine (rSign_any _ _ _ (by omega) (by omega) (by omega) (by omega)).mono ?_; rintro e w' ⟨rfl, rfl⟩) | (go_at_call 43; refine (rWrap_any _ _ _ (by omega) (by omega) (by omega) (by omega)).mono ?_; rintro e w' ⟨rfl, rfl⟩))
      all_goals go_ret2
      all_goals exact ⟨rfl, rfl⟩
  · have e2 : exE op m n x = 1 := by simp [exE, g]
    have e1 : exX op m n x = 0 := by simp [exX, g]
    rw [e1, e2]
    clear e1 e2
    cases hm : isW m
    · clear g
      go_enter Try.func21, Try.ntmps21
      go_wp2_with (first | (go_at_call 44; refine (rIsWidth_any _ _).mono ?_; rintro e w' ⟨rfl, rfl⟩) | (go_at_call 18; refine (rIsWord_any _ _ _ (by omega) (by omega)).mono ?_; rintro e w' ⟨rfl, rfl⟩) | (go_at_call 40; refine (rSign_any _ _ _ (by omega) (by omega) (by omega) (by omega)).mono ?_; rintro e w' ⟨rfl, rfl⟩) | (go_at_call 43; refine (rWrap_any _ _ _ (by omega) (by omega) (by omega) (by omega)).mono ?_; rintro e w' ⟨rfl, rfl⟩))
      all_goals go_ret2
      all_goals exact ⟨rfl, rfl⟩
    · cases fx : fit m x
      · clear g
        go_enter Try.func21, Try.ntmps21
        go_wp2_with (first | (go_at_call 44; refine (rIsWidth_any _ _).mono ?_; rintro e w' ⟨rfl, rfl⟩) | (go_at_call 18; refine (rIsWord_any _ _ _ (by omega) (by omega)).mono ?_; rintro e w' ⟨rfl, rfl⟩) | (go_at_call 40; refine (rSign_any _ _ _ (by omega) (by omega) (by omega) (by omega)).mono ?_; rintro e w' ⟨rfl, rfl⟩) | (go_at_call 43; refine (rWrap_any _ _ _ (by omega) (by omega) (by omega) (by omega)).mono ?_; rintro e w' ⟨rfl, rfl⟩))
        all_goals go_ret2
        all_goals exact ⟨rfl, rfl⟩
      · cases hn : isW n
        · clear g
          go_enter Try.func21, Try.ntmps21
          go_wp2_with (first | (go_at_call 44; refine (rIsWidth_any _ _).mono ?_; rintro e w' ⟨rfl, rfl⟩) | (go_at_call 18; refine (rIsWord_any _ _ _ (by omega) (by omega)).mono ?_; rintro e w' ⟨rfl, rfl⟩) | (go_at_call 40; refine (rSign_any _ _ _ (by omega) (by omega) (by omega) (by omega)).mono ?_; rintro e w' ⟨rfl, rfl⟩) | (go_at_call 43; refine (rWrap_any _ _ _ (by omega) (by omega) (by omega) (by omega)).mono ?_; rintro e w' ⟨rfl, rfl⟩))
          all_goals go_ret2
          all_goals exact ⟨rfl, rfl⟩
        · have hg : ¬ ((op = 16 ∨ op = 17) ∧ m < n ∨ op = 18 ∧ n < m) := by
            intro h
            apply g
            simp only [isW, fit, decide_eq_true_eq] at hm fx hn
            exact (goodX_iff _ _ _ _).2 ⟨hm.1, hm.2, fx, hn.1, hn.2, h⟩
          clear g
          by_cases o1 : op = 16
          · have c : decide (m < n) = false := by simp; omega
            have c2 : decide (n ≤ m) = true := by simp; omega
            subst o1
            clear hg
            go_enter Try.func21, Try.ntmps21
            go_wp2_with (first | (go_at_call 44; refine (rIsWidth_any _ _).mono ?_; rintro e w' ⟨rfl, rfl⟩) | (go_at_call 18; refine (rIsWord_any _ _ _ (by omega) (by omega)).mono ?_; rintro e w' ⟨rfl, rfl⟩) | (go_at_call 40; refine (rSign_any _ _ _ (by omega) (by omega) (by omega) (by omega)).mono ?_; rintro e w' ⟨rfl, rfl⟩) | (go_at_call 43; refine (rWrap_any _ _ _ (by omega) (by omega) (by omega) (by omega)).mono ?_; rintro e w' ⟨rfl, rfl⟩))
            all_goals go_ret2
            all_goals exact ⟨rfl, rfl⟩
          · by_cases o2 : op = 17
            · have c : decide (m < n) = false := by simp; omega
              have c2 : decide (n ≤ m) = true := by simp; omega
              subst o2
              clear hg
              go_enter Try.func21, Try.ntmps21
              go_wp2_with (first | (go_at_call 44; refine (rIsWidth_any _ _).mono ?_; rintro e w' ⟨rfl, rfl⟩) | (go_at_call 18; refine (rIsWord_any _ _ _ (by omega) (by omega)).mono ?_; rintro e w' ⟨rfl, rfl⟩) | (go_at_call 40; refine (rSign_any _ _ _ (by omega) (by omega) (by omega) (by omega)).mono ?_; rintro e w' ⟨rfl, rfl⟩) | (go_at_call 43; refine (rWrap_any _ _ _ (by omega) (by omega) (by omega) (by omega)).mono ?_; rintro e w' ⟨rfl, rfl⟩))
              all_goals go_ret2
              all_goals exact ⟨rfl, rfl⟩
            · by_cases o3 : op = 18
              · have c : decide (n < m) = false := by simp; omega
                have c2 : decide (m ≤ n) = true := by simp; omega
                subst o3
                clear hg
                go_enter Try.func21, Try.ntmps21
                go_wp2_with (first | (go_at_call 44; refine (rIsWidth_any _ _).mono ?_; rintro e w' ⟨rfl, rfl⟩) | (go_at_call 18; refine (rIsWord_any _ _ _ (by omega) (by omega)).mono ?_; rintro e w' ⟨rfl, rfl⟩) | (go_at_call 40; refine (rSign_any _ _ _ (by omega) (by omega) (by omega) (by omega)).mono ?_; rintro e w' ⟨rfl, rfl⟩) | (go_at_call 43; refine (rWrap_any _ _ _ (by omega) (by omega) (by omega) (by omega)).mono ?_; rintro e w' ⟨rfl, rfl⟩))
                all_goals go_ret2
                all_goals exact ⟨rfl, rfl⟩
              · have b1 : (op == 16) = false := by simpa using o1
                have b2 : (op == 17) = false := by simpa using o2
                have b3 : (op == 18) = false := by simpa using o3
                have b4 : decide (op < 16) = true ∨ decide (18 < op) = true := by simp; omega
                clear hg o1 o2 o3
                rcases b4 with b4 | b4
                · go_enter Try.func21, Try.ntmps21
                  go_wp2_with (first | (go_at_call 44; refine (rIsWidth_any _ _).mono ?_; rintro e w' ⟨rfl, rfl⟩) | (go_at_call 18; refine (rIsWord_any _ _ _ (by omega) (by omega)).mono ?_; rintro e w' ⟨rfl, rfl⟩) | (go_at_call 40; refine (rSign_any _ _ _ (by omega) (by omega) (by omega) (by omega)).mono ?_; rintro e w' ⟨rfl, rfl⟩) | (go_at_call 43; refine (rWrap_any _ _ _ (by omega) (by omega) (by omega) (by omega)).mono ?_; rintro e w' ⟨rfl, rfl⟩))
                  all_goals go_ret2
                  all_goals exact ⟨rfl, rfl⟩
                · go_enter Try.func21, Try.ntmps21
                  go_wp2_with (first | (go_at_call 44; refine (rIsWidth_any _ _).mono ?_; rintro e w' ⟨rfl, rfl⟩) | (go_at_call 18; refine (rIsWord_any _ _ _ (by omega) (by omega)).mono ?_; rintro e w' ⟨rfl, rfl⟩) | (go_at_call 40; refine (rSign_any _ _ _ (by omega) (by omega) (by omega) (by omega)).mono ?_; rintro e w' ⟨rfl, rfl⟩) | (go_at_call 43; refine (rWrap_any _ _ _ (by omega) (by omega) (by omega) (by omega)).mono ?_; rintro e w' ⟨rfl, rfl⟩))
                  all_goals go_ret2
                  all_goals exact ⟨rfl, rfl⟩

theorem wExtends (op m n x : Int) (w : World) (h3 : 0 ≤ x) (h4 : x ≤ 4294967295) : Calls Try.prog 7 #[.int .i64 op, .agg #[.int .i64 m, .int .i64 n], .int .u32 x] w fun e w' => e = .returned (.bool true) ∧ Below w.heap.size w w' := by
  by_cases g : goodX op m n x = true
  · have e2 : exE op m n x = 0 := by simp [exE, g]
    obtain ⟨g1, g2, g3, g4, g5, g6⟩ := (goodX_iff _ _ _ _).1 g
    by_cases o3 : op = 18
    · subst o3
      clear g
      go_enter Try.func7, Try.ntmps7
      go_wp2_with fail
      have h00 := Since.refl (w.alloc (.cells #[.int .i64 m, .int .i64 n] 40))
      have l0 : ∀ wk, Since (w.alloc (.cells #[.int .i64 m, .int .i64 n] 40)) wk → wk.cell? ⟨w.heap.size, 0, none⟩ = some (.int .i64 m) := fun wk h => since_box 0 h
      have l1 : ∀ wk, Since (w.alloc (.cells #[.int .i64 m, .int .i64 n] 40)) wk → wk.cell? ⟨w.heap.size, 1, none⟩ = some (.int .i64 n) := fun wk h => since_box 1 h
      go_wp2_with (first | (go_at_call 20; refine (acc_p (pExtend _ _ _ _ (by omega) (by omega) _) (by assumption)).mono ?_; rintro e w' ⟨rfl, hb⟩) | (go_at_call 21; refine (acc_e (rExtend _ _ _ _ (by omega) (by omega) _) (by assumption)).mono ?_; rintro e w' ⟨rfl, hb⟩) | (go_at_call 13; refine (acc_p (known_any _) (by assumption)).mono ?_; rintro e w' ⟨rfl, hb⟩))
      go_ret
      exact ⟨rfl, below_box ‹_›⟩
    · have o4 : (op == 18) = false := by simpa using o3
      have e1 : exX op m n x = extV op m n x := by simp [exX, g]
      have hbk := ext_back g o3 h3
      have v : Word n (extV op m n x) := by unfold extV; exact word_ite (fun _ => word_wr _ _) (fun _ => word_wr _ _)
      obtain ⟨v1, v2⟩ := v
      have v3 : extV op m n x ≤ 4294967295 := by have := pw_le32 g5; omega
      have g' : goodX 18 n m (extV op m n x) = true := (goodX_iff _ _ _ _).2 ⟨g4, g5, v2, g1, g2, .inr ⟨rfl, by omega⟩⟩
      have e3 : exE 18 n m (extV op m n x) = 0 := by simp [exE, g']
      have e4 : exX 18 n m (extV op m n x) = x := by simp [exX, g', hbk]
      clear g g' hbk g6 o3
      generalize extV op m n x = z at *
      go_enter Try.func7, Try.ntmps7
      go_wp2_with fail
      have h00 := Since.refl (w.alloc (.cells #[.int .i64 m, .int .i64 n] 40))
      have l0 : ∀ wk, Since (w.alloc (.cells #[.int .i64 m, .int .i64 n] 40)) wk → wk.cell? ⟨w.heap.size, 0, none⟩ = some (.int .i64 m) := fun wk h => since_box 0 h
      have l1 : ∀ wk, Since (w.alloc (.cells #[.int .i64 m, .int .i64 n] 40)) wk → wk.cell? ⟨w.heap.size, 1, none⟩ = some (.int .i64 n) := fun wk h => since_box 1 h
      go_wp2_with (first | (go_at_call 20; refine (acc_p (pExtend _ _ _ _ (by omega) (by omega) _) (by assumption)).mono ?_; rintro e w' ⟨rfl, hb⟩) | (go_at_call 21; refine (acc_e (rExtend _ _ _ _ (by omega) (by omega) _) (by assumption)).mono ?_; rintro e w' ⟨rfl, hb⟩) | (go_at_call 13; refine (acc_p (known_any _) (by assumption)).mono ?_; rintro e w' ⟨rfl, hb⟩))
      go_ret
      exact ⟨rfl, below_box ‹_›⟩
  · have e2 : exE op m n x = 1 := by simp [exE, g]
    clear g
    go_enter Try.func7, Try.ntmps7
    go_wp2_with fail
    have h00 := Since.refl (w.alloc (.cells #[.int .i64 m, .int .i64 n] 40))
    have l0 : ∀ wk, Since (w.alloc (.cells #[.int .i64 m, .int .i64 n] 40)) wk → wk.cell? ⟨w.heap.size, 0, none⟩ = some (.int .i64 m) := fun wk h => since_box 0 h
    have l1 : ∀ wk, Since (w.alloc (.cells #[.int .i64 m, .int .i64 n] 40)) wk → wk.cell? ⟨w.heap.size, 1, none⟩ = some (.int .i64 n) := fun wk h => since_box 1 h
    go_wp2_with (first | (go_at_call 20; refine (acc_p (pExtend _ _ _ _ (by omega) (by omega) _) (by assumption)).mono ?_; rintro e w' ⟨rfl, hb⟩) | (go_at_call 21; refine (acc_e (rExtend _ _ _ _ (by omega) (by omega) _) (by assumption)).mono ?_; rintro e w' ⟨rfl, hb⟩) | (go_at_call 13; refine (acc_p (known_any _) (by assumption)).mono ?_; rintro e w' ⟨rfl, hb⟩))
    go_ret
    exact ⟨rfl, below_box ‹_›⟩

end Go.Proofs.Ytpgbepgbgpjmcaa
