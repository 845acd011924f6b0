/- Mask, Signed, Of, Extend of both sides, and the walks of the statements BitsWords and BitsExtends. -/
import Derived.Test.YtpgbepgbgpjmcaaDoorBj
import Derived.Test.YtpgbepgbgpjmcaaDoorRing
namespace Go.Proofs.YtpgbepgbgpjmcaaDoor
open Go.RowKit Wd
set_option linter.unusedVariables false
set_option linter.unusedSimpArgs false
def mkX (n : Int) : Int := if isW n = true then pw n - 1 else 0
def mkE (n : Int) : Int := if isW n = true then 0 else 1
def sgX (n x : Int) : Int := if (isW n && fit n x) = true then sgn n x else 0
def sgE (n x : Int) : Int := if (isW n && fit n x) = true then 0 else 1
def ofX (n x : Int) : Int := if isW n = true then wr n x else 0
def exX (op m n x : Int) : Int := if goodX op m n x = true then extV op m n x else 0
def exE (op m n x : Int) : Int := if goodX op m n x = true then 0 else 1

theorem pSigned (n x : Int) (h0 : 0 ≤ x) (h4 : x ≤ 4294967295) (w : World) : Calls Tryd.prog 25 #[.int .i64 n, .int .u32 x] w fun e w' => e = .returned (.tuple #[.int .i64 (sgX n x), .int .i64 (sgE n x)]) ∧ Below w.heap.size w w' := by
  by_cases hw : (isW n && fit n x) = true
  · have hv : sgX n x = sgn n x := by simp [sgX, hw]
    rw [hv]
    clear hv
    have hv : sgE n x = 0 := by simp [sgE, hw]
    rw [hv]
    clear hv
    have h12 : (1 ≤ n ∧ n ≤ 32) ∧ x < pw n := by simpa [isW, fit] using hw
    obtain ⟨⟨h1, h2⟩, h3⟩ := h12
    go_enter Tryd.func25, Tryd.ntmps25
    go_wp2_with (first | (go_at_call 18; refine (fits1 n x _ _ (by simp [go_sem])).mono ?_; rintro e w' ⟨rfl, rfl⟩) | (go_at_call 29; refine (signed_any _ _ _ (by omega) (by omega) (by omega) (by omega)).mono ?_; rintro e w' ⟨rfl, rfl⟩))
    go_ret2
    exact ⟨rfl, (Below.refl _ _).alloc (Nat.le_refl _) _⟩
  · have hw : (isW n && fit n x) = false := by simpa using hw
    have hv : sgX n x = 0 := by simp [sgX, hw]
    rw [hv]
    clear hv
    have hv : sgE n x = 1 := by simp [sgE, hw]
    rw [hv]
    clear hv
    go_enter Tryd.func25, Tryd.ntmps25
    go_wp2_with (first | (go_at_call 18; refine (fits1 n x _ _ (by simp [go_sem])).mono ?_; rintro e w' ⟨rfl, rfl⟩) | (go_at_call 29; refine (signed_any _ _ _ (by omega) (by omega) (by omega) (by omega)).mono ?_; rintro e w' ⟨rfl, rfl⟩))
    go_ret2
    exact ⟨rfl, (Below.refl _ _).alloc (Nat.le_refl _) _⟩

set_option maxHeartbeats 1000000 in
theorem pExtend (op m n x : Int) (h0 : 0 ≤ x) (h4 : x ≤ 4294967295) (w : World) : Calls Tryd.prog 16 #[.int .i64 op, .int .i64 m, .int .i64 n, .int .u32 x] w fun e w' => e = .returned (.tuple #[.int .u32 (exX op m n x), .int .i64 (exE op m n x)]) ∧ Below w.heap.size w w' := by
  by_cases g : goodX op m n x = true
  · obtain ⟨g1, g2, g3, g4, g5, g6⟩ := (goodX_iff _ _ _ _).1 g
    have e2 : exE op m n x = 0 := by simp [exE, g]
    have e1 : exX op m n x = extV op m n x := by simp [exX, g]
    rw [e1, e2]
    have hm : isW m = true := by simp [isW, g1, g2]
    have hn : isW n = true := by simp [isW, g4, g5]
    have fx : fit m x = true := by simp [fit, g3]
    have q1 := sgn_lo32 (n := m) (a := x) g1 g2 h0
    have q2 := sgn_hi32 (n := m) (a := x) g1 g2 g3
    have k1 := mask_wr g5 (sgn m x)
    have k2 := mask_fit g5 h0 h4
    have pn := pw_le32 g5
    rcases g6 with ⟨rfl | rfl, g7⟩ | ⟨rfl, g7⟩
    · have e3 : extV 16 m n x = x := by
        show wr n x = x
        exact wr_small h0 (by have := pw_mono (m := m) (n := n) (by omega); omega)
      have e4 : wr n x = x := e3
      rw [e3]
      clear e1 e2 e3 g k2
      go_enter Tryd.func16, Tryd.ntmps16
      go_wp2_with (first | (go_at_call 18; refine (fits1 m x _ _ (by simp [go_sem])).mono ?_; rintro e w' ⟨rfl, rfl⟩) | (go_at_call 28; refine (isWidth_any _ _).mono ?_; rintro e w' ⟨rfl, rfl⟩) | (go_at_call 30; refine (mask_any _ _ (by assumption) (by assumption)).mono ?_; rintro e w' ⟨rfl, rfl⟩) | (go_at_call 29; refine (signed_any _ _ _ (by omega) (by omega) (by omega) (by omega)).mono ?_; rintro e w' ⟨rfl, rfl⟩))
      all_goals go_ret2
      all_goals exact ⟨rfl, (Below.refl _ _).alloc (Nat.le_refl _) _⟩
    · have e3 : extV 17 m n x = wr n (sgn m x) := rfl
      rw [e3]
      clear e1 e2 e3 g
      go_enter Tryd.func16, Tryd.ntmps16
      go_wp2_with (first | (go_at_call 18; refine (fits1 m x _ _ (by simp [go_sem])).mono ?_; rintro e w' ⟨rfl, rfl⟩) | (go_at_call 28; refine (isWidth_any _ _).mono ?_; rintro e w' ⟨rfl, rfl⟩) | (go_at_call 30; refine (mask_any _ _ (by assumption) (by assumption)).mono ?_; rintro e w' ⟨rfl, rfl⟩) | (go_at_call 29; refine (signed_any _ _ _ (by omega) (by omega) (by omega) (by omega)).mono ?_; rintro e w' ⟨rfl, rfl⟩))
      all_goals go_ret2
      all_goals exact ⟨rfl, (Below.refl _ _).alloc (Nat.le_refl _) _⟩
    · have e3 : extV 18 m n x = wr n x := rfl
      rw [e3]
      clear e1 e2 e3 g
      go_enter Tryd.func16, Tryd.ntmps16
      go_wp2_with (first | (go_at_call 18; refine (fits1 m x _ _ (by simp [go_sem])).mono ?_; rintro e w' ⟨rfl, rfl⟩) | (go_at_call 28; refine (isWidth_any _ _).mono ?_; rintro e w' ⟨rfl, rfl⟩) | (go_at_call 30; refine (mask_any _ _ (by assumption) (by assumption)).mono ?_; rintro e w' ⟨rfl, rfl⟩) | (go_at_call 29; refine (signed_any _ _ _ (by omega) (by omega) (by omega) (by omega)).mono ?_; rintro e w' ⟨rfl, rfl⟩))
      all_goals go_ret2
      all_goals exact ⟨rfl, (Below.refl _ _).alloc (Nat.le_refl _) _⟩
  · have e2 : exE op m n x = 1 := by simp [exE, g]
    have e1 : exX op m n x = 0 := by simp [exX, g]
    rw [e1, e2]
    clear e1 e2
    cases hm : isW m
    · clear g
      go_enter Tryd.func16, Tryd.ntmps16
      go_wp2_with (first | (go_at_call 18; refine (fits1 m x _ _ (by simp [go_sem])).mono ?_; rintro e w' ⟨rfl, rfl⟩) | (go_at_call 28; refine (isWidth_any _ _).mono ?_; rintro e w' ⟨rfl, rfl⟩) | (go_at_call 30; refine (mask_any _ _ (by assumption) (by assumption)).mono ?_; rintro e w' ⟨rfl, rfl⟩) | (go_at_call 29; refine (signed_any _ _ _ (by omega) (by omega) (by omega) (by omega)).mono ?_; rintro e w' ⟨rfl, rfl⟩))
      all_goals go_ret2
      all_goals exact ⟨rfl, (Below.refl _ _).alloc (Nat.le_refl _) _⟩
    · cases fx : fit m x
      · clear g
        go_enter Tryd.func16, Tryd.ntmps16
        go_wp2_with (first | (go_at_call 18; refine (fits1 m x _ _ (by simp [go_sem])).mono ?_; rintro e w' ⟨rfl, rfl⟩) | (go_at_call 28; refine (isWidth_any _ _).mono ?_; rintro e w' ⟨rfl, rfl⟩) | (go_at_call 30; refine (mask_any _ _ (by assumption) (by assumption)).mono ?_; rintro e w' ⟨rfl, rfl⟩) | (go_at_call 29; refine (signed_any _ _ _ (by omega) (by omega) (by omega) (by omega)).mono ?_; rintro e w' ⟨rfl, rfl⟩))
        all_goals go_ret2
        all_goals exact ⟨rfl, (Below.refl _ _).alloc (Nat.le_refl _) _⟩
      · cases hn : isW n
        · clear g
          go_enter Tryd.func16, Tryd.ntmps16
          go_wp2_with (first | (go_at_call 18; refine (fits1 m x _ _ (by simp [go_sem])).mono ?_; rintro e w' ⟨rfl, rfl⟩) | (go_at_call 28; refine (isWidth_any _ _).mono ?_; rintro e w' ⟨rfl, rfl⟩) | (go_at_call 30; refine (mask_any _ _ (by assumption) (by assumption)).mono ?_; rintro e w' ⟨rfl, rfl⟩) | (go_at_call 29; refine (signed_any _ _ _ (by omega) (by omega) (by omega) (by omega)).mono ?_; rintro e w' ⟨rfl, rfl⟩))
          all_goals go_ret2
          all_goals exact ⟨rfl, (Below.refl _ _).alloc (Nat.le_refl _) _⟩
        · have hg : ¬ ((op = 16 ∨ op = 17) ∧ m < n ∨ op = 18 ∧ n < m) := by
            intro h
            apply g
            simp only [isW, fit, decide_eq_true_eq] at hm fx hn
            exact (goodX_iff _ _ _ _).2 ⟨hm.1, hm.2, fx, hn.1, hn.2, h⟩
          clear g
          by_cases o1 : op = 16
          · have c : decide (m < n) = false := by simp; omega
            have c2 : decide (n ≤ m) = true := by simp; omega
            subst o1
            clear hg
            go_enter Tryd.func16, Tryd.ntmps16
            go_wp2_with (first | (go_at_call 18; refine (fits1 m x _ _ (by simp [go_sem])).mono ?_; rintro e w' ⟨rfl, rfl⟩) | (go_at_call 28; refine (isWidth_any _ _).mono ?_; rintro e w' ⟨rfl, rfl⟩) | (go_at_call 30; refine (mask_any _ _ (by assumption) (by assumption)).mono ?_; rintro e w' ⟨rfl, rfl⟩) | (go_at_call 29; refine (signed_any _ _ _ (by omega) (by omega) (by omega) (by omega)).mono ?_; rintro e w' ⟨rfl, rfl⟩))
            all_goals go_ret2
            all_goals exact ⟨rfl, (Below.refl _ _).alloc (Nat.le_refl _) _⟩
          · by_cases o2 : op = 17
            · have c : decide (m < n) = false := by simp; omega
              have c2 : decide (n ≤ m) = true := by simp; omega
              subst o2
              clear hg
              go_enter Tryd.func16, Tryd.ntmps16
              go_wp2_with (first | (go_at_call 18; refine (fits1 m x _ _ (by simp [go_sem])).mono ?_; rintro e w' ⟨rfl, rfl⟩) | (go_at_call 28; refine (isWidth_any _ _).mono ?_; rintro e w' ⟨rfl, rfl⟩) | (go_at_call 30; refine (mask_any _ _ (by assumption) (by assumption)).mono ?_; rintro e w' ⟨rfl, rfl⟩) | (go_at_call 29; refine (signed_any _ _ _ (by omega) (by omega) (by omega) (by omega)).mono ?_; rintro e w' ⟨rfl, rfl⟩))
              all_goals go_ret2
              all_goals exact ⟨rfl, (Below.refl _ _).alloc (Nat.le_refl _) _⟩
            · by_cases o3 : op = 18
              · have c : decide (n < m) = false := by simp; omega
                have c2 : decide (m ≤ n) = true := by simp; omega
                subst o3
                clear hg
                go_enter Tryd.func16, Tryd.ntmps16
                go_wp2_with (first | (go_at_call 18; refine (fits1 m x _ _ (by simp [go_sem])).mono ?_; rintro e w' ⟨rfl, rfl⟩) | (go_at_call 28; refine (isWidth_any _ _).mono ?_; rintro e w' ⟨rfl, rfl⟩) | (go_at_call 30; refine (mask_any _ _ (by assumption) (by assumption)).mono ?_; rintro e w' ⟨rfl, rfl⟩) | (go_at_call 29; refine (signed_any _ _ _ (by omega) (by omega) (by omega) (by omega)).mono ?_; rintro e w' ⟨rfl, rfl⟩))
                all_goals go_ret2
                all_goals exact ⟨rfl, (Below.refl _ _).alloc (Nat.le_refl _) _⟩
              · have b1 : (op == 16) = false := by simpa using o1
                have b2 : (op == 17) = false := by simpa using o2
                have b3 : (op == 18) = false := by simpa using o3
                have b4 : decide (op < 16) = true ∨ decide (18 < op) = true := by simp; omega
                clear hg o1 o2 o3
                rcases b4 with b4 | b4
                · go_enter Tryd.func16, Tryd.ntmps16
                  go_wp2_with (first | (go_at_call 18; refine (fits1 m x _ _ (by simp [go_sem])).mono ?_; rintro e w' ⟨rfl, rfl⟩) | (go_at_call 28; refine (isWidth_any _ _).mono ?_; rintro e w' ⟨rfl, rfl⟩) | (go_at_call 30; refine (mask_any _ _ (by assumption) (by assumption)).mono ?_; rintro e w' ⟨rfl, rfl⟩) | (go_at_call 29; refine (signed_any _ _ _ (by omega) (by omega) (by omega) (by omega)).mono ?_; rintro e w' ⟨rfl, rfl⟩))
                  all_goals go_ret2
                  all_goals exact ⟨rfl, (Below.refl _ _).alloc (Nat.le_refl _) _⟩
                · go_enter Tryd.func16, Tryd.ntmps16
                  go_wp2_with (first | (go_at_call 18; refine (fits1 m x _ _ (by simp [go_sem])).mono ?_; rintro e w' ⟨rfl, rfl⟩) | (go_at_call 28; refine (isWidth_any _ _).mono ?_; rintro e w' ⟨rfl, rfl⟩) | (go_at_call 30; refine (mask_any _ _ (by assumption) (by assumption)).mono ?_; rintro e w' ⟨rfl, rfl⟩) | (go_at_call 29; refine (signed_any _ _ _ (by omega) (by omega) (by omega) (by omega)).mono ?_; rintro e w' ⟨rfl, rfl⟩))
                  all_goals go_ret2
                  all_goals exact ⟨rfl, (Below.refl _ _).alloc (Nat.le_refl _) _⟩

end Go.Proofs.YtpgbepgbgpjmcaaDoor
