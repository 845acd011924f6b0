/- The walk of the statement TopWords. -/
import Derived.Test.YtpgbepgbgpjmcaaDoorTx
import Derived.Deep.CutRange
import Derived.Deep.RegionHeld3
import Derived.Test.YtpgbepgbgpjmcaaDoorCalm
namespace Go.Proofs.YtpgbepgbgpjmcaaDoor
open Go.RowKit Wd
set_option linter.unusedVariables false
set_option linter.unusedSimpArgs false

theorem ones_le (x : Nat) : ∀ k, ones x k ≤ k
  | 0 => by simp [ones]
  | k + 1 => by
    have ih := ones_le x k
    simp only [ones]
    omega
theorem on_le {n : Int} (g1 : 1 ≤ n) (g2 : n ≤ 32) (x : Int) : 0 ≤ on n x ∧ on n x ≤ 32 := by
  have := ones_le x.toNat n.toNat
  unfold on
  omega
theorem Since.drew1 {w0 w : World} (h : Since w0 w) : Since w0 w.drew := h.drewN 1
theorem Since.hop {w0 w w' : World} (h : Since w0 w) (hb : Below w.heap.size w w') : Since w0 w' := below_hop h hb

set_option maxRecDepth 100000 in
set_option maxHeartbeats 20000000 in
theorem wTop (n a b k l : Int) (w : World) (hT : Tab w) (hW : WW n a b) (k0 : -9223372036854775808 ≤ k) (k1 : k ≤ 9223372036854775807) (l0 : -9223372036854775808 ≤ l) (l1 : l ≤ 9223372036854775807) :
    Calls Tryd.prog 4 #[.int .i64 n, .agg #[.int .u32 a, .int .u32 b, .int .i64 k, .int .i64 l]] w fun e w' => e = .returned (.bool true) ∧ Below w.heap.size w w' := by
  obtain ⟨h3, h4, h5, h6⟩ := hW.le
  obtain ⟨n1, n2⟩ := hW.1
  have hA : Word n a := hW.2.1
  have hB : Word n b := hW.2.2
  have hw : isW n = true := by simp [isW, n1, n2]
  have fa : fit n a = true := by simp [fit, hW.2.1.2]
  have fb : fit n b = true := by simp [fit, hW.2.2.2]
  have H9 : WW 4 9 9 := ⟨by decide, ⟨by decide, by decide⟩, ⟨by decide, by decide⟩⟩
  have e9 : tot 1 4 9 9 = 2 := by decide
  have x1 := sgn_lo32 n1 n2 h3
  have x2 := sgn_hi32 n1 n2 hA.2
  have y1 := sgn_lo32 n1 n2 h5
  have y2 := sgn_hi32 n1 n2 hB.2
  have xy := mul_lo32 x1 x2 y1 y2
  obtain ⟨xy1, xy2⟩ := xy
  go_enter Tryd.func4, Tryd.ntmps4
  have h00 := Since.refl (w.alloc (.cells #[.int .u32 a, .int .u32 b, .int .i64 k, .int .i64 l] 29))
  have r0 : ∀ wk, Since (w.alloc (.cells #[.int .u32 a, .int .u32 b, .int .i64 k, .int .i64 l] 29)) wk → wk.cell? ⟨w.heap.size, 0, none⟩ = some (.int .u32 a) := fun wk h => since_box 0 h
  have r1 : ∀ wk, Since (w.alloc (.cells #[.int .u32 a, .int .u32 b, .int .i64 k, .int .i64 l] 29)) wk → wk.cell? ⟨w.heap.size, 1, none⟩ = some (.int .u32 b) := fun wk h => since_box 1 h
  have r2 : ∀ wk, Since (w.alloc (.cells #[.int .u32 a, .int .u32 b, .int .i64 k, .int .i64 l] 29)) wk → wk.cell? ⟨w.heap.size, 2, none⟩ = some (.int .i64 k) := fun wk h => since_box 2 h
  have r3 : ∀ wk, Since (w.alloc (.cells #[.int .u32 a, .int .u32 b, .int .i64 k, .int .i64 l] 29)) wk → wk.cell? ⟨w.heap.size, 3, none⟩ = some (.int .i64 l) := fun wk h => since_box 3 h
  go_wp2_with fail
  generalize hW0 : w.alloc (.cells #[.int .u32 a, .int .u32 b, .int .i64 k, .int .i64 l] 29) = W0 at *
  have HW0 := Lib.hid hW0
  clear hW0
  go_wp2_with (first | (go_at_call 10; refine (acc_p (tDoes _ _ _ _ _ (by assumption) (by decide) (by decide) (by first | rfl | assumption)) (by first | assumption | exact Since.drewN (by assumption) _)).mono ?_; rintro e w' ⟨rfl, hb⟩) | (go_at_call 11; refine (acc_e (rIsWord_any _ _ _ (by omega) (by omega)) (by first | assumption | exact Since.drewN (by assumption) _)).mono ?_; rintro e w' ⟨rfl, hb⟩) | (go_at_call 13; refine (acc_p (tSigned _ _ _ (by assumption) (by assumption) (by assumption)) (by first | assumption | exact Since.drewN (by assumption) _)).mono ?_; rintro e w' ⟨rfl, hb⟩) | (go_at_call 14; refine (acc_p (tBreaks _ _ _ _ _ _ (by assumption) (by decide) (by decide) (by decide) (by decide)) (by first | assumption | exact Since.drewN (by assumption) _)).mono ?_; rintro e w' ⟨rfl, hb⟩) | (go_at_call 15; refine (acc_p (tHolds _ _ _ _ _ (by assumption) (by decide) (by decide)) (by first | assumption | exact Since.drewN (by assumption) _)).mono ?_; rintro e w' ⟨rfl, hb⟩))
  clear hw fa fb e9 H9
  go_quiet (fail)
  go_wp2_with fail
  have hb1 := hb.drewN nq
  have q0 : ∀ wk, Since ((w'.drewN nq).alloc (.cells #[.int .i64 1, .int .i64 2, .int .i64 3] 3)) wk → wk.cell? ⟨w'.heap.size, 0, none⟩ = some (.int .i64 1) := fun wk h => since_box (w := w'.drewN nq) 0 h
  have q1 : ∀ wk, Since ((w'.drewN nq).alloc (.cells #[.int .i64 1, .int .i64 2, .int .i64 3] 3)) wk → wk.cell? ⟨w'.heap.size, 1, none⟩ = some (.int .i64 2) := fun wk h => since_box (w := w'.drewN nq) 1 h
  have q2 : ∀ wk, Since ((w'.drewN nq).alloc (.cells #[.int .i64 1, .int .i64 2, .int .i64 3] 3)) wk → wk.cell? ⟨w'.heap.size, 2, none⟩ = some (.int .i64 3) := fun wk h => since_box (w := w'.drewN nq) 2 h
  have hs : ∀ wk, Since ((w'.drewN nq).alloc (.cells #[.int .i64 1, .int .i64 2, .int .i64 3] 3)) wk → Since W0 wk := fun wk h => below_hop hb1 (below_box h)
  have h01 := Since.refl ((w'.drewN nq).alloc (.cells #[.int .i64 1, .int .i64 2, .int .i64 3] 3))
  generalize hW1 : (w'.drewN nq).alloc (.cells #[.int .i64 1, .int .i64 2, .int .i64 3] 3) = W1 at *
  clear hW1 hb1
  generalize w'.heap.size = bs at *
  go_loopw [13] (fun i wr => ∃ j : Int, 0 ≤ j ∧ j ≤ 3 ∧ i = .int .i64 j ∧ Since W1 wr) (fun i _ => 3 - (intOf i).toNat)
  case atStart => exact ⟨0, by decide, by decide, rfl, h01⟩
  case round =>
    obtain ⟨j, j0, j3, rfl, hq⟩ := hrel
    clear hb h00 h01
    have hj : j = 0 ∨ j = 1 ∨ j = 2 ∨ j = 3 := by omega
    rcases hj with rfl | rfl | rfl | rfl
    · have hsw : Word n (tot 1 n a b) := tot_word (hW.good (by decide) (by decide)) h3 h5
      have t0 := hsw.1
      have t1 : tot 1 n a b ≤ 4294967295 := by have := pw_le32 n2; have := hsw.2; omega
      have gg := hW.good (op := 1) (by decide) (by decide)
      have bU := brX_u gg (has_3 (by decide)) (by decide)
      have bS := brX_s gg (has_3 (by decide)) (by decide)
      have bB := brX_b gg (has_3 (by decide)) (by decide)
      clear gg
      cases hU : brU 1 n a b <;> cases hS : brS 1 n a b <;> rw [hU] at bU bB <;> rw [hS] at bS bB
      · simp at bB
        have eP : (tot 1 n a b != a + b) = false := by rw [pln_ok n1 n2 hA hB (by decide) hU]; simp [plnV]
        have eO : (sgn n (tot 1 n a b) != sgn n a + sgn n b) = false := by rw [own_ok n1 n2 hA hB (by decide) hS]; simp [ownV]
        as_aux_lemma =>
          go_wp2_with (first | (go_at_call 10; refine (acc_p (tDoes _ _ _ _ _ (by assumption) (by decide) (by decide) (by first | rfl | assumption)) (by first | assumption | exact Since.drewN (by assumption) _)).mono ?_; rintro e w' ⟨rfl, hb⟩) | (go_at_call 11; refine (acc_e (rIsWord_any _ _ _ (by omega) (by omega)) (by first | assumption | exact Since.drewN (by assumption) _)).mono ?_; rintro e w' ⟨rfl, hb⟩) | (go_at_call 13; refine (acc_p (tSigned _ _ _ (by assumption) (by assumption) (by assumption)) (by first | assumption | exact Since.drewN (by assumption) _)).mono ?_; rintro e w' ⟨rfl, hb⟩) | (go_at_call 14; refine (acc_p (tBreaks _ _ _ _ _ _ (by assumption) (by decide) (by decide) (by decide) (by decide)) (by first | assumption | exact Since.drewN (by assumption) _)).mono ?_; rintro e w' ⟨rfl, hb⟩) | (go_at_call 15; refine (acc_p (tHolds _ _ _ _ _ (by assumption) (by decide) (by decide)) (by first | assumption | exact Since.drewN (by assumption) _)).mono ?_; rintro e w' ⟨rfl, hb⟩))
          go_roundw
          case rel => exact ⟨1, by decide, by decide, by go_num, ‹_›⟩
          case measure => simp [intOf]
      · simp at bB
        have eP : (tot 1 n a b != a + b) = false := by rw [pln_ok n1 n2 hA hB (by decide) hU]; simp [plnV]
        as_aux_lemma =>
          go_wp2_with (first | (go_at_call 10; refine (acc_p (tDoes _ _ _ _ _ (by assumption) (by decide) (by decide) (by first | rfl | assumption)) (by first | assumption | exact Since.drewN (by assumption) _)).mono ?_; rintro e w' ⟨rfl, hb⟩) | (go_at_call 11; refine (acc_e (rIsWord_any _ _ _ (by omega) (by omega)) (by first | assumption | exact Since.drewN (by assumption) _)).mono ?_; rintro e w' ⟨rfl, hb⟩) | (go_at_call 13; refine (acc_p (tSigned _ _ _ (by assumption) (by assumption) (by assumption)) (by first | assumption | exact Since.drewN (by assumption) _)).mono ?_; rintro e w' ⟨rfl, hb⟩) | (go_at_call 14; refine (acc_p (tBreaks _ _ _ _ _ _ (by assumption) (by decide) (by decide) (by decide) (by decide)) (by first | assumption | exact Since.drewN (by assumption) _)).mono ?_; rintro e w' ⟨rfl, hb⟩) | (go_at_call 15; refine (acc_p (tHolds _ _ _ _ _ (by assumption) (by decide) (by decide)) (by first | assumption | exact Since.drewN (by assumption) _)).mono ?_; rintro e w' ⟨rfl, hb⟩))
          go_roundw
          case rel => exact ⟨1, by decide, by decide, by go_num, ‹_›⟩
          case measure => simp [intOf]
      · simp at bB
        have eO : (sgn n (tot 1 n a b) != sgn n a + sgn n b) = false := by rw [own_ok n1 n2 hA hB (by decide) hS]; simp [ownV]
        as_aux_lemma =>
          go_wp2_with (first | (go_at_call 10; refine (acc_p (tDoes _ _ _ _ _ (by assumption) (by decide) (by decide) (by first | rfl | assumption)) (by first | assumption | exact Since.drewN (by assumption) _)).mono ?_; rintro e w' ⟨rfl, hb⟩) | (go_at_call 11; refine (acc_e (rIsWord_any _ _ _ (by omega) (by omega)) (by first | assumption | exact Since.drewN (by assumption) _)).mono ?_; rintro e w' ⟨rfl, hb⟩) | (go_at_call 13; refine (acc_p (tSigned _ _ _ (by assumption) (by assumption) (by assumption)) (by first | assumption | exact Since.drewN (by assumption) _)).mono ?_; rintro e w' ⟨rfl, hb⟩) | (go_at_call 14; refine (acc_p (tBreaks _ _ _ _ _ _ (by assumption) (by decide) (by decide) (by decide) (by decide)) (by first | assumption | exact Since.drewN (by assumption) _)).mono ?_; rintro e w' ⟨rfl, hb⟩) | (go_at_call 15; refine (acc_p (tHolds _ _ _ _ _ (by assumption) (by decide) (by decide)) (by first | assumption | exact Since.drewN (by assumption) _)).mono ?_; rintro e w' ⟨rfl, hb⟩))
          go_roundw
          case rel => exact ⟨1, by decide, by decide, by go_num, ‹_›⟩
          case measure => simp [intOf]
      · simp at bB
        as_aux_lemma =>
          go_wp2_with (first | (go_at_call 10; refine (acc_p (tDoes _ _ _ _ _ (by assumption) (by decide) (by decide) (by first | rfl | assumption)) (by first | assumption | exact Since.drewN (by assumption) _)).mono ?_; rintro e w' ⟨rfl, hb⟩) | (go_at_call 11; refine (acc_e (rIsWord_any _ _ _ (by omega) (by omega)) (by first | assumption | exact Since.drewN (by assumption) _)).mono ?_; rintro e w' ⟨rfl, hb⟩) | (go_at_call 13; refine (acc_p (tSigned _ _ _ (by assumption) (by assumption) (by assumption)) (by first | assumption | exact Since.drewN (by assumption) _)).mono ?_; rintro e w' ⟨rfl, hb⟩) | (go_at_call 14; refine (acc_p (tBreaks _ _ _ _ _ _ (by assumption) (by decide) (by decide) (by decide) (by decide)) (by first | assumption | exact Since.drewN (by assumption) _)).mono ?_; rintro e w' ⟨rfl, hb⟩) | (go_at_call 15; refine (acc_p (tHolds _ _ _ _ _ (by assumption) (by decide) (by decide)) (by first | assumption | exact Since.drewN (by assumption) _)).mono ?_; rintro e w' ⟨rfl, hb⟩))
          go_roundw
          case rel => exact ⟨1, by decide, by decide, by go_num, ‹_›⟩
          case measure => simp [intOf]
    · have hsw : Word n (tot 2 n a b) := tot_word (hW.good (by decide) (by decide)) h3 h5
      have t0 := hsw.1
      have t1 : tot 2 n a b ≤ 4294967295 := by have := pw_le32 n2; have := hsw.2; omega
      have gg := hW.good (op := 2) (by decide) (by decide)
      have bU := brX_u gg (has_3 (by decide)) (by decide)
      have bS := brX_s gg (has_3 (by decide)) (by decide)
      have bB := brX_b gg (has_3 (by decide)) (by decide)
      clear gg
      cases hU : brU 2 n a b <;> cases hS : brS 2 n a b <;> rw [hU] at bU bB <;> rw [hS] at bS bB
      · simp at bB
        have eP : (tot 2 n a b != a - b) = false := by rw [pln_ok n1 n2 hA hB (by decide) hU]; simp [plnV]
        have eO : (sgn n (tot 2 n a b) != sgn n a - sgn n b) = false := by rw [own_ok n1 n2 hA hB (by decide) hS]; simp [ownV]
        as_aux_lemma =>
          go_wp2_with (first | (go_at_call 10; refine (acc_p (tDoes _ _ _ _ _ (by assumption) (by decide) (by decide) (by first | rfl | assumption)) (by first | assumption | exact Since.drewN (by assumption) _)).mono ?_; rintro e w' ⟨rfl, hb⟩) | (go_at_call 11; refine (acc_e (rIsWord_any _ _ _ (by omega) (by omega)) (by first | assumption | exact Since.drewN (by assumption) _)).mono ?_; rintro e w' ⟨rfl, hb⟩) | (go_at_call 13; refine (acc_p (tSigned _ _ _ (by assumption) (by assumption) (by assumption)) (by first | assumption | exact Since.drewN (by assumption) _)).mono ?_; rintro e w' ⟨rfl, hb⟩) | (go_at_call 14; refine (acc_p (tBreaks _ _ _ _ _ _ (by assumption) (by decide) (by decide) (by decide) (by decide)) (by first | assumption | exact Since.drewN (by assumption) _)).mono ?_; rintro e w' ⟨rfl, hb⟩) | (go_at_call 15; refine (acc_p (tHolds _ _ _ _ _ (by assumption) (by decide) (by decide)) (by first | assumption | exact Since.drewN (by assumption) _)).mono ?_; rintro e w' ⟨rfl, hb⟩))
          go_roundw
          case rel => exact ⟨2, by decide, by decide, by go_num, ‹_›⟩
          case measure => simp [intOf]
      · simp at bB
        have eP : (tot 2 n a b != a - b) = false := by rw [pln_ok n1 n2 hA hB (by decide) hU]; simp [plnV]
        as_aux_lemma =>
          go_wp2_with (first | (go_at_call 10; refine (acc_p (tDoes _ _ _ _ _ (by assumption) (by decide) (by decide) (by first | rfl | assumption)) (by first | assumption | exact Since.drewN (by assumption) _)).mono ?_; rintro e w' ⟨rfl, hb⟩) | (go_at_call 11; refine (acc_e (rIsWord_any _ _ _ (by omega) (by omega)) (by first | assumption | exact Since.drewN (by assumption) _)).mono ?_; rintro e w' ⟨rfl, hb⟩) | (go_at_call 13; refine (acc_p (tSigned _ _ _ (by assumption) (by assumption) (by assumption)) (by first | assumption | exact Since.drewN (by assumption) _)).mono ?_; rintro e w' ⟨rfl, hb⟩) | (go_at_call 14; refine (acc_p (tBreaks _ _ _ _ _ _ (by assumption) (by decide) (by decide) (by decide) (by decide)) (by first | assumption | exact Since.drewN (by assumption) _)).mono ?_; rintro e w' ⟨rfl, hb⟩) | (go_at_call 15; refine (acc_p (tHolds _ _ _ _ _ (by assumption) (by decide) (by decide)) (by first | assumption | exact Since.drewN (by assumption) _)).mono ?_; rintro e w' ⟨rfl, hb⟩))
          go_roundw
          case rel => exact ⟨2, by decide, by decide, by go_num, ‹_›⟩
          case measure => simp [intOf]
      · simp at bB
        have eO : (sgn n (tot 2 n a b) != sgn n a - sgn n b) = false := by rw [own_ok n1 n2 hA hB (by decide) hS]; simp [ownV]
        as_aux_lemma =>
          go_wp2_with (first | (go_at_call 10; refine (acc_p (tDoes _ _ _ _ _ (by assumption) (by decide) (by decide) (by first | rfl | assumption)) (by first | assumption | exact Since.drewN (by assumption) _)).mono ?_; rintro e w' ⟨rfl, hb⟩) | (go_at_call 11; refine (acc_e (rIsWord_any _ _ _ (by omega) (by omega)) (by first | assumption | exact Since.drewN (by assumption) _)).mono ?_; rintro e w' ⟨rfl, hb⟩) | (go_at_call 13; refine (acc_p (tSigned _ _ _ (by assumption) (by assumption) (by assumption)) (by first | assumption | exact Since.drewN (by assumption) _)).mono ?_; rintro e w' ⟨rfl, hb⟩) | (go_at_call 14; refine (acc_p (tBreaks _ _ _ _ _ _ (by assumption) (by decide) (by decide) (by decide) (by decide)) (by first | assumption | exact Since.drewN (by assumption) _)).mono ?_; rintro e w' ⟨rfl, hb⟩) | (go_at_call 15; refine (acc_p (tHolds _ _ _ _ _ (by assumption) (by decide) (by decide)) (by first | assumption | exact Since.drewN (by assumption) _)).mono ?_; rintro e w' ⟨rfl, hb⟩))
          go_roundw
          case rel => exact ⟨2, by decide, by decide, by go_num, ‹_›⟩
          case measure => simp [intOf]
      · simp at bB
        as_aux_lemma =>
          go_wp2_with (first | (go_at_call 10; refine (acc_p (tDoes _ _ _ _ _ (by assumption) (by decide) (by decide) (by first | rfl | assumption)) (by first | assumption | exact Since.drewN (by assumption) _)).mono ?_; rintro e w' ⟨rfl, hb⟩) | (go_at_call 11; refine (acc_e (rIsWord_any _ _ _ (by omega) (by omega)) (by first | assumption | exact Since.drewN (by assumption) _)).mono ?_; rintro e w' ⟨rfl, hb⟩) | (go_at_call 13; refine (acc_p (tSigned _ _ _ (by assumption) (by assumption) (by assumption)) (by first | assumption | exact Since.drewN (by assumption) _)).mono ?_; rintro e w' ⟨rfl, hb⟩) | (go_at_call 14; refine (acc_p (tBreaks _ _ _ _ _ _ (by assumption) (by decide) (by decide) (by decide) (by decide)) (by first | assumption | exact Since.drewN (by assumption) _)).mono ?_; rintro e w' ⟨rfl, hb⟩) | (go_at_call 15; refine (acc_p (tHolds _ _ _ _ _ (by assumption) (by decide) (by decide)) (by first | assumption | exact Since.drewN (by assumption) _)).mono ?_; rintro e w' ⟨rfl, hb⟩))
          go_roundw
          case rel => exact ⟨2, by decide, by decide, by go_num, ‹_›⟩
          case measure => simp [intOf]
    · have hsw : Word n (tot 3 n a b) := tot_word (hW.good (by decide) (by decide)) h3 h5
      have t0 := hsw.1
      have t1 : tot 3 n a b ≤ 4294967295 := by have := pw_le32 n2; have := hsw.2; omega
      have gg := hW.good (op := 3) (by decide) (by decide)
      have bU := brX_u gg (has_3 (by decide)) (by decide)
      have bS := brX_s gg (has_3 (by decide)) (by decide)
      have bB := brX_b gg (has_3 (by decide)) (by decide)
      clear gg
      cases hU : brU 3 n a b <;> cases hS : brS 3 n a b <;> rw [hU] at bU bB <;> rw [hS] at bS bB
      · simp at bB
        have eO : (sgn n (tot 3 n a b) != sgn n a * sgn n b) = false := by rw [own_ok n1 n2 hA hB (by decide) hS]; simp [ownV]
        by_cases az : a = 0
        · have eP : (tot 3 n a b != 0) = false := by rw [pln_ok n1 n2 hA hB (by decide) hU]; simp [plnV, az]
          have zz : (a != 0) = false := by simp [az]
          clear az
          as_aux_lemma =>
            go_wp2_with (first | (go_at_call 10; refine (acc_p (tDoes _ _ _ _ _ (by assumption) (by decide) (by decide) (by first | rfl | assumption)) (by first | assumption | exact Since.drewN (by assumption) _)).mono ?_; rintro e w' ⟨rfl, hb⟩) | (go_at_call 11; refine (acc_e (rIsWord_any _ _ _ (by omega) (by omega)) (by first | assumption | exact Since.drewN (by assumption) _)).mono ?_; rintro e w' ⟨rfl, hb⟩) | (go_at_call 13; refine (acc_p (tSigned _ _ _ (by assumption) (by assumption) (by assumption)) (by first | assumption | exact Since.drewN (by assumption) _)).mono ?_; rintro e w' ⟨rfl, hb⟩) | (go_at_call 14; refine (acc_p (tBreaks _ _ _ _ _ _ (by assumption) (by decide) (by decide) (by decide) (by decide)) (by first | assumption | exact Since.drewN (by assumption) _)).mono ?_; rintro e w' ⟨rfl, hb⟩) | (go_at_call 15; refine (acc_p (tHolds _ _ _ _ _ (by assumption) (by decide) (by decide)) (by first | assumption | exact Since.drewN (by assumption) _)).mono ?_; rintro e w' ⟨rfl, hb⟩))
            go_roundw
            case rel => exact ⟨3, by decide, by decide, by go_num, ‹_›⟩
            case measure => simp [intOf]
        · have zz : (a != 0) = true := by simpa using az
          by_cases bq : b < 4611686018427387904 / a
          · have zq : decide (b < 4611686018427387904 / a) = true := decide_eq_true bq
            have hpos : 1 ≤ a := by omega
            have hab : a * b ≤ 4611686018427387904 := by
              have := (Int.le_ediv_iff_mul_le (c := a) (a := b) (b := 4611686018427387904) (by omega)).1 (by omega)
              rw [Int.mul_comm]; exact this
            have hab0 : 0 ≤ a * b := Int.mul_nonneg h3 h5
            have eP : (tot 3 n a b != a * b) = false := by rw [pln_ok n1 n2 hA hB (by decide) hU]; simp [plnV, az, bq]
            clear az bq
            as_aux_lemma =>
              go_wp2_with (first | (go_at_call 10; refine (acc_p (tDoes _ _ _ _ _ (by assumption) (by decide) (by decide) (by first | rfl | assumption)) (by first | assumption | exact Since.drewN (by assumption) _)).mono ?_; rintro e w' ⟨rfl, hb⟩) | (go_at_call 11; refine (acc_e (rIsWord_any _ _ _ (by omega) (by omega)) (by first | assumption | exact Since.drewN (by assumption) _)).mono ?_; rintro e w' ⟨rfl, hb⟩) | (go_at_call 13; refine (acc_p (tSigned _ _ _ (by assumption) (by assumption) (by assumption)) (by first | assumption | exact Since.drewN (by assumption) _)).mono ?_; rintro e w' ⟨rfl, hb⟩) | (go_at_call 14; refine (acc_p (tBreaks _ _ _ _ _ _ (by assumption) (by decide) (by decide) (by decide) (by decide)) (by first | assumption | exact Since.drewN (by assumption) _)).mono ?_; rintro e w' ⟨rfl, hb⟩) | (go_at_call 15; refine (acc_p (tHolds _ _ _ _ _ (by assumption) (by decide) (by decide)) (by first | assumption | exact Since.drewN (by assumption) _)).mono ?_; rintro e w' ⟨rfl, hb⟩))
              go_roundw
              case rel => exact ⟨3, by decide, by decide, by go_num, ‹_›⟩
              case measure => simp [intOf]
          · have zq : decide (b < 4611686018427387904 / a) = false := decide_eq_false bq
            exfalso
            have hz := pln_ok n1 n2 hA hB (op := 3) (by decide) hU
            simp [plnV, az, bq] at hz
            omega
      · simp at bB
        by_cases az : a = 0
        · have eP : (tot 3 n a b != 0) = false := by rw [pln_ok n1 n2 hA hB (by decide) hU]; simp [plnV, az]
          have zz : (a != 0) = false := by simp [az]
          clear az
          as_aux_lemma =>
            go_wp2_with (first | (go_at_call 10; refine (acc_p (tDoes _ _ _ _ _ (by assumption) (by decide) (by decide) (by first | rfl | assumption)) (by first | assumption | exact Since.drewN (by assumption) _)).mono ?_; rintro e w' ⟨rfl, hb⟩) | (go_at_call 11; refine (acc_e (rIsWord_any _ _ _ (by omega) (by omega)) (by first | assumption | exact Since.drewN (by assumption) _)).mono ?_; rintro e w' ⟨rfl, hb⟩) | (go_at_call 13; refine (acc_p (tSigned _ _ _ (by assumption) (by assumption) (by assumption)) (by first | assumption | exact Since.drewN (by assumption) _)).mono ?_; rintro e w' ⟨rfl, hb⟩) | (go_at_call 14; refine (acc_p (tBreaks _ _ _ _ _ _ (by assumption) (by decide) (by decide) (by decide) (by decide)) (by first | assumption | exact Since.drewN (by assumption) _)).mono ?_; rintro e w' ⟨rfl, hb⟩) | (go_at_call 15; refine (acc_p (tHolds _ _ _ _ _ (by assumption) (by decide) (by decide)) (by first | assumption | exact Since.drewN (by assumption) _)).mono ?_; rintro e w' ⟨rfl, hb⟩))
            go_roundw
            case rel => exact ⟨3, by decide, by decide, by go_num, ‹_›⟩
            case measure => simp [intOf]
        · have zz : (a != 0) = true := by simpa using az
          by_cases bq : b < 4611686018427387904 / a
          · have zq : decide (b < 4611686018427387904 / a) = true := decide_eq_true bq
            have hpos : 1 ≤ a := by omega
            have hab : a * b ≤ 4611686018427387904 := by
              have := (Int.le_ediv_iff_mul_le (c := a) (a := b) (b := 4611686018427387904) (by omega)).1 (by omega)
              rw [Int.mul_comm]; exact this
            have hab0 : 0 ≤ a * b := Int.mul_nonneg h3 h5
            have eP : (tot 3 n a b != a * b) = false := by rw [pln_ok n1 n2 hA hB (by decide) hU]; simp [plnV, az, bq]
            clear az bq
            as_aux_lemma =>
              go_wp2_with (first | (go_at_call 10; refine (acc_p (tDoes _ _ _ _ _ (by assumption) (by decide) (by decide) (by first | rfl | assumption)) (by first | assumption | exact Since.drewN (by assumption) _)).mono ?_; rintro e w' ⟨rfl, hb⟩) | (go_at_call 11; refine (acc_e (rIsWord_any _ _ _ (by omega) (by omega)) (by first | assumption | exact Since.drewN (by assumption) _)).mono ?_; rintro e w' ⟨rfl, hb⟩) | (go_at_call 13; refine (acc_p (tSigned _ _ _ (by assumption) (by assumption) (by assumption)) (by first | assumption | exact Since.drewN (by assumption) _)).mono ?_; rintro e w' ⟨rfl, hb⟩) | (go_at_call 14; refine (acc_p (tBreaks _ _ _ _ _ _ (by assumption) (by decide) (by decide) (by decide) (by decide)) (by first | assumption | exact Since.drewN (by assumption) _)).mono ?_; rintro e w' ⟨rfl, hb⟩) | (go_at_call 15; refine (acc_p (tHolds _ _ _ _ _ (by assumption) (by decide) (by decide)) (by first | assumption | exact Since.drewN (by assumption) _)).mono ?_; rintro e w' ⟨rfl, hb⟩))
              go_roundw
              case rel => exact ⟨3, by decide, by decide, by go_num, ‹_›⟩
              case measure => simp [intOf]
          · have zq : decide (b < 4611686018427387904 / a) = false := decide_eq_false bq
            exfalso
            have hz := pln_ok n1 n2 hA hB (op := 3) (by decide) hU
            simp [plnV, az, bq] at hz
            omega
      · simp at bB
        have eO : (sgn n (tot 3 n a b) != sgn n a * sgn n b) = false := by rw [own_ok n1 n2 hA hB (by decide) hS]; simp [ownV]
        by_cases az : a = 0
        · exfalso
          rw [mulW_u n2 h3 h5, az] at hU
          have := pw_pos n
          simp at hU
          omega
        · have zz : (a != 0) = true := by simpa using az
          by_cases bq : b < 4611686018427387904 / a
          · have zq : decide (b < 4611686018427387904 / a) = true := decide_eq_true bq
            have hpos : 1 ≤ a := by omega
            have hab : a * b ≤ 4611686018427387904 := by
              have := (Int.le_ediv_iff_mul_le (c := a) (a := b) (b := 4611686018427387904) (by omega)).1 (by omega)
              rw [Int.mul_comm]; exact this
            have hab0 : 0 ≤ a * b := Int.mul_nonneg h3 h5
            clear az bq
            as_aux_lemma =>
              go_wp2_with (first | (go_at_call 10; refine (acc_p (tDoes _ _ _ _ _ (by assumption) (by decide) (by decide) (by first | rfl | assumption)) (by first | assumption | exact Since.drewN (by assumption) _)).mono ?_; rintro e w' ⟨rfl, hb⟩) | (go_at_call 11; refine (acc_e (rIsWord_any _ _ _ (by omega) (by omega)) (by first | assumption | exact Since.drewN (by assumption) _)).mono ?_; rintro e w' ⟨rfl, hb⟩) | (go_at_call 13; refine (acc_p (tSigned _ _ _ (by assumption) (by assumption) (by assumption)) (by first | assumption | exact Since.drewN (by assumption) _)).mono ?_; rintro e w' ⟨rfl, hb⟩) | (go_at_call 14; refine (acc_p (tBreaks _ _ _ _ _ _ (by assumption) (by decide) (by decide) (by decide) (by decide)) (by first | assumption | exact Since.drewN (by assumption) _)).mono ?_; rintro e w' ⟨rfl, hb⟩) | (go_at_call 15; refine (acc_p (tHolds _ _ _ _ _ (by assumption) (by decide) (by decide)) (by first | assumption | exact Since.drewN (by assumption) _)).mono ?_; rintro e w' ⟨rfl, hb⟩))
              go_roundw
              case rel => exact ⟨3, by decide, by decide, by go_num, ‹_›⟩
              case measure => simp [intOf]
          · have zq : decide (b < 4611686018427387904 / a) = false := decide_eq_false bq
            have hpos : 1 ≤ a := by omega
            clear az bq
            as_aux_lemma =>
              go_wp2_with (first | (go_at_call 10; refine (acc_p (tDoes _ _ _ _ _ (by assumption) (by decide) (by decide) (by first | rfl | assumption)) (by first | assumption | exact Since.drewN (by assumption) _)).mono ?_; rintro e w' ⟨rfl, hb⟩) | (go_at_call 11; refine (acc_e (rIsWord_any _ _ _ (by omega) (by omega)) (by first | assumption | exact Since.drewN (by assumption) _)).mono ?_; rintro e w' ⟨rfl, hb⟩) | (go_at_call 13; refine (acc_p (tSigned _ _ _ (by assumption) (by assumption) (by assumption)) (by first | assumption | exact Since.drewN (by assumption) _)).mono ?_; rintro e w' ⟨rfl, hb⟩) | (go_at_call 14; refine (acc_p (tBreaks _ _ _ _ _ _ (by assumption) (by decide) (by decide) (by decide) (by decide)) (by first | assumption | exact Since.drewN (by assumption) _)).mono ?_; rintro e w' ⟨rfl, hb⟩) | (go_at_call 15; refine (acc_p (tHolds _ _ _ _ _ (by assumption) (by decide) (by decide)) (by first | assumption | exact Since.drewN (by assumption) _)).mono ?_; rintro e w' ⟨rfl, hb⟩))
              go_roundw
              case rel => exact ⟨3, by decide, by decide, by go_num, ‹_›⟩
              case measure => simp [intOf]
      · simp at bB
        by_cases az : a = 0
        · exfalso
          rw [mulW_u n2 h3 h5, az] at hU
          have := pw_pos n
          simp at hU
          omega
        · have zz : (a != 0) = true := by simpa using az
          by_cases bq : b < 4611686018427387904 / a
          · have zq : decide (b < 4611686018427387904 / a) = true := decide_eq_true bq
            have hpos : 1 ≤ a := by omega
            have hab : a * b ≤ 4611686018427387904 := by
              have := (Int.le_ediv_iff_mul_le (c := a) (a := b) (b := 4611686018427387904) (by omega)).1 (by omega)
              rw [Int.mul_comm]; exact this
            have hab0 : 0 ≤ a * b := Int.mul_nonneg h3 h5
            clear az bq
            as_aux_lemma =>
              go_wp2_with (first | (go_at_call 10; refine (acc_p (tDoes _ _ _ _ _ (by assumption) (by decide) (by decide) (by first | rfl | assumption)) (by first | assumption | exact Since.drewN (by assumption) _)).mono ?_; rintro e w' ⟨rfl, hb⟩) | (go_at_call 11; refine (acc_e (rIsWord_any _ _ _ (by omega) (by omega)) (by first | assumption | exact Since.drewN (by assumption) _)).mono ?_; rintro e w' ⟨rfl, hb⟩) | (go_at_call 13; refine (acc_p (tSigned _ _ _ (by assumption) (by assumption) (by assumption)) (by first | assumption | exact Since.drewN (by assumption) _)).mono ?_; rintro e w' ⟨rfl, hb⟩) | (go_at_call 14; refine (acc_p (tBreaks _ _ _ _ _ _ (by assumption) (by decide) (by decide) (by decide) (by decide)) (by first | assumption | exact Since.drewN (by assumption) _)).mono ?_; rintro e w' ⟨rfl, hb⟩) | (go_at_call 15; refine (acc_p (tHolds _ _ _ _ _ (by assumption) (by decide) (by decide)) (by first | assumption | exact Since.drewN (by assumption) _)).mono ?_; rintro e w' ⟨rfl, hb⟩))
              go_roundw
              case rel => exact ⟨3, by decide, by decide, by go_num, ‹_›⟩
              case measure => simp [intOf]
          · have zq : decide (b < 4611686018427387904 / a) = false := decide_eq_false bq
            have hpos : 1 ≤ a := by omega
            clear az bq
            as_aux_lemma =>
              go_wp2_with (first | (go_at_call 10; refine (acc_p (tDoes _ _ _ _ _ (by assumption) (by decide) (by decide) (by first | rfl | assumption)) (by first | assumption | exact Since.drewN (by assumption) _)).mono ?_; rintro e w' ⟨rfl, hb⟩) | (go_at_call 11; refine (acc_e (rIsWord_any _ _ _ (by omega) (by omega)) (by first | assumption | exact Since.drewN (by assumption) _)).mono ?_; rintro e w' ⟨rfl, hb⟩) | (go_at_call 13; refine (acc_p (tSigned _ _ _ (by assumption) (by assumption) (by assumption)) (by first | assumption | exact Since.drewN (by assumption) _)).mono ?_; rintro e w' ⟨rfl, hb⟩) | (go_at_call 14; refine (acc_p (tBreaks _ _ _ _ _ _ (by assumption) (by decide) (by decide) (by decide) (by decide)) (by first | assumption | exact Since.drewN (by assumption) _)).mono ?_; rintro e w' ⟨rfl, hb⟩) | (go_at_call 15; refine (acc_p (tHolds _ _ _ _ _ (by assumption) (by decide) (by decide)) (by first | assumption | exact Since.drewN (by assumption) _)).mono ?_; rintro e w' ⟨rfl, hb⟩))
              go_roundw
              case rel => exact ⟨3, by decide, by decide, by go_num, ‹_›⟩
              case measure => simp [intOf]
    · have hq0 := hs _ hq
      clear hq q0 q1 q2 hs
      have gg := hW.good (op := 2) (by decide) (by decide)
      have e1 : brX 2 1 n a b = cmpV 2 n a b := by rw [brX_u gg rfl (by decide), ult_br n1 n2 hA hB]
      have e2 : cmpV 6 n a b = (decide (sgn n (tot 2 n a b) < 0) != brX 2 2 n a b) := by rw [brX_s gg rfl (by decide), slt_br n1 n2 hA hB]
      have e3 : cmpV 0 n a b = (tot 10 n a b == 0) := eq_xor n1 n2 hA hB
      have hd : Word n (tot 2 n a b) := tot_word gg h3 h5
      clear gg
      go_upto_if 288 with (first | (go_at_call 10; refine (acc_p (tDoes _ _ _ _ _ (by assumption) (by decide) (by decide) (by first | rfl | assumption)) (by first | assumption | exact Since.drewN (by assumption) _)).mono ?_; rintro e w' ⟨rfl, hb⟩) | (go_at_call 11; refine (acc_e (rIsWord_any _ _ _ (by omega) (by omega)) (by first | assumption | exact Since.drewN (by assumption) _)).mono ?_; rintro e w' ⟨rfl, hb⟩) | (go_at_call 13; refine (acc_p (tSigned _ _ _ (by assumption) (by assumption) (by assumption)) (by first | assumption | exact Since.drewN (by assumption) _)).mono ?_; rintro e w' ⟨rfl, hb⟩) | (go_at_call 14; refine (acc_p (tBreaks _ _ _ _ _ _ (by assumption) (by decide) (by decide) (by decide) (by decide)) (by first | assumption | exact Since.drewN (by assumption) _)).mono ?_; rintro e w' ⟨rfl, hb⟩) | (go_at_call 15; refine (acc_p (tHolds _ _ _ _ _ (by assumption) (by decide) (by decide)) (by first | assumption | exact Since.drewN (by assumption) _)).mono ?_; rintro e w' ⟨rfl, hb⟩))
      clear e1 e2 e3
      go_cut [23, 24, 25, 26, 27, 28, 29] from 287 to 356 (fun _ _ _ _ _ _ _ wx => Since W0 wx)
      case first =>
        by_cases hn : n < 32
        · have dn : decide (n < 32) = true := decide_eq_true hn
          rw [dn]
          go_wp2_with fail
          obtain ⟨wd, hwd⟩ : ∃ wd, wd = w' := ⟨_, rfl⟩
          have q0 : ∀ wk, Since ((w'.alloc (.cells #[.int .i64 16, .int .i64 17] 3)).alloc (.cells #[.int .i64 2, .int .i64 6] 3)) wk → wk.cell? ⟨w'.heap.size, 0, none⟩ = some (.int .i64 16) := fun wk h => since_box (w := w') 0 (below_box h)
          have q1 : ∀ wk, Since ((w'.alloc (.cells #[.int .i64 16, .int .i64 17] 3)).alloc (.cells #[.int .i64 2, .int .i64 6] 3)) wk → wk.cell? ⟨w'.heap.size, 1, none⟩ = some (.int .i64 17) := fun wk h => since_box (w := w') 1 (below_box h)
          have q2 : ∀ wk, Since ((w'.alloc (.cells #[.int .i64 16, .int .i64 17] 3)).alloc (.cells #[.int .i64 2, .int .i64 6] 3)) wk → wk.cell? ⟨w'.heap.size + 1, 0, none⟩ = some (.int .i64 2) := fun wk h => by
            have h9 := since_box (w := w'.alloc (.cells #[.int .i64 16, .int .i64 17] 3)) 0 h
            rw [show (w'.alloc (.cells #[.int .i64 16, .int .i64 17] 3)).heap.size = w'.heap.size + 1 by simp] at h9
            exact h9
          have q3 : ∀ wk, Since ((w'.alloc (.cells #[.int .i64 16, .int .i64 17] 3)).alloc (.cells #[.int .i64 2, .int .i64 6] 3)) wk → wk.cell? ⟨w'.heap.size + 1, 1, none⟩ = some (.int .i64 6) := fun wk h => by
            have h9 := since_box (w := w'.alloc (.cells #[.int .i64 16, .int .i64 17] 3)) 1 h
            rw [show (w'.alloc (.cells #[.int .i64 16, .int .i64 17] 3)).heap.size = w'.heap.size + 1 by simp] at h9
            exact h9
          have hs : ∀ wk, Since ((w'.alloc (.cells #[.int .i64 16, .int .i64 17] 3)).alloc (.cells #[.int .i64 2, .int .i64 6] 3)) wk → Since W0 wk := fun wk h => below_hop hb (below_box (below_box h))
          have h01 := Since.refl ((w'.alloc (.cells #[.int .i64 16, .int .i64 17] 3)).alloc (.cells #[.int .i64 2, .int .i64 6] 3))
          generalize hW2 : (w'.alloc (.cells #[.int .i64 16, .int .i64 17] 3)).alloc (.cells #[.int .i64 2, .int .i64 6] 3) = W2 at *
          clear hW2 hwd
          generalize w'.heap.size = bt at *
          go_loopw [25] (fun i wr => ∃ j : Int, 0 ≤ j ∧ j ≤ 2 ∧ i = .int .i64 j ∧ Since W2 wr) (fun i _ => 2 - (intOf i).toNat)
          case atStart => exact ⟨0, by decide, by decide, rfl, h01⟩
          case round =>
            obtain ⟨j, j0, j3, rfl, hq⟩ := hrel
            clear hb h01
            have hj : j = 0 ∨ j = 1 ∨ j = 2 := by omega
            rcases hj with rfl | rfl | rfl
            · have ga : goodX 16 n 32 a = true := (goodX_iff _ _ _ _).2 ⟨n1, n2, hA.2, by decide, by decide, Or.inl ⟨by decide, hn⟩⟩
              have exa : exX 16 n 32 a = a := by rw [show exX 16 n 32 a = extV 16 n 32 a by simp [exX, ga]]; exact ext_z n1 n2 hA hn
              have eea : exE 16 n 32 a = 0 := by simp [exE, ga]
              clear ga
              have gb : goodX 16 n 32 b = true := (goodX_iff _ _ _ _).2 ⟨n1, n2, hB.2, by decide, by decide, Or.inl ⟨by decide, hn⟩⟩
              have exb : exX 16 n 32 b = b := by rw [show exX 16 n 32 b = extV 16 n 32 b by simp [exX, gb]]; exact ext_z n1 n2 hB hn
              have eeb : exE 16 n 32 b = 0 := by simp [exE, gb]
              clear gb
              have hW32 : WW 32 a b := ⟨by decide, ⟨h3, by rw [pw_32]; omega⟩, ⟨h5, by rw [pw_32]; omega⟩⟩
              have c1 : cmpV 2 32 a b = cmpV 2 n a b := rfl
              have c2 : cmpV 6 32 a b = cmpV 2 n a b := by have := (wide_z n1 n2 hA hB hn).2; rw [ext_z n1 n2 hA hn, ext_z n1 n2 hB hn] at this; exact this
              cases hz : cmpV 2 n a b <;> rw [hz] at c1 c2
              all_goals go_wp2_with (go_at_call 16; refine (acc_p (pExtend _ _ _ _ (by omega) (by omega) _) (by assumption)).mono ?_; rintro e w' ⟨rfl, hb⟩)
              all_goals clear exa exb eea eeb
              · have T0 := Lib.hid (show ∀ w, Calls Tryd.prog 15 #[.int .i64 2, .int .i64 32, .int .u32 a, .int .u32 b] w fun e w' => e = .returned (.bool false) ∧ Below w.heap.size w w' from fun w => by have h := tHolds 2 32 a b w hW32 (by decide) (by decide); rw [c1] at h; exact h)
                have T1 := Lib.hid (show ∀ w, Calls Tryd.prog 15 #[.int .i64 2, .int .i64 n, .int .u32 a, .int .u32 b] w fun e w' => e = .returned (.bool false) ∧ Below w.heap.size w w' from fun w => by have h := tHolds 2 n a b w hW (by decide) (by decide); rw [hz] at h; exact h)
                have T2 := Lib.hid (show ∀ w, Calls Tryd.prog 15 #[.int .i64 6, .int .i64 32, .int .u32 a, .int .u32 b] w fun e w' => e = .returned (.bool false) ∧ Below w.heap.size w w' from fun w => by have h := tHolds 6 32 a b w hW32 (by decide) (by decide); rw [c2] at h; exact h)
                clear hz c1 c2
                refine region_calm (Since W2) (by kernel_rfl) (by kernel_rfl) (by first | exact Since.drew1 ‹_›) ?_
                have ne : Nonempty (In (Since W2)) := ⟨⟨_, ‹Since W2 _›⟩⟩
                have s0 : ∀ s : In (Since W2), s.w.cell? ⟨bt, 0, none⟩ = some (.int .i64 16) := fun s => q0 _ s.h
                have s1 : ∀ s : In (Since W2), s.w.cell? ⟨bt, 1, none⟩ = some (.int .i64 17) := fun s => q1 _ s.h
                have s2 : ∀ s : In (Since W2), s.w.cell? ⟨bt + 1, 0, none⟩ = some (.int .i64 2) := fun s => q2 _ s.h
                have s3 : ∀ s : In (Since W2), s.w.cell? ⟨bt + 1, 1, none⟩ = some (.int .i64 6) := fun s => q3 _ s.h
                repeat (go_big_quiet_step ((go_at_call 15; first | (with_reducible exact Calls.calm (T0.out _) (fun w' h => Since.hop (In.h _) h)) | (with_reducible exact Calls.calm (T1.out _) (fun w' h => Since.hop (In.h _) h)) | (with_reducible exact Calls.calm (T2.out _) (fun w' h => Since.hop (In.h _) h)))))
                refine wpQuiet_nil ?_
                intro wq hwq
                clear s0 s1 s2 s3 ne
                go_wp2_with fail
                go_roundw
                case rel => exact ⟨1, by decide, by decide, by go_num, ‹_›⟩
                case measure => simp [intOf]
              · have T0 := Lib.hid (show ∀ w, Calls Tryd.prog 15 #[.int .i64 2, .int .i64 32, .int .u32 a, .int .u32 b] w fun e w' => e = .returned (.bool true) ∧ Below w.heap.size w w' from fun w => by have h := tHolds 2 32 a b w hW32 (by decide) (by decide); rw [c1] at h; exact h)
                have T1 := Lib.hid (show ∀ w, Calls Tryd.prog 15 #[.int .i64 2, .int .i64 n, .int .u32 a, .int .u32 b] w fun e w' => e = .returned (.bool true) ∧ Below w.heap.size w w' from fun w => by have h := tHolds 2 n a b w hW (by decide) (by decide); rw [hz] at h; exact h)
                have T2 := Lib.hid (show ∀ w, Calls Tryd.prog 15 #[.int .i64 6, .int .i64 32, .int .u32 a, .int .u32 b] w fun e w' => e = .returned (.bool true) ∧ Below w.heap.size w w' from fun w => by have h := tHolds 6 32 a b w hW32 (by decide) (by decide); rw [c2] at h; exact h)
                clear hz c1 c2
                refine region_calm (Since W2) (by kernel_rfl) (by kernel_rfl) (by first | exact Since.drew1 ‹_›) ?_
                have ne : Nonempty (In (Since W2)) := ⟨⟨_, ‹Since W2 _›⟩⟩
                have s0 : ∀ s : In (Since W2), s.w.cell? ⟨bt, 0, none⟩ = some (.int .i64 16) := fun s => q0 _ s.h
                have s1 : ∀ s : In (Since W2), s.w.cell? ⟨bt, 1, none⟩ = some (.int .i64 17) := fun s => q1 _ s.h
                have s2 : ∀ s : In (Since W2), s.w.cell? ⟨bt + 1, 0, none⟩ = some (.int .i64 2) := fun s => q2 _ s.h
                have s3 : ∀ s : In (Since W2), s.w.cell? ⟨bt + 1, 1, none⟩ = some (.int .i64 6) := fun s => q3 _ s.h
                repeat (go_big_quiet_step ((go_at_call 15; first | (with_reducible exact Calls.calm (T0.out _) (fun w' h => Since.hop (In.h _) h)) | (with_reducible exact Calls.calm (T1.out _) (fun w' h => Since.hop (In.h _) h)) | (with_reducible exact Calls.calm (T2.out _) (fun w' h => Since.hop (In.h _) h)))))
                refine wpQuiet_nil ?_
                intro wq hwq
                clear s0 s1 s2 s3 ne
                go_wp2_with fail
                go_roundw
                case rel => exact ⟨1, by decide, by decide, by go_num, ‹_›⟩
                case measure => simp [intOf]
            · have ga : goodX 17 n 32 a = true := (goodX_iff _ _ _ _).2 ⟨n1, n2, hA.2, by decide, by decide, Or.inl ⟨by decide, hn⟩⟩
              have exa : exX 17 n 32 a = extV 17 n 32 a := by simp [exX, ga]
              have eea : exE 17 n 32 a = 0 := by simp [exE, ga]
              clear ga
              have gb : goodX 17 n 32 b = true := (goodX_iff _ _ _ _).2 ⟨n1, n2, hB.2, by decide, by decide, Or.inl ⟨by decide, hn⟩⟩
              have exb : exX 17 n 32 b = extV 17 n 32 b := by simp [exX, gb]
              have eeb : exE 17 n 32 b = 0 := by simp [exE, gb]
              clear gb
              have hW32 : WW 32 (extV 17 n 32 a) (extV 17 n 32 b) := ⟨by decide, word_wr _ _, word_wr _ _⟩
              have c2 : cmpV 6 32 (extV 17 n 32 a) (extV 17 n 32 b) = cmpV 6 n a b := wide_s n1 n2 hA hB hn
              cases hz : cmpV 6 n a b <;> rw [hz] at c2
              all_goals go_wp2_with (go_at_call 16; refine (acc_p (pExtend _ _ _ _ (by omega) (by omega) _) (by assumption)).mono ?_; rintro e w' ⟨rfl, hb⟩)
              all_goals clear exa exb eea eeb
              · have T0 := Lib.hid (show ∀ w, Calls Tryd.prog 15 #[.int .i64 6, .int .i64 32, .int .u32 (extV 17 n 32 a), .int .u32 (extV 17 n 32 b)] w fun e w' => e = .returned (.bool false) ∧ Below w.heap.size w w' from fun w => by have h := tHolds 6 32 (extV 17 n 32 a) (extV 17 n 32 b) w hW32 (by decide) (by decide); rw [c2] at h; exact h)
                have T1 := Lib.hid (show ∀ w, Calls Tryd.prog 15 #[.int .i64 6, .int .i64 n, .int .u32 a, .int .u32 b] w fun e w' => e = .returned (.bool false) ∧ Below w.heap.size w w' from fun w => by have h := tHolds 6 n a b w hW (by decide) (by decide); rw [hz] at h; exact h)
                clear hz c2
                refine region_calm (Since W2) (by kernel_rfl) (by kernel_rfl) (by first | exact Since.drew1 ‹_›) ?_
                have ne : Nonempty (In (Since W2)) := ⟨⟨_, ‹Since W2 _›⟩⟩
                have s0 : ∀ s : In (Since W2), s.w.cell? ⟨bt, 0, none⟩ = some (.int .i64 16) := fun s => q0 _ s.h
                have s1 : ∀ s : In (Since W2), s.w.cell? ⟨bt, 1, none⟩ = some (.int .i64 17) := fun s => q1 _ s.h
                have s2 : ∀ s : In (Since W2), s.w.cell? ⟨bt + 1, 0, none⟩ = some (.int .i64 2) := fun s => q2 _ s.h
                have s3 : ∀ s : In (Since W2), s.w.cell? ⟨bt + 1, 1, none⟩ = some (.int .i64 6) := fun s => q3 _ s.h
                repeat (go_big_quiet_step ((go_at_call 15; first | (with_reducible exact Calls.calm (T0.out _) (fun w' h => Since.hop (In.h _) h)) | (with_reducible exact Calls.calm (T1.out _) (fun w' h => Since.hop (In.h _) h)))))
                refine wpQuiet_nil ?_
                intro wq hwq
                clear s0 s1 s2 s3 ne
                go_wp2_with fail
                go_roundw
                case rel => exact ⟨2, by decide, by decide, by go_num, ‹_›⟩
                case measure => simp [intOf]
              · have T0 := Lib.hid (show ∀ w, Calls Tryd.prog 15 #[.int .i64 6, .int .i64 32, .int .u32 (extV 17 n 32 a), .int .u32 (extV 17 n 32 b)] w fun e w' => e = .returned (.bool true) ∧ Below w.heap.size w w' from fun w => by have h := tHolds 6 32 (extV 17 n 32 a) (extV 17 n 32 b) w hW32 (by decide) (by decide); rw [c2] at h; exact h)
                have T1 := Lib.hid (show ∀ w, Calls Tryd.prog 15 #[.int .i64 6, .int .i64 n, .int .u32 a, .int .u32 b] w fun e w' => e = .returned (.bool true) ∧ Below w.heap.size w w' from fun w => by have h := tHolds 6 n a b w hW (by decide) (by decide); rw [hz] at h; exact h)
                clear hz c2
                refine region_calm (Since W2) (by kernel_rfl) (by kernel_rfl) (by first | exact Since.drew1 ‹_›) ?_
                have ne : Nonempty (In (Since W2)) := ⟨⟨_, ‹Since W2 _›⟩⟩
                have s0 : ∀ s : In (Since W2), s.w.cell? ⟨bt, 0, none⟩ = some (.int .i64 16) := fun s => q0 _ s.h
                have s1 : ∀ s : In (Since W2), s.w.cell? ⟨bt, 1, none⟩ = some (.int .i64 17) := fun s => q1 _ s.h
                have s2 : ∀ s : In (Since W2), s.w.cell? ⟨bt + 1, 0, none⟩ = some (.int .i64 2) := fun s => q2 _ s.h
                have s3 : ∀ s : In (Since W2), s.w.cell? ⟨bt + 1, 1, none⟩ = some (.int .i64 6) := fun s => q3 _ s.h
                repeat (go_big_quiet_step ((go_at_call 15; first | (with_reducible exact Calls.calm (T0.out _) (fun w' h => Since.hop (In.h _) h)) | (with_reducible exact Calls.calm (T1.out _) (fun w' h => Since.hop (In.h _) h)))))
                refine wpQuiet_nil ?_
                intro wq hwq
                clear s0 s1 s2 s3 ne
                go_wp2_with fail
                go_roundw
                case rel => exact ⟨2, by decide, by decide, by go_num, ‹_›⟩
                case measure => simp [intOf]
            · have hq0 := hs _ hq
              go_wp2_with fail
              go_meet
              case rel => exact hq0
        · have dn : decide (n < 32) = false := decide_eq_false hn
          go_wp2_with fail
          go_meet
          case rel => assumption
      case rest =>
        have hTs : ∀ wk, Since W0 wk → Tab wk := fun wk h => (hT.since (below_box (o := .cells #[.int .u32 a, .int .u32 b, .int .i64 k, .int .i64 l] 29) (by rw [HW0.out]; exact h)))
        have HB0 : Hid (Below w.heap.size w W0) := by rw [← HW0.out]; exact (Below.refl _ _).alloc (Nat.le_refl _) _
        have hw : isW n = true := by simp [isW, n1, n2]
        clear HW0
        by_cases hk : 0 ≤ k ∧ k < n
        · obtain ⟨hk0, hk1⟩ := hk
          have hk2 : k ≤ 31 := by omega
          have e1 : decide (0 ≤ k) = true := decide_eq_true hk0
          have e2 : decide (k < n) = true := decide_eq_true hk1
          obtain ⟨kn, rfl⟩ := Int.eq_ofNat_of_zero_le hk0
          have c2 := r2 _ hcut
          go_upto_if 365 with fail
          clear c2
          go_cut [30, 31, 32, 33, 34, 35, 36, 37, 38, 39, 40, 41] from 357 to 437 (fun _ _ _ _ _ _ _ _ _ _ _ _ wx => Since W0 wx)
          case first =>
            as_aux_lemma =>
              have c2 := r2 _ hcut
              by_cases hf : (kn : Int) < pw n
              · have fk : fit n kn = true := by simp [fit, hf]
                have hWk : WW n a kn := ⟨⟨n1, n2⟩, hA, ⟨by omega, hf⟩⟩
                have hpk : pw (kn : Int) < pw n := by
                  obtain ⟨m, rfl⟩ := Int.eq_ofNat_of_zero_le (show 0 ≤ n by omega)
                  rw [pw_nat, pw_nat]
                  exact_mod_cast Nat.pow_lt_pow_right (by decide) (by omega)
                have hpp := pw_pos (kn : Int)
                have hWp : WW n a (pw kn) := ⟨⟨n1, n2⟩, hA, ⟨by omega, hpk⟩⟩
                have g3 := hWp.good (op := 3) (by decide) (by decide)
                have hpw := tot_word g3 hWp.le.1 hWp.le.2.2.1
                have ep : tot 11 n a kn = tot 3 n a (pw kn) := by rw [shl_mul n1 n2 hA, if_neg (by omega)]
                have eu : tot 12 n a kn = tot 4 n a (pw kn) := shr_div n1 n2 hA hk1
                have ez : (kn : Int) ≤ trl n (tot 11 n a kn) := tz_shl n1 n2 hA hk0 hk1
                have h11 : has 11 n a kn = true := by simp [has]; omega
                have h12 : has 12 n a kn = true := by simp [has]; omega
                have h4 : has 4 n a (pw kn) = true := by simp [has]; omega
                have e2p : (2 : Int) ^ kn % 4294967296 = pw kn := by rw [← pw_cast]; exact Int.emod_eq_of_lt (by omega) (by have := pw_le32 n2; omega)
                have T1 : Hid (∀ w, Calls Tryd.prog 10 #[.int .i64 11, .int .i64 n, .int .u32 a, .int .u32 (kn : Int)] w fun e w' => e = .returned (.tuple #[.int .u32 (tot 3 n a (pw kn)), .bool true]) ∧ Below w.heap.size w w') := fun w => by have h := tDoes 11 n a kn w hWk (by decide) (by decide) h11; rw [ep] at h; exact h
                have T2 : Hid (∀ w, Calls Tryd.prog 10 #[.int .i64 3, .int .i64 n, .int .u32 a, .int .u32 (2 ^ kn % 4294967296)] w fun e w' => e = .returned (.tuple #[.int .u32 (tot 3 n a (pw kn)), .bool true]) ∧ Below w.heap.size w w') := fun w => by have h := tDoes 3 n a (pw kn) w hWp (by decide) (by decide) rfl; rw [e2p]; exact h
                have T3 : Hid (∀ w, Calls Tryd.prog 10 #[.int .i64 12, .int .i64 n, .int .u32 a, .int .u32 (kn : Int)] w fun e w' => e = .returned (.tuple #[.int .u32 (tot 4 n a (pw kn)), .bool true]) ∧ Below w.heap.size w w') := fun w => by have h := tDoes 12 n a kn w hWk (by decide) (by decide) h12; rw [eu] at h; exact h
                have T4 : Hid (∀ w, Calls Tryd.prog 10 #[.int .i64 4, .int .i64 n, .int .u32 a, .int .u32 (2 ^ kn % 4294967296)] w fun e w' => e = .returned (.tuple #[.int .u32 (tot 4 n a (pw kn)), .bool true]) ∧ Below w.heap.size w w') := fun w => by have h := tDoes 4 n a (pw kn) w hWp (by decide) (by decide) h4; rw [e2p]; exact h
                have T6 : Hid (∀ w, Calls Tryd.prog 14 #[.int .i64 12, .int .i64 4, .int .i64 n, .int .u32 a, .int .u32 (kn : Int)] w fun e w' => e = .returned (.bool (brL 4 n a (pw kn))) ∧ Below w.heap.size w w') := fun w => by have h := tBreaksL 12 n a kn w hWk (.inr rfl) h12; rw [left_eq n1 n2 hA] at h; exact h
                have T7 : Hid (∀ w, Calls Tryd.prog 14 #[.int .i64 4, .int .i64 4, .int .i64 n, .int .u32 a, .int .u32 (2 ^ kn % 4294967296)] w fun e w' => e = .returned (.bool (brL 4 n a (pw kn))) ∧ Below w.heap.size w w') := fun w => by have h := tBreaksL 4 n a (pw kn) w hWp (.inl rfl) h4; rw [e2p]; exact h
                rw [ep] at ez
                have hp2 := pw_le32 n2
                have T5 : Hid (∀ w, Tab w → Calls Tryd.prog 5 #[.int .i64 n, .int .u32 (tot 3 n a (pw kn))] w fun e w' => e = .returned (.tuple #[.int .i64 (trl n (tot 3 n a (pw kn))), .int .i64 0]) ∧ Below w.heap.size w w') := fun w hT => by
                  have h := pTrailing n (tot 3 n a (pw kn)) hpw.1 (by have := hpw.2; omega) w hT
                  have hz : (isW n && fit n (tot 3 n a (pw kn))) = true := by simp [hw, fit, hpw.2]
                  rw [show trX n (tot 3 n a (pw kn)) = trl n (tot 3 n a (pw kn)) by simp [trX, hz], show ctE n (tot 3 n a (pw kn)) = 0 by simp [ctE, hz]] at h
                  exact h
                have dz : decide (trl n (tot 3 n a (pw kn)) < (kn : Int)) = false := decide_eq_false (by omega)
                generalize trl n (tot 3 n a (pw kn)) = zz at *
                generalize tot 3 n a (pw kn) = pp at *
                generalize tot 4 n a (pw kn) = uu at *
                generalize brL 4 n a (pw kn) = yy at *
                clear ep eu ez h11 h12 h4 e2p g3 hpw hWk hWp hf hpk hpp hp2
                go_wp2_with (first | ((go_at_call 10; first | (with_reducible refine (T1.out _).mono ?_) | (with_reducible refine (T2.out _).mono ?_) | (with_reducible refine (T3.out _).mono ?_) | (with_reducible refine (T4.out _).mono ?_)); rintro e w' ⟨rfl, hb⟩; have hs' := Since.hop ‹_› hb; clear hb) | ((go_at_call 5; with_reducible refine (T5.out _ (hTs _ ‹_›)).mono ?_); rintro e w' ⟨rfl, hb⟩; have hs' := Since.hop ‹_› hb; clear hb; have c2 := r2 _ hs') | ((go_at_call 14; first | (with_reducible refine (T6.out _).mono ?_) | (with_reducible refine (T7.out _).mono ?_)); rintro e w' ⟨rfl, hb⟩; have hs' := Since.hop ‹_› hb; clear hb) | ((go_at_call 11; refine (rIsWord_any _ _ _ (by omega) (by omega)).mono ?_); rintro e w' ⟨rfl, rfl⟩))
                go_meet
                case rel => assumption
              · have fk : fit n kn = false := by simp [fit]; omega
                go_wp2_with (first | ((go_at_call 10; first | (with_reducible refine (T1.out _).mono ?_) | (with_reducible refine (T2.out _).mono ?_) | (with_reducible refine (T3.out _).mono ?_) | (with_reducible refine (T4.out _).mono ?_)); rintro e w' ⟨rfl, hb⟩; have hs' := Since.hop ‹_› hb; clear hb) | ((go_at_call 5; with_reducible refine (T5.out _ (hTs _ ‹_›)).mono ?_); rintro e w' ⟨rfl, hb⟩; have hs' := Since.hop ‹_› hb; clear hb; have c2 := r2 _ hs') | ((go_at_call 14; first | (with_reducible refine (T6.out _).mono ?_) | (with_reducible refine (T7.out _).mono ?_)); rintro e w' ⟨rfl, hb⟩; have hs' := Since.hop ‹_› hb; clear hb) | ((go_at_call 11; refine (rIsWord_any _ _ _ (by omega) (by omega)).mono ?_); rintro e w' ⟨rfl, rfl⟩))
                go_ret
                exact ⟨rfl, below_hop HB0.out hcut⟩
          case rest =>
            as_aux_lemma =>
              have hp2 := pw_le32 n2
              have g8 := hW.good (op := 8) (by decide) (by decide)
              have g9 := hW.good (op := 9) (by decide) (by decide)
              have w8 := tot_word g8 h3 h5
              have w9 := tot_word g9 h3 h5
              have hsum := on_sum (n := n) (a := a) (b := b)
              have A1 : Hid (∀ w, Calls Tryd.prog 10 #[.int .i64 8, .int .i64 n, .int .u32 a, .int .u32 b] w fun e w' => e = .returned (.tuple #[.int .u32 (tot 8 n a b), .bool true]) ∧ Below w.heap.size w w') := fun w => tDoes 8 n a b w hW (by decide) (by decide) rfl
              have A2 : Hid (∀ w, Calls Tryd.prog 10 #[.int .i64 9, .int .i64 n, .int .u32 a, .int .u32 b] w fun e w' => e = .returned (.tuple #[.int .u32 (tot 9 n a b), .bool true]) ∧ Below w.heap.size w w') := fun w => tDoes 9 n a b w hW (by decide) (by decide) rfl
              have O1 : Hid (∀ w, Calls Tryd.prog 7 #[.int .i64 n, .int .u32 a] w fun e w' => e = .returned (.tuple #[.int .i64 (on n a), .int .i64 0]) ∧ Below w.heap.size w w') := fun w => by
                have h := pOnes n a hA.1 (by have := hA.2; omega) w
                have hz : (isW n && fit n a) = true := by simp [hw, fit, hA.2]
                rw [show onX n a = on n a by simp [onX, hz], show ctE n a = 0 by simp [ctE, hz]] at h
                exact h
              have O2 : Hid (∀ w, Calls Tryd.prog 7 #[.int .i64 n, .int .u32 b] w fun e w' => e = .returned (.tuple #[.int .i64 (on n b), .int .i64 0]) ∧ Below w.heap.size w w') := fun w => by
                have h := pOnes n b hB.1 (by have := hB.2; omega) w
                have hz : (isW n && fit n b) = true := by simp [hw, fit, hB.2]
                rw [show onX n b = on n b by simp [onX, hz], show ctE n b = 0 by simp [ctE, hz]] at h
                exact h
              have O3 : Hid (∀ w, Calls Tryd.prog 7 #[.int .i64 n, .int .u32 (tot 8 n a b)] w fun e w' => e = .returned (.tuple #[.int .i64 (on n (tot 8 n a b)), .int .i64 0]) ∧ Below w.heap.size w w') := fun w => by
                have h := pOnes n (tot 8 n a b) w8.1 (by have := w8.2; omega) w
                have hz : (isW n && fit n (tot 8 n a b)) = true := by simp [hw, fit, w8.2]
                rw [show onX n (tot 8 n a b) = on n (tot 8 n a b) by simp [onX, hz], show ctE n (tot 8 n a b) = 0 by simp [ctE, hz]] at h
                exact h
              have O4 : Hid (∀ w, Calls Tryd.prog 7 #[.int .i64 n, .int .u32 (tot 9 n a b)] w fun e w' => e = .returned (.tuple #[.int .i64 (on n (tot 9 n a b)), .int .i64 0]) ∧ Below w.heap.size w w') := fun w => by
                have h := pOnes n (tot 9 n a b) w9.1 (by have := w9.2; omega) w
                have hz : (isW n && fit n (tot 9 n a b)) = true := by simp [hw, fit, w9.2]
                rw [show onX n (tot 9 n a b) = on n (tot 9 n a b) by simp [onX, hz], show ctE n (tot 9 n a b) = 0 by simp [ctE, hz]] at h
                exact h
              have b1 := on_le n1 n2 a
              have b2 := on_le n1 n2 b
              have b3 := on_le n1 n2 (tot 8 n a b)
              have b4 := on_le n1 n2 (tot 9 n a b)
              generalize on n a = y1 at *
              generalize on n b = y2 at *
              generalize on n (tot 8 n a b) = y3 at *
              generalize on n (tot 9 n a b) = y4 at *
              generalize tot 8 n a b = xc at *
              generalize tot 9 n a b = xo at *
              have es : (y1 + y2 != y3 + y4) = false := by simp; exact hsum
              obtain ⟨b11, b12⟩ := b1
              obtain ⟨b21, b22⟩ := b2
              obtain ⟨b31, b32⟩ := b3
              obtain ⟨b41, b42⟩ := b4
              clear g8 g9 w8 w9 hsum hw
              have c3 := r3 _ hcut
              have HL := Lib.hid (fun w => pLanes 19 n l a b w h3 h4 h5 h6)
              cases g : goodL 19 n l a b
              · have L1 : Hid (∀ w, Calls Tryd.prog 17 #[.int .i64 19, .int .i64 n, .int .i64 l, .int .u32 a, .int .u32 b] w fun e w' => e = .returned (.tuple #[.int .u32 (laX 19 n l a b), .int .i64 1]) ∧ Below w.heap.size w w') := fun w => by have h := HL.out w; rw [show laE 19 n l a b = 1 by simp [laE, g]] at h; exact h
                clear HL g
                generalize laX 19 n l a b = lx at *
                go_wp2_with (first | ((go_at_call 10; first | (with_reducible refine (A1.out _).mono ?_) | (with_reducible refine (A2.out _).mono ?_)); rintro e w' ⟨rfl, hb⟩; have hs' := Since.hop ‹_› hb; clear hb; have c3 := r3 _ hs') | ((go_at_call 7; first | (with_reducible refine (O1.out _).mono ?_) | (with_reducible refine (O2.out _).mono ?_) | (with_reducible refine (O3.out _).mono ?_) | (with_reducible refine (O4.out _).mono ?_)); rintro e w' ⟨rfl, hb⟩; have hs' := Since.hop ‹_› hb; clear hb; have c3 := r3 _ hs') | ((go_at_call 17; first | (with_reducible refine (L1.out _).mono ?_)); rintro e w' ⟨rfl, hb⟩; have hs' := Since.hop ‹_› hb; clear hb; have c3 := r3 _ hs'))
                go_ret
                exact ⟨rfl, below_hop HB0.out ‹_›⟩
              · have hlane := fun j hj => lane_is (n := n) (l := l) (a := a) (b := b) g j hj
                have L1 : Hid (∀ w, Calls Tryd.prog 17 #[.int .i64 19, .int .i64 n, .int .i64 l, .int .u32 a, .int .u32 b] w fun e w' => e = .returned (.tuple #[.int .u32 (lanes 19 n l a b), .int .i64 0]) ∧ Below w.heap.size w w') := fun w => by have h := HL.out w; rw [show laE 19 n l a b = 0 by simp [laE, g], show laX 19 n l a b = lanes 19 n l a b by simp [laX, g]] at h; exact h
                clear HL
                obtain ⟨_, _, _, _, _, g5, g6, g7⟩ := (goodL_iff _ _ _ _ _).1 g
                have hc := lanes_count g5 g7 n1
                have hbd := lanes_bd (op := 19) (n := n) (l := l) (a := a) (b := b) g5 g7 n1
                obtain ⟨sl0, sl1⟩ := hbd
                have HLN := Lib.hid hlane
                clear hlane
                generalize lanes 19 n l a b = sx at *
                obtain ⟨lk, rfl⟩ := Int.eq_ofNat_of_zero_le (show 0 ≤ l by omega)
                obtain ⟨m, rfl⟩ := Int.eq_ofNat_of_zero_le (show 0 ≤ n by omega)
                generalize hcc : (((m : Int) / (lk : Int)).toNat) = cn at *
                have hc2 : cn * lk = m := by exact_mod_cast hc
                have HC := Lib.hid hc2
                have d0 : decide ((0 : Int) < (lk : Int)) = true := decide_eq_true (by omega)
                clear hcc hc hc2 g g7
                go_wp2_with (first | ((go_at_call 10; first | (with_reducible refine (A1.out _).mono ?_) | (with_reducible refine (A2.out _).mono ?_)); rintro e w' ⟨rfl, hb⟩; have hs' := Since.hop ‹_› hb; clear hb; have c3 := r3 _ hs') | ((go_at_call 7; first | (with_reducible refine (O1.out _).mono ?_) | (with_reducible refine (O2.out _).mono ?_) | (with_reducible refine (O3.out _).mono ?_) | (with_reducible refine (O4.out _).mono ?_)); rintro e w' ⟨rfl, hb⟩; have hs' := Since.hop ‹_› hb; clear hb; have c3 := r3 _ hs') | ((go_at_call 17; first | (with_reducible refine (L1.out _).mono ?_)); rintro e w' ⟨rfl, hb⟩; have hs' := Since.hop ‹_› hb; clear hb; have c3 := r3 _ hs'))
                clear c3 A1 A2 O1 O2 O3 O4 L1 es b11 b12 b21 b22 b31 b32 b41 b42
                go_loopw [56] (fun i wr => ∃ j t : Nat, Hid (t = j * lk) ∧ j ≤ cn ∧ i = .int .i64 t ∧ Since W0 wr) (fun i _ => m - (intOf i).toNat)
                case atStart => exact ⟨0, 0, by simp [Hid], Nat.zero_le _, rfl, ‹_›⟩
                case round =>
                  obtain ⟨j, t, ht, hj, rfl, hq⟩ := hrel
                  have c3 := r3 _ hq
                  by_cases hlt : j < cn
                  · have htm : t + lk ≤ m := by
                      have : (j + 1) * lk ≤ cn * lk := Nat.mul_le_mul_right lk hlt
                      rw [HC.out, Nat.succ_mul, ← ht.out] at this
                      omega
                    have t1 : decide ((t : Int) + (lk : Int) ≤ (m : Int)) = true := decide_eq_true (by omega)
                    have t2 : decide (t + lk ≤ m) = true := decide_eq_true (by omega)
                    have s3 : pw (lk : Int) ^ j = 2 ^ t := by rw [pw_mul, ht.out]
                    have hj2 : (j : Int) * (lk : Int) + lk ≤ m := by
                      have : ((t : Nat) : Int) = (j : Int) * (lk : Int) := by rw [ht.out]; simp
                      omega
                    have hl := HLN.out j hj2
                    rw [s3] at hl
                    have q := @pw_le31 (lk : Int) (by omega)
                    have q0 := pw_pos (lk : Int)
                    have qc : (2 : Int) ^ lk = pw lk := (pw_cast lk).symm
                    have em : IntKind.u64.wrap (IntKind.u64.wrap (2 ^ lk) - 1) % 4294967296 = pw lk - 1 := by
                      rw [qc]
                      simp only [IntKind.wrap_u64]
                      omega
                    have m1 := mask_fit (n := lk) (x := a / 2 ^ t) (by omega) (Int.ediv_nonneg h3 (Int.pow_nonneg (by decide))) (Int.le_trans (Int.ediv_le_self _ h3) h4)
                    have m2 := mask_fit (n := lk) (x := b / 2 ^ t) (by omega) (Int.ediv_nonneg h5 (Int.pow_nonneg (by decide))) (Int.le_trans (Int.ediv_le_self _ h5) h6)
                    have m3 := mask_fit (n := lk) (x := sx / 2 ^ t) (by omega) (Int.ediv_nonneg sl0 (Int.pow_nonneg (by decide))) (Int.le_trans (Int.ediv_le_self _ sl0) (by omega))
                    rw [hl] at m3
                    have x1 := wr_lo lk (a / 2 ^ t)
                    have x2 := wr_hi lk (a / 2 ^ t)
                    have y1 := wr_lo lk (b / 2 ^ t)
                    have y2 := wr_hi lk (b / 2 ^ t)
                    generalize Wd.wr (lk : Int) (a / 2 ^ t) = x at *
                    generalize Wd.wr (lk : Int) (b / 2 ^ t) = y at *
                    have T9 := Lib.hid (fun w => tDoes 1 lk x y w ⟨⟨by omega, by omega⟩, ⟨x1, x2⟩, ⟨y1, y2⟩⟩ (by decide) (by decide) rfl)
                    generalize tot 1 lk x y = zt at *
                    have hlt2 : t < m := by omega
                    clear hl s3 qc x1 x2 y1 y2 hj2
                    go_wp2_with (first | ((go_at_call 10; first | (with_reducible refine (T9.out _).mono ?_)); rintro e w' ⟨rfl, hb⟩; have hs' := Since.hop ‹_› hb; clear hb; have c3 := r3 _ hs'))
                    go_roundw
                    case rel => exact ⟨j + 1, t + lk, by show t + lk = (j + 1) * lk; rw [ht.out, Nat.succ_mul], hlt, by go_num, ‹_›⟩
                    case measure => simp [intOf]; omega
                  · obtain rfl : j = cn := by omega
                    obtain rfl : t = m := by rw [ht.out, HC.out]
                    have t1 : decide ((t : Int) + (lk : Int) ≤ (t : Int)) = false := decide_eq_false (by omega)
                    have t2 : decide (t + lk ≤ t) = false := decide_eq_false (by omega)
                    go_wp2_with fail
                    go_ret
                    exact ⟨rfl, below_hop HB0.out hq⟩
        · by_cases hk0 : 0 ≤ k
          · have e1 : decide (0 ≤ k) = true := decide_eq_true hk0
            have e2 : decide (k < n) = false := decide_eq_false (by omega)
            have c2 := r2 _ hcut
            as_aux_lemma =>
              have hp2 := pw_le32 n2
              have g8 := hW.good (op := 8) (by decide) (by decide)
              have g9 := hW.good (op := 9) (by decide) (by decide)
              have w8 := tot_word g8 h3 h5
              have w9 := tot_word g9 h3 h5
              have hsum := on_sum (n := n) (a := a) (b := b)
              have A1 : Hid (∀ w, Calls Tryd.prog 10 #[.int .i64 8, .int .i64 n, .int .u32 a, .int .u32 b] w fun e w' => e = .returned (.tuple #[.int .u32 (tot 8 n a b), .bool true]) ∧ Below w.heap.size w w') := fun w => tDoes 8 n a b w hW (by decide) (by decide) rfl
              have A2 : Hid (∀ w, Calls Tryd.prog 10 #[.int .i64 9, .int .i64 n, .int .u32 a, .int .u32 b] w fun e w' => e = .returned (.tuple #[.int .u32 (tot 9 n a b), .bool true]) ∧ Below w.heap.size w w') := fun w => tDoes 9 n a b w hW (by decide) (by decide) rfl
              have O1 : Hid (∀ w, Calls Tryd.prog 7 #[.int .i64 n, .int .u32 a] w fun e w' => e = .returned (.tuple #[.int .i64 (on n a), .int .i64 0]) ∧ Below w.heap.size w w') := fun w => by
                have h := pOnes n a hA.1 (by have := hA.2; omega) w
                have hz : (isW n && fit n a) = true := by simp [hw, fit, hA.2]
                rw [show onX n a = on n a by simp [onX, hz], show ctE n a = 0 by simp [ctE, hz]] at h
                exact h
              have O2 : Hid (∀ w, Calls Tryd.prog 7 #[.int .i64 n, .int .u32 b] w fun e w' => e = .returned (.tuple #[.int .i64 (on n b), .int .i64 0]) ∧ Below w.heap.size w w') := fun w => by
                have h := pOnes n b hB.1 (by have := hB.2; omega) w
                have hz : (isW n && fit n b) = true := by simp [hw, fit, hB.2]
                rw [show onX n b = on n b by simp [onX, hz], show ctE n b = 0 by simp [ctE, hz]] at h
                exact h
              have O3 : Hid (∀ w, Calls Tryd.prog 7 #[.int .i64 n, .int .u32 (tot 8 n a b)] w fun e w' => e = .returned (.tuple #[.int .i64 (on n (tot 8 n a b)), .int .i64 0]) ∧ Below w.heap.size w w') := fun w => by
                have h := pOnes n (tot 8 n a b) w8.1 (by have := w8.2; omega) w
                have hz : (isW n && fit n (tot 8 n a b)) = true := by simp [hw, fit, w8.2]
                rw [show onX n (tot 8 n a b) = on n (tot 8 n a b) by simp [onX, hz], show ctE n (tot 8 n a b) = 0 by simp [ctE, hz]] at h
                exact h
              have O4 : Hid (∀ w, Calls Tryd.prog 7 #[.int .i64 n, .int .u32 (tot 9 n a b)] w fun e w' => e = .returned (.tuple #[.int .i64 (on n (tot 9 n a b)), .int .i64 0]) ∧ Below w.heap.size w w') := fun w => by
                have h := pOnes n (tot 9 n a b) w9.1 (by have := w9.2; omega) w
                have hz : (isW n && fit n (tot 9 n a b)) = true := by simp [hw, fit, w9.2]
                rw [show onX n (tot 9 n a b) = on n (tot 9 n a b) by simp [onX, hz], show ctE n (tot 9 n a b) = 0 by simp [ctE, hz]] at h
                exact h
              have b1 := on_le n1 n2 a
              have b2 := on_le n1 n2 b
              have b3 := on_le n1 n2 (tot 8 n a b)
              have b4 := on_le n1 n2 (tot 9 n a b)
              generalize on n a = y1 at *
              generalize on n b = y2 at *
              generalize on n (tot 8 n a b) = y3 at *
              generalize on n (tot 9 n a b) = y4 at *
              generalize tot 8 n a b = xc at *
              generalize tot 9 n a b = xo at *
              have es : (y1 + y2 != y3 + y4) = false := by simp; exact hsum
              obtain ⟨b11, b12⟩ := b1
              obtain ⟨b21, b22⟩ := b2
              obtain ⟨b31, b32⟩ := b3
              obtain ⟨b41, b42⟩ := b4
              clear g8 g9 w8 w9 hsum hw
              have c3 := r3 _ hcut
              have HL := Lib.hid (fun w => pLanes 19 n l a b w h3 h4 h5 h6)
              cases g : goodL 19 n l a b
              · have L1 : Hid (∀ w, Calls Tryd.prog 17 #[.int .i64 19, .int .i64 n, .int .i64 l, .int .u32 a, .int .u32 b] w fun e w' => e = .returned (.tuple #[.int .u32 (laX 19 n l a b), .int .i64 1]) ∧ Below w.heap.size w w') := fun w => by have h := HL.out w; rw [show laE 19 n l a b = 1 by simp [laE, g]] at h; exact h
                clear HL g
                generalize laX 19 n l a b = lx at *
                go_wp2_with (first | ((go_at_call 10; first | (with_reducible refine (A1.out _).mono ?_) | (with_reducible refine (A2.out _).mono ?_)); rintro e w' ⟨rfl, hb⟩; have hs' := Since.hop ‹_› hb; clear hb; have c3 := r3 _ hs') | ((go_at_call 7; first | (with_reducible refine (O1.out _).mono ?_) | (with_reducible refine (O2.out _).mono ?_) | (with_reducible refine (O3.out _).mono ?_) | (with_reducible refine (O4.out _).mono ?_)); rintro e w' ⟨rfl, hb⟩; have hs' := Since.hop ‹_› hb; clear hb; have c3 := r3 _ hs') | ((go_at_call 17; first | (with_reducible refine (L1.out _).mono ?_)); rintro e w' ⟨rfl, hb⟩; have hs' := Since.hop ‹_› hb; clear hb; have c3 := r3 _ hs'))
                go_ret
                exact ⟨rfl, below_hop HB0.out ‹_›⟩
              · have hlane := fun j hj => lane_is (n := n) (l := l) (a := a) (b := b) g j hj
                have L1 : Hid (∀ w, Calls Tryd.prog 17 #[.int .i64 19, .int .i64 n, .int .i64 l, .int .u32 a, .int .u32 b] w fun e w' => e = .returned (.tuple #[.int .u32 (lanes 19 n l a b), .int .i64 0]) ∧ Below w.heap.size w w') := fun w => by have h := HL.out w; rw [show laE 19 n l a b = 0 by simp [laE, g], show laX 19 n l a b = lanes 19 n l a b by simp [laX, g]] at h; exact h
                clear HL
                obtain ⟨_, _, _, _, _, g5, g6, g7⟩ := (goodL_iff _ _ _ _ _).1 g
                have hc := lanes_count g5 g7 n1
                have hbd := lanes_bd (op := 19) (n := n) (l := l) (a := a) (b := b) g5 g7 n1
                obtain ⟨sl0, sl1⟩ := hbd
                have HLN := Lib.hid hlane
                clear hlane
                generalize lanes 19 n l a b = sx at *
                obtain ⟨lk, rfl⟩ := Int.eq_ofNat_of_zero_le (show 0 ≤ l by omega)
                obtain ⟨m, rfl⟩ := Int.eq_ofNat_of_zero_le (show 0 ≤ n by omega)
                generalize hcc : (((m : Int) / (lk : Int)).toNat) = cn at *
                have hc2 : cn * lk = m := by exact_mod_cast hc
                have HC := Lib.hid hc2
                have d0 : decide ((0 : Int) < (lk : Int)) = true := decide_eq_true (by omega)
                clear hcc hc hc2 g g7
                go_wp2_with (first | ((go_at_call 10; first | (with_reducible refine (A1.out _).mono ?_) | (with_reducible refine (A2.out _).mono ?_)); rintro e w' ⟨rfl, hb⟩; have hs' := Since.hop ‹_› hb; clear hb; have c3 := r3 _ hs') | ((go_at_call 7; first | (with_reducible refine (O1.out _).mono ?_) | (with_reducible refine (O2.out _).mono ?_) | (with_reducible refine (O3.out _).mono ?_) | (with_reducible refine (O4.out _).mono ?_)); rintro e w' ⟨rfl, hb⟩; have hs' := Since.hop ‹_› hb; clear hb; have c3 := r3 _ hs') | ((go_at_call 17; first | (with_reducible refine (L1.out _).mono ?_)); rintro e w' ⟨rfl, hb⟩; have hs' := Since.hop ‹_› hb; clear hb; have c3 := r3 _ hs'))
                clear c3 A1 A2 O1 O2 O3 O4 L1 es b11 b12 b21 b22 b31 b32 b41 b42
                go_loopw [56] (fun i wr => ∃ j t : Nat, Hid (t = j * lk) ∧ j ≤ cn ∧ i = .int .i64 t ∧ Since W0 wr) (fun i _ => m - (intOf i).toNat)
                case atStart => exact ⟨0, 0, by simp [Hid], Nat.zero_le _, rfl, ‹_›⟩
                case round =>
                  obtain ⟨j, t, ht, hj, rfl, hq⟩ := hrel
                  have c3 := r3 _ hq
                  by_cases hlt : j < cn
                  · have htm : t + lk ≤ m := by
                      have : (j + 1) * lk ≤ cn * lk := Nat.mul_le_mul_right lk hlt
                      rw [HC.out, Nat.succ_mul, ← ht.out] at this
                      omega
                    have t1 : decide ((t : Int) + (lk : Int) ≤ (m : Int)) = true := decide_eq_true (by omega)
                    have t2 : decide (t + lk ≤ m) = true := decide_eq_true (by omega)
                    have s3 : pw (lk : Int) ^ j = 2 ^ t := by rw [pw_mul, ht.out]
                    have hj2 : (j : Int) * (lk : Int) + lk ≤ m := by
                      have : ((t : Nat) : Int) = (j : Int) * (lk : Int) := by rw [ht.out]; simp
                      omega
                    have hl := HLN.out j hj2
                    rw [s3] at hl
                    have q := @pw_le31 (lk : Int) (by omega)
                    have q0 := pw_pos (lk : Int)
                    have qc : (2 : Int) ^ lk = pw lk := (pw_cast lk).symm
                    have em : IntKind.u64.wrap (IntKind.u64.wrap (2 ^ lk) - 1) % 4294967296 = pw lk - 1 := by
                      rw [qc]
                      simp only [IntKind.wrap_u64]
                      omega
                    have m1 := mask_fit (n := lk) (x := a / 2 ^ t) (by omega) (Int.ediv_nonneg h3 (Int.pow_nonneg (by decide))) (Int.le_trans (Int.ediv_le_self _ h3) h4)
                    have m2 := mask_fit (n := lk) (x := b / 2 ^ t) (by omega) (Int.ediv_nonneg h5 (Int.pow_nonneg (by decide))) (Int.le_trans (Int.ediv_le_self _ h5) h6)
                    have m3 := mask_fit (n := lk) (x := sx / 2 ^ t) (by omega) (Int.ediv_nonneg sl0 (Int.pow_nonneg (by decide))) (Int.le_trans (Int.ediv_le_self _ sl0) (by omega))
                    rw [hl] at m3
                    have x1 := wr_lo lk (a / 2 ^ t)
                    have x2 := wr_hi lk (a / 2 ^ t)
                    have y1 := wr_lo lk (b / 2 ^ t)
                    have y2 := wr_hi lk (b / 2 ^ t)
                    generalize Wd.wr (lk : Int) (a / 2 ^ t) = x at *
                    generalize Wd.wr (lk : Int) (b / 2 ^ t) = y at *
                    have T9 := Lib.hid (fun w => tDoes 1 lk x y w ⟨⟨by omega, by omega⟩, ⟨x1, x2⟩, ⟨y1, y2⟩⟩ (by decide) (by decide) rfl)
                    generalize tot 1 lk x y = zt at *
                    have hlt2 : t < m := by omega
                    clear hl s3 qc x1 x2 y1 y2 hj2
                    go_wp2_with (first | ((go_at_call 10; first | (with_reducible refine (T9.out _).mono ?_)); rintro e w' ⟨rfl, hb⟩; have hs' := Since.hop ‹_› hb; clear hb; have c3 := r3 _ hs'))
                    go_roundw
                    case rel => exact ⟨j + 1, t + lk, by show t + lk = (j + 1) * lk; rw [ht.out, Nat.succ_mul], hlt, by go_num, ‹_›⟩
                    case measure => simp [intOf]; omega
                  · obtain rfl : j = cn := by omega
                    obtain rfl : t = m := by rw [ht.out, HC.out]
                    have t1 : decide ((t : Int) + (lk : Int) ≤ (t : Int)) = false := decide_eq_false (by omega)
                    have t2 : decide (t + lk ≤ t) = false := decide_eq_false (by omega)
                    go_wp2_with fail
                    go_ret
                    exact ⟨rfl, below_hop HB0.out hq⟩
          · have e1 : decide (0 ≤ k) = false := decide_eq_false hk0
            have c2 := r2 _ hcut
            as_aux_lemma =>
              have hp2 := pw_le32 n2
              have g8 := hW.good (op := 8) (by decide) (by decide)
              have g9 := hW.good (op := 9) (by decide) (by decide)
              have w8 := tot_word g8 h3 h5
              have w9 := tot_word g9 h3 h5
              have hsum := on_sum (n := n) (a := a) (b := b)
              have A1 : Hid (∀ w, Calls Tryd.prog 10 #[.int .i64 8, .int .i64 n, .int .u32 a, .int .u32 b] w fun e w' => e = .returned (.tuple #[.int .u32 (tot 8 n a b), .bool true]) ∧ Below w.heap.size w w') := fun w => tDoes 8 n a b w hW (by decide) (by decide) rfl
              have A2 : Hid (∀ w, Calls Tryd.prog 10 #[.int .i64 9, .int .i64 n, .int .u32 a, .int .u32 b] w fun e w' => e = .returned (.tuple #[.int .u32 (tot 9 n a b), .bool true]) ∧ Below w.heap.size w w') := fun w => tDoes 9 n a b w hW (by decide) (by decide) rfl
              have O1 : Hid (∀ w, Calls Tryd.prog 7 #[.int .i64 n, .int .u32 a] w fun e w' => e = .returned (.tuple #[.int .i64 (on n a), .int .i64 0]) ∧ Below w.heap.size w w') := fun w => by
                have h := pOnes n a hA.1 (by have := hA.2; omega) w
                have hz : (isW n && fit n a) = true := by simp [hw, fit, hA.2]
                rw [show onX n a = on n a by simp [onX, hz], show ctE n a = 0 by simp [ctE, hz]] at h
                exact h
              have O2 : Hid (∀ w, Calls Tryd.prog 7 #[.int .i64 n, .int .u32 b] w fun e w' => e = .returned (.tuple #[.int .i64 (on n b), .int .i64 0]) ∧ Below w.heap.size w w') := fun w => by
                have h := pOnes n b hB.1 (by have := hB.2; omega) w
                have hz : (isW n && fit n b) = true := by simp [hw, fit, hB.2]
                rw [show onX n b = on n b by simp [onX, hz], show ctE n b = 0 by simp [ctE, hz]] at h
                exact h
              have O3 : Hid (∀ w, Calls Tryd.prog 7 #[.int .i64 n, .int .u32 (tot 8 n a b)] w fun e w' => e = .returned (.tuple #[.int .i64 (on n (tot 8 n a b)), .int .i64 0]) ∧ Below w.heap.size w w') := fun w => by
                have h := pOnes n (tot 8 n a b) w8.1 (by have := w8.2; omega) w
                have hz : (isW n && fit n (tot 8 n a b)) = true := by simp [hw, fit, w8.2]
                rw [show onX n (tot 8 n a b) = on n (tot 8 n a b) by simp [onX, hz], show ctE n (tot 8 n a b) = 0 by simp [ctE, hz]] at h
                exact h
              have O4 : Hid (∀ w, Calls Tryd.prog 7 #[.int .i64 n, .int .u32 (tot 9 n a b)] w fun e w' => e = .returned (.tuple #[.int .i64 (on n (tot 9 n a b)), .int .i64 0]) ∧ Below w.heap.size w w') := fun w => by
                have h := pOnes n (tot 9 n a b) w9.1 (by have := w9.2; omega) w
                have hz : (isW n && fit n (tot 9 n a b)) = true := by simp [hw, fit, w9.2]
                rw [show onX n (tot 9 n a b) = on n (tot 9 n a b) by simp [onX, hz], show ctE n (tot 9 n a b) = 0 by simp [ctE, hz]] at h
                exact h
              have b1 := on_le n1 n2 a
              have b2 := on_le n1 n2 b
              have b3 := on_le n1 n2 (tot 8 n a b)
              have b4 := on_le n1 n2 (tot 9 n a b)
              generalize on n a = y1 at *
              generalize on n b = y2 at *
              generalize on n (tot 8 n a b) = y3 at *
              generalize on n (tot 9 n a b) = y4 at *
              generalize tot 8 n a b = xc at *
              generalize tot 9 n a b = xo at *
              have es : (y1 + y2 != y3 + y4) = false := by simp; exact hsum
              obtain ⟨b11, b12⟩ := b1
              obtain ⟨b21, b22⟩ := b2
              obtain ⟨b31, b32⟩ := b3
              obtain ⟨b41, b42⟩ := b4
              clear g8 g9 w8 w9 hsum hw
              have c3 := r3 _ hcut
              have HL := Lib.hid (fun w => pLanes 19 n l a b w h3 h4 h5 h6)
              cases g : goodL 19 n l a b
              · have L1 : Hid (∀ w, Calls Tryd.prog 17 #[.int .i64 19, .int .i64 n, .int .i64 l, .int .u32 a, .int .u32 b] w fun e w' => e = .returned (.tuple #[.int .u32 (laX 19 n l a b), .int .i64 1]) ∧ Below w.heap.size w w') := fun w => by have h := HL.out w; rw [show laE 19 n l a b = 1 by simp [laE, g]] at h; exact h
                clear HL g
                generalize laX 19 n l a b = lx at *
                go_wp2_with (first | ((go_at_call 10; first | (with_reducible refine (A1.out _).mono ?_) | (with_reducible refine (A2.out _).mono ?_)); rintro e w' ⟨rfl, hb⟩; have hs' := Since.hop ‹_› hb; clear hb; have c3 := r3 _ hs') | ((go_at_call 7; first | (with_reducible refine (O1.out _).mono ?_) | (with_reducible refine (O2.out _).mono ?_) | (with_reducible refine (O3.out _).mono ?_) | (with_reducible refine (O4.out _).mono ?_)); rintro e w' ⟨rfl, hb⟩; have hs' := Since.hop ‹_› hb; clear hb; have c3 := r3 _ hs') | ((go_at_call 17; first | (with_reducible refine (L1.out _).mono ?_)); rintro e w' ⟨rfl, hb⟩; have hs' := Since.hop ‹_› hb; clear hb; have c3 := r3 _ hs'))
                go_ret
                exact ⟨rfl, below_hop HB0.out ‹_›⟩
              · have hlane := fun j hj => lane_is (n := n) (l := l) (a := a) (b := b) g j hj
                have L1 : Hid (∀ w, Calls Tryd.prog 17 #[.int .i64 19, .int .i64 n, .int .i64 l, .int .u32 a, .int .u32 b] w fun e w' => e = .returned (.tuple #[.int .u32 (lanes 19 n l a b), .int .i64 0]) ∧ Below w.heap.size w w') := fun w => by have h := HL.out w; rw [show laE 19 n l a b = 0 by simp [laE, g], show laX 19 n l a b = lanes 19 n l a b by simp [laX, g]] at h; exact h
                clear HL
                obtain ⟨_, _, _, _, _, g5, g6, g7⟩ := (goodL_iff _ _ _ _ _).1 g
                have hc := lanes_count g5 g7 n1
                have hbd := lanes_bd (op := 19) (n := n) (l := l) (a := a) (b := b) g5 g7 n1
                obtain ⟨sl0, sl1⟩ := hbd
                have HLN := Lib.hid hlane
                clear hlane
                generalize lanes 19 n l a b = sx at *
                obtain ⟨lk, rfl⟩ := Int.eq_ofNat_of_zero_le (show 0 ≤ l by omega)
                obtain ⟨m, rfl⟩ := Int.eq_ofNat_of_zero_le (show 0 ≤ n by omega)
                generalize hcc : (((m : Int) / (lk : Int)).toNat) = cn at *
                have hc2 : cn * lk = m := by exact_mod_cast hc
                have HC := Lib.hid hc2
                have d0 : decide ((0 : Int) < (lk : Int)) = true := decide_eq_true (by omega)
                clear hcc hc hc2 g g7
                go_wp2_with (first | ((go_at_call 10; first | (with_reducible refine (A1.out _).mono ?_) | (with_reducible refine (A2.out _).mono ?_)); rintro e w' ⟨rfl, hb⟩; have hs' := Since.hop ‹_› hb; clear hb; have c3 := r3 _ hs') | ((go_at_call 7; first | (with_reducible refine (O1.out _).mono ?_) | (with_reducible refine (O2.out _).mono ?_) | (with_reducible refine (O3.out _).mono ?_) | (with_reducible refine (O4.out _).mono ?_)); rintro e w' ⟨rfl, hb⟩; have hs' := Since.hop ‹_› hb; clear hb; have c3 := r3 _ hs') | ((go_at_call 17; first | (with_reducible refine (L1.out _).mono ?_)); rintro e w' ⟨rfl, hb⟩; have hs' := Since.hop ‹_› hb; clear hb; have c3 := r3 _ hs'))
                clear c3 A1 A2 O1 O2 O3 O4 L1 es b11 b12 b21 b22 b31 b32 b41 b42
                go_loopw [56] (fun i wr => ∃ j t : Nat, Hid (t = j * lk) ∧ j ≤ cn ∧ i = .int .i64 t ∧ Since W0 wr) (fun i _ => m - (intOf i).toNat)
                case atStart => exact ⟨0, 0, by simp [Hid], Nat.zero_le _, rfl, ‹_›⟩
                case round =>
                  obtain ⟨j, t, ht, hj, rfl, hq⟩ := hrel
                  have c3 := r3 _ hq
                  by_cases hlt : j < cn
                  · have htm : t + lk ≤ m := by
                      have : (j + 1) * lk ≤ cn * lk := Nat.mul_le_mul_right lk hlt
                      rw [HC.out, Nat.succ_mul, ← ht.out] at this
                      omega
                    have t1 : decide ((t : Int) + (lk : Int) ≤ (m : Int)) = true := decide_eq_true (by omega)
                    have t2 : decide (t + lk ≤ m) = true := decide_eq_true (by omega)
                    have s3 : pw (lk : Int) ^ j = 2 ^ t := by rw [pw_mul, ht.out]
                    have hj2 : (j : Int) * (lk : Int) + lk ≤ m := by
                      have : ((t : Nat) : Int) = (j : Int) * (lk : Int) := by rw [ht.out]; simp
                      omega
                    have hl := HLN.out j hj2
                    rw [s3] at hl
                    have q := @pw_le31 (lk : Int) (by omega)
                    have q0 := pw_pos (lk : Int)
                    have qc : (2 : Int) ^ lk = pw lk := (pw_cast lk).symm
                    have em : IntKind.u64.wrap (IntKind.u64.wrap (2 ^ lk) - 1) % 4294967296 = pw lk - 1 := by
                      rw [qc]
                      simp only [IntKind.wrap_u64]
                      omega
                    have m1 := mask_fit (n := lk) (x := a / 2 ^ t) (by omega) (Int.ediv_nonneg h3 (Int.pow_nonneg (by decide))) (Int.le_trans (Int.ediv_le_self _ h3) h4)
                    have m2 := mask_fit (n := lk) (x := b / 2 ^ t) (by omega) (Int.ediv_nonneg h5 (Int.pow_nonneg (by decide))) (Int.le_trans (Int.ediv_le_self _ h5) h6)
                    have m3 := mask_fit (n := lk) (x := sx / 2 ^ t) (by omega) (Int.ediv_nonneg sl0 (Int.pow_nonneg (by decide))) (Int.le_trans (Int.ediv_le_self _ sl0) (by omega))
                    rw [hl] at m3
                    have x1 := wr_lo lk (a / 2 ^ t)
                    have x2 := wr_hi lk (a / 2 ^ t)
                    have y1 := wr_lo lk (b / 2 ^ t)
                    have y2 := wr_hi lk (b / 2 ^ t)
                    generalize Wd.wr (lk : Int) (a / 2 ^ t) = x at *
                    generalize Wd.wr (lk : Int) (b / 2 ^ t) = y at *
                    have T9 := Lib.hid (fun w => tDoes 1 lk x y w ⟨⟨by omega, by omega⟩, ⟨x1, x2⟩, ⟨y1, y2⟩⟩ (by decide) (by decide) rfl)
                    generalize tot 1 lk x y = zt at *
                    have hlt2 : t < m := by omega
                    clear hl s3 qc x1 x2 y1 y2 hj2
                    go_wp2_with (first | ((go_at_call 10; first | (with_reducible refine (T9.out _).mono ?_)); rintro e w' ⟨rfl, hb⟩; have hs' := Since.hop ‹_› hb; clear hb; have c3 := r3 _ hs'))
                    go_roundw
                    case rel => exact ⟨j + 1, t + lk, by show t + lk = (j + 1) * lk; rw [ht.out, Nat.succ_mul], hlt, by go_num, ‹_›⟩
                    case measure => simp [intOf]; omega
                  · obtain rfl : j = cn := by omega
                    obtain rfl : t = m := by rw [ht.out, HC.out]
                    have t1 : decide ((t : Int) + (lk : Int) ≤ (t : Int)) = false := decide_eq_false (by omega)
                    have t2 : decide (t + lk ≤ t) = false := decide_eq_false (by omega)
                    go_wp2_with fail
                    go_ret
                    exact ⟨rfl, below_hop HB0.out hq⟩

end Go.Proofs.YtpgbepgbgpjmcaaDoor
