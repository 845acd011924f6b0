/- guess of the reference. -/
import Derived.Deep.CutRange
import Derived.Test.YtdojafpjipcbjaaJ17
namespace Go.Proofs.Ytdojafpjipcbjaa
open Go.RowKit
set_option linter.unusedVariables false
set_option linter.unusedSimpArgs false
set_option maxRecDepth 100000 in
set_option maxHeartbeats 4000000 in
theorem guessR_any (l : List Int) (v : Value) (a : Nat) (z : Int) (w : World) (hv : Ints .u8 w v l) (hby : Byt l) (ha : a ≤ 1) (hal : a ≤ l.length) (hz : z = 16 ∨ z = 32) : Calls Try.prog 46 #[v, .int .i64 a, .int .i64 z] w fun e w' => e = .returned (InsV (gsR (l.drop a) z)) ∧ Below w.heap.size w w' := by
  obtain ⟨W0, hW0⟩ : ∃ W, (w.alloc (.cells #[.int .i64 0, .int .i64 0, .int .i64 0, .int .i64 0, .int .i64 0] 25)).alloc (.cells #[.int .i64 (-1), .int .i64 0, .int .i64 0, .int .i64 0, .int .i64 0] 25) = W := ⟨_, rfl⟩
  have hb0 : Below w.heap.size w W0 := by rw [← hW0]; exact ((Below.refl _ _).alloc (Nat.le_refl _) _).alloc (by simp) _
  have hbx : Box5 W0 w.heap.size 0 0 0 0 0 := by rw [← hW0]; exact (Box5.new w 0 0 0 0 0).but ((But.refl (w.heap.size + 1) _).alloc _) (by omega)
  have hbn : Box5 W0 (w.heap.size + 1) (-1) 0 0 0 0 := by
    have := Box5.new (w.alloc (.cells #[.int .i64 0, .int .i64 0, .int .i64 0, .int .i64 0, .int .i64 0] 25)) (-1) 0 0 0 0
    rw [hW0, show (w.alloc (.cells #[.int .i64 0, .int .i64 0, .int .i64 0, .int .i64 0, .int .i64 0] 25)).heap.size = w.heap.size + 1 by simp] at this
    exact this
  have hv0 := hv.stays hb0
  have C1 : Hid (Calls Try.prog 59 #[v, .int .i64 (a : Int), .int .i64 1] W0 fun e w' => e = .returned (.tuple #[.int .i64 (nmR l (a) 1), .bool (nuB l (a) 1)]) ∧ W0 = w') := Lib.hid (numR_any l v (a) 1 W0 hv0 hby (by decide) (by omega))
  have C2 : Hid (Calls Try.prog 59 #[v, .int .i64 ((a : Int) + 1), .int .i64 1] W0 fun e w' => e = .returned (.tuple #[.int .i64 (nmR l ((a + 1)) 1), .bool (nuB l ((a + 1)) 1)]) ∧ W0 = w') := Lib.hid (numR_any l v ((a + 1)) 1 W0 hv0 hby (by decide) (by omega))
  have C3 : Hid (Calls Try.prog 59 #[v, .int .i64 ((a : Int) + 2), .int .i64 4] W0 fun e w' => e = .returned (.tuple #[.int .i64 (nmR l ((a + 2)) 4), .bool (nuB l ((a + 2)) 4)]) ∧ W0 = w') := Lib.hid (numR_any l v ((a + 2)) 4 W0 hv0 hby (by decide) (by omega))
  have C4 : Hid (Calls Try.prog 59 #[v, .int .i64 ((a : Int) + 1), .int .i64 4] W0 fun e w' => e = .returned (.tuple #[.int .i64 (nmR l ((a + 1)) 4), .bool (nuB l ((a + 1)) 4)]) ∧ W0 = w') := Lib.hid (numR_any l v ((a + 1)) 4 W0 hv0 hby (by decide) (by omega))
  have C5 : Hid (∀ n k : Nat, k ≤ 4 → n ≤ 3 → Calls Try.prog 59 #[v, .int .i64 n, .int .i64 k] W0 fun e w' => e = .returned (.tuple #[.int .i64 (nmR l n k), .bool (nuB l n k)]) ∧ W0 = w') := Lib.hid (fun n k hk hn => numR_any l v n k W0 hv0 hby hk (by omega))
  have CS : Hid (Calls Try.prog 61 #[v, .int .i64 a] W0 fun e w' => e = .returned (InsV (secR (l.drop a))) ∧ Below W0.heap.size W0 w') := Lib.hid (secondR_any l v a W0 hv0 hby ha hal)
  have CT : Hid (Calls Try.prog 62 #[.int .i64 (nmR l a 1)] W0 fun e w' => e = .returned (.int .i64 (twoR (nmR l a 1))) ∧ W0 = w') := Lib.hid (byTwo_any _ W0)
  have k0 := nmR_bd1 hby a
  have k1 := nmR_bd1 hby (a + 1)
  have k2 := nmR_bd hby (a + 2) 4 (by decide)
  have k3 := nmR_bd hby (a + 1) 4 (by decide)
  have S1 := Lib.hid (signed_ref (nmR l (a + 2) 4) 32 W0 (by unfold I64; omega) (by omega) (by decide))
  have S2 := Lib.hid (signed_ref (nmR l (a + 1) 4) 32 W0 (by unfold I64; omega) (by omega) (by decide))
  have S3 := Lib.hid (signed_ref (nmR l (a + 1) 1) 8 W0 (by unfold I64; omega) (by omega) (by decide))
  obtain ⟨X, hX⟩ : ∃ X, gsR (l.drop a) z = X := ⟨_, rfl⟩
  rw [hX]
  have hE := hX.symm
  unfold gsR at hE
  simp only [nmR_dr _ _ _ _ hal, ← sg32_is, ← sg8_is, Nat.add_zero] at hE
  have hL : nuB l a 1 = decide (a + 1 ≤ l.length) := rfl
  have hdl : (l.drop a).length = l.length - a := List.length_drop
  generalize secR (l.drop a) = sx at *
  have NM : ∀ k, Hid (nmR l (a + 2) k = nmR l (a + 2) k) := fun _ => rfl
  have HBY := Lib.hid hby
  have g4e : Hid (nmR l (a + 1) 4 = nmR l (a + 1) 4) := rfl
  obtain ⟨c, hc⟩ : ∃ c, nmR l a 1 = c := ⟨_, rfl⟩
  obtain ⟨m, hm⟩ : ∃ c, nmR l (a + 1) 1 = c := ⟨_, rfl⟩
  obtain ⟨f, hf⟩ : ∃ c, nmR l (a + 2) 4 = c := ⟨_, rfl⟩
  obtain ⟨g, hg⟩ : ∃ c, nmR l (a + 1) 4 = c := ⟨_, rfl⟩
  rw [hc] at C1 CT hE k0
  rw [hm] at C2 hE k1 S3
  rw [hf] at C3 hE k2 S1
  rw [hg] at C4 hE k3 S2
  obtain ⟨t, ht⟩ : ∃ t, twoR c = t := ⟨_, rfl⟩
  rw [ht] at CT hE
  have HC := Lib.hid hc
  have HM := Lib.hid hm
  have HF := Lib.hid hf
  have HG := Lib.hid hg
  have HT := Lib.hid ht
  clear hc hm hf hg ht
  generalize nuB l a 1 = b1 at *
  generalize nuB l (a + 1) 1 = b2 at *
  generalize nuB l (a + 2) 4 = b3 at *
  generalize nuB l (a + 1) 4 = b4 at *
  generalize sgB f 32 = f2 at *
  generalize sgB g 32 = g2 at *
  generalize sgB m 8 = m2 at *
  have HE := Lib.hid hE
  have HB0 := Lib.hid hb0
  have HZ := Lib.hid hz
  have hw1 : wrap64 ((a : Int) + 1) = (a : Int) + 1 := IntWalk.wrap64_in _ (by omega)
  have hw2 : wrap64 ((a : Int) + 2) = (a : Int) + 2 := IntWalk.wrap64_in _ (by omega)
  obtain ⟨⟨q0, q1, q2, q3, q4⟩, qf⟩ := hbx.cells
  obtain ⟨⟨n0, n1, n2, n3, n4⟩, _⟩ := hbn.cells
  have g0 := qf 0
  have g1 := qf 1
  have g2' := qf 2
  have g3 := qf 3
  have g4 := qf 4
  have hltN := hbn.lt
  have HW0 := Lib.hid hW0
  clear hX hE hb0 hbx hbn hv0 hv hby qf hz hW0
  go_enter Try.func46, Try.ntmps46
  go_upto_region 2 with fail
  rw [HW0.out]
  cases b1
  · have hlen : (l.drop a).length = 0 := by rw [hdl]; simp at hL; omega
    have HX : Hid (X = ⟨-1, 0, 0, 0, 0⟩) := Lib.hid (by rw [HE.out, if_pos hlen])
    clear hL hdl hlen
    go_wp2_with (first | ((go_at_call 59; first | with_reducible refine (C1.out).mono ?_ | with_reducible refine (C2.out).mono ?_ | with_reducible refine (C3.out).mono ?_ | with_reducible refine (C4.out).mono ?_); rintro e w' ⟨rfl, rfl⟩) | ((go_at_call 60; first | with_reducible refine (S1.out).mono ?_); rintro e w' ⟨rfl, rfl⟩) | ((go_at_call 62; with_reducible refine (CT.out).mono ?_); rintro e w' ⟨rfl, rfl⟩))
    refine bodyPost_ret (v := InsV ⟨-1, 0, 0, 0, 0⟩) (by simp [results, Try.results46, go_sem, InsV, q0, q1, q2, q3, q4]) rfl ⟨by rw [HX.out], ?_⟩
    exact below_set5 HB0.out (Nat.le_refl _) _ _ _ _ _
  have hlen : ¬ (l.drop a).length = 0 := by rw [hdl]; simp at hL; omega
  have HE2 := Lib.hid (HE.out.trans (if_neg hlen))
  clear HE
  clear hL hdl
  obtain ⟨mem, hmem⟩ : ∃ b, (decide (128 ≤ m) && decide (m < 192)) = b := ⟨_, rfl⟩
  have HME := Lib.hid hmem
  clear hmem
  go_upto_region 9 with (first | ((go_at_call 59; first | with_reducible refine (C1.out).mono ?_ | with_reducible refine (C2.out).mono ?_ | with_reducible refine (C3.out).mono ?_ | with_reducible refine (C4.out).mono ?_); rintro e w' ⟨rfl, rfl⟩) | ((go_at_call 60; first | with_reducible refine (S1.out).mono ?_); rintro e w' ⟨rfl, rfl⟩) | ((go_at_call 62; with_reducible refine (CT.out).mono ?_); rintro e w' ⟨rfl, rfl⟩))
  go_cut [16] from 58 to 63 (fun b wx => b = .bool mem ∧ W0 = wx)
  case first =>
    by_cases u1 : 128 ≤ m
    · have v1 : decide (128 ≤ m) = true := decide_eq_true u1
      have HQ : Hid (decide (m < 192) = mem) := Lib.hid (by rw [← HME.out, v1]; rfl)
      go_wp2_with fail
      go_meet
      case rel => exact ⟨congrArg Value.bool HQ.out, rfl⟩
    · have v1 : decide (128 ≤ m) = false := decide_eq_false u1
      have HQ : Hid (false = mem) := Lib.hid (by rw [← HME.out, v1]; rfl)
      go_wp2_with fail
      go_meet
      case rel => exact ⟨congrArg Value.bool HQ.out, rfl⟩
  case rest =>
    obtain ⟨rfl, rfl⟩ := hcut
    go_upto_region 12 with (first | ((go_at_call 59; first | with_reducible refine (C1.out).mono ?_ | with_reducible refine (C2.out).mono ?_ | with_reducible refine (C3.out).mono ?_ | with_reducible refine (C4.out).mono ?_); rintro e w' ⟨rfl, rfl⟩) | ((go_at_call 60; first | with_reducible refine (S1.out).mono ?_); rintro e w' ⟨rfl, rfl⟩) | ((go_at_call 62; with_reducible refine (CT.out).mono ?_); rintro e w' ⟨rfl, rfl⟩))
    by_cases h0 : c = 15
    · have e15 : (c == 15) = true := eqT (by omega)
      have HX : Hid (X = sx) := Lib.hid (by rw [HE2.out, if_pos (by omega)])
      obtain ⟨so, sd, ss, sz, si⟩ := sx
      have CS2 : Hid (Calls Try.prog 61 #[v, .int .i64 a] W0 fun e w' => e = .returned (.agg #[.int .i64 so, .int .i64 sd, .int .i64 ss, .int .i64 sz, .int .i64 si]) ∧ Below W0.heap.size W0 w') := CS
      clear h0; go_wp2_with ((go_at_call 61; with_reducible refine (CS2.out).mono ?_); rintro e w3 ⟨rfl, hb3⟩; have HB3 := Lib.hid (below_hop HB0.out hb3); have r0 := Since.cell hb3 q0; have r1 := Since.cell hb3 q1; have r2 := Since.cell hb3 q2; have r3 := Since.cell hb3 q3; have r4 := Since.cell hb3 q4; have s0 := Since.free hb3 (Nat.lt_of_succ_lt hltN) g0; have s1 := Since.free hb3 (Nat.lt_of_succ_lt hltN) g1; have s2 := Since.free hb3 (Nat.lt_of_succ_lt hltN) g2'; have s3 := Since.free hb3 (Nat.lt_of_succ_lt hltN) g3; have s4 := Since.free hb3 (Nat.lt_of_succ_lt hltN) g4)
      refine bodyPost_ret (v := InsV ⟨so, sd, ss, sz, si⟩) (by simp [results, Try.results46, go_sem, InsV, r0, r1, r2, r3, r4]) rfl ⟨by rw [HX.out], ?_⟩
      exact below_set5 HB3.out (Nat.le_refl _) _ _ _ _ _
    by_cases h1 : c = 137 ∧ 128 ≤ m ∧ m < 192
    · have e15 : (c == 15) = false := beqF (by omega)
      have e137 : (c == 137) = true := eqT (by omega)
      have hme : mem = true := by rw [← HME.out, decide_eq_true (show 128 ≤ m by omega), decide_eq_true (show m < 192 by omega)]; rfl
      subst hme
      have HX : Hid (X = ⟨3, mF m, rF m, z, f2⟩) := Lib.hid (by rw [HE2.out, if_neg (by omega), if_pos (by omega)])
      (try clear y)
      (try clear HEQ)
      go_wp2_with (first | ((go_at_call 59; first | with_reducible refine (C1.out).mono ?_ | with_reducible refine (C2.out).mono ?_ | with_reducible refine (C3.out).mono ?_ | with_reducible refine (C4.out).mono ?_); rintro e w' ⟨rfl, rfl⟩) | ((go_at_call 60; first | with_reducible refine (S1.out).mono ?_); rintro e w' ⟨rfl, rfl⟩) | ((go_at_call 62; with_reducible refine (CT.out).mono ?_); rintro e w' ⟨rfl, rfl⟩))
      refine bodyPost_ret (v := InsV ⟨3, mF m, rF m, z, f2⟩) (by simp [results, Try.results46, go_sem, InsV, rF, mF, q0, q1, q2, q3, q4]) rfl ⟨by rw [HX.out], ?_⟩
      exact below_set5 HB0.out (Nat.le_refl _) _ _ _ _ _
    by_cases h2 : c = 139
    · have e15 : (c == 15) = false := beqF (by omega)
      have e137 : (c == 137) = false := beqF (by omega)
      have e139 : (c == 139) = true := eqT (by omega)
      have HX : Hid (X = ⟨2, rF m, mF m, z, f2⟩) := Lib.hid (by rw [HE2.out, if_neg (by omega), if_neg (by omega), if_pos (by omega)])
      (try clear y)
      (try clear HEQ)
      clear h2; go_wp2_with (first | ((go_at_call 59; first | with_reducible refine (C1.out).mono ?_ | with_reducible refine (C2.out).mono ?_ | with_reducible refine (C3.out).mono ?_ | with_reducible refine (C4.out).mono ?_); rintro e w' ⟨rfl, rfl⟩) | ((go_at_call 60; first | with_reducible refine (S1.out).mono ?_); rintro e w' ⟨rfl, rfl⟩) | ((go_at_call 62; with_reducible refine (CT.out).mono ?_); rintro e w' ⟨rfl, rfl⟩))
      refine bodyPost_ret (v := InsV ⟨2, rF m, mF m, z, f2⟩) (by simp [results, Try.results46, go_sem, InsV, rF, mF, q0, q1, q2, q3, q4]) rfl ⟨by rw [HX.out], ?_⟩
      exact below_set5 HB0.out (Nat.le_refl _) _ _ _ _ _
    by_cases h3 : c = 136
    · have e15 : (c == 15) = false := beqF (by omega)
      have e137 : (c == 137) = false := beqF (by omega)
      have e139 : (c == 139) = false := beqF (by omega)
      have e136 : (c == 136) = true := eqT (by omega)
      have HX : Hid (X = ⟨6, mF m, rF m, z, f2⟩) := Lib.hid (by rw [HE2.out, if_neg (by omega), if_neg (by omega), if_neg (by omega), if_pos (by omega)])
      (try clear y)
      (try clear HEQ)
      clear h3; go_wp2_with (first | ((go_at_call 59; first | with_reducible refine (C1.out).mono ?_ | with_reducible refine (C2.out).mono ?_ | with_reducible refine (C3.out).mono ?_ | with_reducible refine (C4.out).mono ?_); rintro e w' ⟨rfl, rfl⟩) | ((go_at_call 60; first | with_reducible refine (S1.out).mono ?_); rintro e w' ⟨rfl, rfl⟩) | ((go_at_call 62; with_reducible refine (CT.out).mono ?_); rintro e w' ⟨rfl, rfl⟩))
      refine bodyPost_ret (v := InsV ⟨6, mF m, rF m, z, f2⟩) (by simp [results, Try.results46, go_sem, InsV, rF, mF, q0, q1, q2, q3, q4]) rfl ⟨by rw [HX.out], ?_⟩
      exact below_set5 HB0.out (Nat.le_refl _) _ _ _ _ _
    by_cases h4 : 0 ≤ t
    · by_cases y : c = 137
      · have hme : mem = false := by rw [← HME.out]; simp; omega
        subst hme
        have e15 : (c == 15) = false := beqF (by omega)
        have e137 : (c == 137) = true := eqT (by omega)
        have e139 : (c == 139) = false := beqF (by omega)
        have e136 : (c == 136) = false := beqF (by omega)
        have dt : decide (0 ≤ t) = true := decide_eq_true (by omega)
        have HX : Hid (X = ⟨t, mF m, rF m, z, 0⟩) := Lib.hid (by rw [HE2.out, if_neg (by omega), if_neg (by omega), if_neg (by omega), if_neg (by omega), if_pos (by omega)])
        (try clear y)
        (try clear HEQ)
        go_wp2_with (first | ((go_at_call 59; first | with_reducible refine (C1.out).mono ?_ | with_reducible refine (C2.out).mono ?_ | with_reducible refine (C3.out).mono ?_ | with_reducible refine (C4.out).mono ?_); rintro e w' ⟨rfl, rfl⟩) | ((go_at_call 60; first | with_reducible refine (S1.out).mono ?_); rintro e w' ⟨rfl, rfl⟩) | ((go_at_call 62; with_reducible refine (CT.out).mono ?_); rintro e w' ⟨rfl, rfl⟩))
        refine bodyPost_ret (v := InsV ⟨t, mF m, rF m, z, 0⟩) (by simp [results, Try.results46, go_sem, InsV, rF, mF, q0, q1, q2, q3, q4]) rfl ⟨by rw [HX.out], ?_⟩
        exact below_set5 HB0.out (Nat.le_refl _) _ _ _ _ _
      · have e15 : (c == 15) = false := beqF (by omega)
        have e137 : (c == 137) = false := beqF (by omega)
        have e139 : (c == 139) = false := beqF (by omega)
        have e136 : (c == 136) = false := beqF (by omega)
        have dt : decide (0 ≤ t) = true := decide_eq_true (by omega)
        have HX : Hid (X = ⟨t, mF m, rF m, z, 0⟩) := Lib.hid (by rw [HE2.out, if_neg (by omega), if_neg (by omega), if_neg (by omega), if_neg (by omega), if_pos (by omega)])
        (try clear y)
        (try clear HEQ)
        go_wp2_with (first | ((go_at_call 59; first | with_reducible refine (C1.out).mono ?_ | with_reducible refine (C2.out).mono ?_ | with_reducible refine (C3.out).mono ?_ | with_reducible refine (C4.out).mono ?_); rintro e w' ⟨rfl, rfl⟩) | ((go_at_call 60; first | with_reducible refine (S1.out).mono ?_); rintro e w' ⟨rfl, rfl⟩) | ((go_at_call 62; with_reducible refine (CT.out).mono ?_); rintro e w' ⟨rfl, rfl⟩))
        refine bodyPost_ret (v := InsV ⟨t, mF m, rF m, z, 0⟩) (by simp [results, Try.results46, go_sem, InsV, rF, mF, q0, q1, q2, q3, q4]) rfl ⟨by rw [HX.out], ?_⟩
        exact below_set5 HB0.out (Nat.le_refl _) _ _ _ _ _
    have h137 : c ≠ 137 := fun e => h4 (by rw [← HT.out, e]; decide)
    by_cases h5 : 184 ≤ c ∧ c ≤ 191
    · rcases HZ.out with rfl | rfl
      · have e15 : (c == 15) = false := beqF (by omega)
        have e137 : (c == 137) = false := beqF (by omega)
        have e139 : (c == 139) = false := beqF (by omega)
        have e136 : (c == 136) = false := beqF (by omega)
        have dt : decide (0 ≤ t) = false := decide_eq_false (by omega)
        have da : decide (184 ≤ c) = true := decide_eq_true (by omega)
        have db : decide (c ≤ 191) = true := decide_eq_true (by omega)
        have C6 : Hid (Calls Try.prog 59 #[v, .int .i64 ((a : Int) + 1), .int .i64 2] W0 fun e w' => e = .returned (.tuple #[.int .i64 (nmR l (a + 1) 2), .bool (nuB l (a + 1) 2)]) ∧ W0 = w') := C5.out (a + 1) 2 (by decide) (by omega)
        have HX : Hid (X = ⟨1, c - 184, 0, 16, nmR l (a + 1) 2⟩) := Lib.hid (by rw [HE2.out, if_neg (by omega), if_neg (by omega), if_neg (by omega), if_neg (by omega), if_neg (by omega), if_pos (by omega)]; rfl)
        generalize nmR l (a + 1) 2 = u at *
        generalize nuB l (a + 1) 2 = bu at *
        go_wp2_with (first | ((go_at_call 59; with_reducible refine (C6.out).mono ?_); rintro e w' ⟨rfl, rfl⟩) | ((go_at_call 62; with_reducible refine (CT.out).mono ?_); rintro e w' ⟨rfl, rfl⟩))
        refine bodyPost_ret (v := InsV ⟨1, c - 184, 0, 16, u⟩) (by simp [results, Try.results46, go_sem, InsV, rF, mF, q0, q1, q2, q3, q4]) rfl ⟨by rw [HX.out], ?_⟩
        exact below_set5 HB0.out (Nat.le_refl _) _ _ _ _ _
      · have e15 : (c == 15) = false := beqF (by omega)
        have e137 : (c == 137) = false := beqF (by omega)
        have e139 : (c == 139) = false := beqF (by omega)
        have e136 : (c == 136) = false := beqF (by omega)
        have dt : decide (0 ≤ t) = false := decide_eq_false (by omega)
        have da : decide (184 ≤ c) = true := decide_eq_true (by omega)
        have db : decide (c ≤ 191) = true := decide_eq_true (by omega)
        have C6 : Hid (Calls Try.prog 59 #[v, .int .i64 ((a : Int) + 1), .int .i64 4] W0 fun e w' => e = .returned (.tuple #[.int .i64 (nmR l (a + 1) 4), .bool (nuB l (a + 1) 4)]) ∧ W0 = w') := C5.out (a + 1) 4 (by decide) (by omega)
        have HX : Hid (X = ⟨1, c - 184, 0, 32, nmR l (a + 1) 4⟩) := Lib.hid (by rw [HE2.out, if_neg (by omega), if_neg (by omega), if_neg (by omega), if_neg (by omega), if_neg (by omega), if_pos (by omega)]; rfl)
        generalize nmR l (a + 1) 4 = u at *
        generalize nuB l (a + 1) 4 = bu at *
        go_wp2_with (first | ((go_at_call 59; with_reducible refine (C6.out).mono ?_); rintro e w' ⟨rfl, rfl⟩) | ((go_at_call 62; with_reducible refine (CT.out).mono ?_); rintro e w' ⟨rfl, rfl⟩))
        refine bodyPost_ret (v := InsV ⟨1, c - 184, 0, 32, u⟩) (by simp [results, Try.results46, go_sem, InsV, rF, mF, q0, q1, q2, q3, q4]) rfl ⟨by rw [HX.out], ?_⟩
        exact below_set5 HB0.out (Nat.le_refl _) _ _ _ _ _
    by_cases h6 : c = 131
    · rcases HZ.out with rfl | rfl
      · have e15 : (c == 15) = false := beqF (by omega)
        have e137 : (c == 137) = false := beqF (by omega)
        have e139 : (c == 139) = false := beqF (by omega)
        have e136 : (c == 136) = false := beqF (by omega)
        have e131 : (c == 131) = true := eqT (by omega)
        have dt : decide (0 ≤ t) = false := decide_eq_false (by omega)
        have da : decide (184 ≤ c) = false := decide_eq_false (by omega)
        have C6 : Hid (Calls Try.prog 59 #[v, .int .i64 ((a : Int) + 2), .int .i64 1] W0 fun e w' => e = .returned (.tuple #[.int .i64 (nmR l (a + 2) 1), .bool (nuB l (a + 2) 1)]) ∧ W0 = w') := C5.out (a + 2) 1 (by decide) (by omega)
        have CD : Hid (Calls Try.prog 63 #[.int .i64 14, .int .i64 19, .int .i64 (m / 8 % 8)] W0 fun e w' => e = .returned (.int .i64 (grpI 131 (m / 8 % 8))) ∧ W0 = w') := Lib.hid (byDigit_any 14 19 131 _ W0 (by unfold DigR; omega))
        obtain ⟨gi, hgi⟩ : ∃ gi, grpI 131 (m / 8 % 8) = gi := ⟨_, rfl⟩
        rw [hgi] at CD
        have kk := nmR_bd1 HBY.out (a + 2)
        have S4 := Lib.hid (signed_ref (nmR l (a + 2) 1) 8 W0 (by unfold I64; omega) (by omega) (by decide))
        have HX : Hid (X = ⟨gi, mF m, 0, 16, sgB (nmR l (a + 2) 1) 8 % 65536⟩) := Lib.hid (by rw [HE2.out, if_neg (by omega), if_neg (by omega), if_neg (by omega), if_neg (by omega), if_neg (by omega), if_neg (by omega), if_pos (by omega), ← hgi]; rfl)
        clear hgi
        have han : bits .and .i64 (sgB (nmR l (a + 2) 1) 8) 65535 = sgB (nmR l (a + 2) 1) 8 % 65536 := i64_and _ _ 16 (by decide) rfl
        generalize sgB (nmR l (a + 2) 1) 8 = s8 at *
        generalize nmR l (a + 2) 1 = u at *
        generalize nuB l (a + 2) 1 = bu at *
        clear h6; go_wp2_with (first | ((go_at_call 59; with_reducible refine (C6.out).mono ?_); rintro e w' ⟨rfl, rfl⟩) | ((go_at_call 63; with_reducible refine (CD.out).mono ?_); rintro e w' ⟨rfl, rfl⟩) | ((go_at_call 60; with_reducible refine (S4.out).mono ?_); rintro e w' ⟨rfl, rfl⟩) | ((go_at_call 62; with_reducible refine (CT.out).mono ?_); rintro e w' ⟨rfl, rfl⟩))
        refine bodyPost_ret (v := InsV ⟨gi, mF m, 0, 16, s8 % 65536⟩) (by simp [results, Try.results46, go_sem, InsV, rF, mF, q0, q1, q2, q3, q4]) rfl ⟨by rw [HX.out], ?_⟩
        exact below_set5 HB0.out (Nat.le_refl _) _ _ _ _ _
      · have e15 : (c == 15) = false := beqF (by omega)
        have e137 : (c == 137) = false := beqF (by omega)
        have e139 : (c == 139) = false := beqF (by omega)
        have e136 : (c == 136) = false := beqF (by omega)
        have e131 : (c == 131) = true := eqT (by omega)
        have dt : decide (0 ≤ t) = false := decide_eq_false (by omega)
        have da : decide (184 ≤ c) = false := decide_eq_false (by omega)
        have C6 : Hid (Calls Try.prog 59 #[v, .int .i64 ((a : Int) + 2), .int .i64 1] W0 fun e w' => e = .returned (.tuple #[.int .i64 (nmR l (a + 2) 1), .bool (nuB l (a + 2) 1)]) ∧ W0 = w') := C5.out (a + 2) 1 (by decide) (by omega)
        have CD : Hid (Calls Try.prog 63 #[.int .i64 14, .int .i64 19, .int .i64 (m / 8 % 8)] W0 fun e w' => e = .returned (.int .i64 (grpI 131 (m / 8 % 8))) ∧ W0 = w') := Lib.hid (byDigit_any 14 19 131 _ W0 (by unfold DigR; omega))
        obtain ⟨gi, hgi⟩ : ∃ gi, grpI 131 (m / 8 % 8) = gi := ⟨_, rfl⟩
        rw [hgi] at CD
        have kk := nmR_bd1 HBY.out (a + 2)
        have S4 := Lib.hid (signed_ref (nmR l (a + 2) 1) 8 W0 (by unfold I64; omega) (by omega) (by decide))
        have HX : Hid (X = ⟨gi, mF m, 0, 32, sgB (nmR l (a + 2) 1) 8 % 4294967296⟩) := Lib.hid (by rw [HE2.out, if_neg (by omega), if_neg (by omega), if_neg (by omega), if_neg (by omega), if_neg (by omega), if_neg (by omega), if_pos (by omega), ← hgi]; rfl)
        clear hgi
        have han : bits .and .i64 (sgB (nmR l (a + 2) 1) 8) 4294967295 = sgB (nmR l (a + 2) 1) 8 % 4294967296 := i64_and _ _ 32 (by decide) rfl
        generalize sgB (nmR l (a + 2) 1) 8 = s8 at *
        generalize nmR l (a + 2) 1 = u at *
        generalize nuB l (a + 2) 1 = bu at *
        clear h6; go_wp2_with (first | ((go_at_call 59; with_reducible refine (C6.out).mono ?_); rintro e w' ⟨rfl, rfl⟩) | ((go_at_call 63; with_reducible refine (CD.out).mono ?_); rintro e w' ⟨rfl, rfl⟩) | ((go_at_call 60; with_reducible refine (S4.out).mono ?_); rintro e w' ⟨rfl, rfl⟩) | ((go_at_call 62; with_reducible refine (CT.out).mono ?_); rintro e w' ⟨rfl, rfl⟩))
        refine bodyPost_ret (v := InsV ⟨gi, mF m, 0, 32, s8 % 4294967296⟩) (by simp [results, Try.results46, go_sem, InsV, rF, mF, q0, q1, q2, q3, q4]) rfl ⟨by rw [HX.out], ?_⟩
        exact below_set5 HB0.out (Nat.le_refl _) _ _ _ _ _
    by_cases h7 : c = 129
    · rcases HZ.out with rfl | rfl
      · have e15 : (c == 15) = false := beqF (by omega)
        have e137 : (c == 137) = false := beqF (by omega)
        have e139 : (c == 139) = false := beqF (by omega)
        have e136 : (c == 136) = false := beqF (by omega)
        have e131 : (c == 131) = false := beqF (by omega)
        have e129 : (c == 129) = true := eqT (by omega)
        have dt : decide (0 ≤ t) = false := decide_eq_false (by omega)
        have da : decide (184 ≤ c) = false := decide_eq_false (by omega)
        have C6 : Hid (Calls Try.prog 59 #[v, .int .i64 ((a : Int) + 2), .int .i64 2] W0 fun e w' => e = .returned (.tuple #[.int .i64 (nmR l (a + 2) 2), .bool (nuB l (a + 2) 2)]) ∧ W0 = w') := C5.out (a + 2) 2 (by decide) (by omega)
        have CD : Hid (Calls Try.prog 63 #[.int .i64 14, .int .i64 19, .int .i64 (m / 8 % 8)] W0 fun e w' => e = .returned (.int .i64 (grpI 129 (m / 8 % 8))) ∧ W0 = w') := Lib.hid (byDigit_any 14 19 129 _ W0 (by unfold DigR; omega))
        obtain ⟨gi, hgi⟩ : ∃ gi, grpI 129 (m / 8 % 8) = gi := ⟨_, rfl⟩
        rw [hgi] at CD
        have HX : Hid (X = ⟨gi, mF m, 0, 16, nmR l (a + 2) 2⟩) := Lib.hid (by rw [HE2.out, if_neg (by omega), if_neg (by omega), if_neg (by omega), if_neg (by omega), if_neg (by omega), if_neg (by omega), if_neg (by omega), if_pos (by omega), ← hgi]; rfl)
        clear hgi
        generalize nmR l (a + 2) 2 = u at *
        generalize nuB l (a + 2) 2 = bu at *
        clear h7; go_wp2_with (first | ((go_at_call 59; with_reducible refine (C6.out).mono ?_); rintro e w' ⟨rfl, rfl⟩) | ((go_at_call 63; with_reducible refine (CD.out).mono ?_); rintro e w' ⟨rfl, rfl⟩) | ((go_at_call 62; with_reducible refine (CT.out).mono ?_); rintro e w' ⟨rfl, rfl⟩))
        refine bodyPost_ret (v := InsV ⟨gi, mF m, 0, 16, u⟩) (by simp [results, Try.results46, go_sem, InsV, rF, mF, q0, q1, q2, q3, q4]) rfl ⟨by rw [HX.out], ?_⟩
        exact below_set5 HB0.out (Nat.le_refl _) _ _ _ _ _
      · have e15 : (c == 15) = false := beqF (by omega)
        have e137 : (c == 137) = false := beqF (by omega)
        have e139 : (c == 139) = false := beqF (by omega)
        have e136 : (c == 136) = false := beqF (by omega)
        have e131 : (c == 131) = false := beqF (by omega)
        have e129 : (c == 129) = true := eqT (by omega)
        have dt : decide (0 ≤ t) = false := decide_eq_false (by omega)
        have da : decide (184 ≤ c) = false := decide_eq_false (by omega)
        have C6 : Hid (Calls Try.prog 59 #[v, .int .i64 ((a : Int) + 2), .int .i64 4] W0 fun e w' => e = .returned (.tuple #[.int .i64 (nmR l (a + 2) 4), .bool (nuB l (a + 2) 4)]) ∧ W0 = w') := C5.out (a + 2) 4 (by decide) (by omega)
        have CD : Hid (Calls Try.prog 63 #[.int .i64 14, .int .i64 19, .int .i64 (m / 8 % 8)] W0 fun e w' => e = .returned (.int .i64 (grpI 129 (m / 8 % 8))) ∧ W0 = w') := Lib.hid (byDigit_any 14 19 129 _ W0 (by unfold DigR; omega))
        obtain ⟨gi, hgi⟩ : ∃ gi, grpI 129 (m / 8 % 8) = gi := ⟨_, rfl⟩
        rw [hgi] at CD
        have HX : Hid (X = ⟨gi, mF m, 0, 32, nmR l (a + 2) 4⟩) := Lib.hid (by rw [HE2.out, if_neg (by omega), if_neg (by omega), if_neg (by omega), if_neg (by omega), if_neg (by omega), if_neg (by omega), if_neg (by omega), if_pos (by omega), ← hgi]; rfl)
        clear hgi
        generalize nmR l (a + 2) 4 = u at *
        generalize nuB l (a + 2) 4 = bu at *
        clear h7; go_wp2_with (first | ((go_at_call 59; with_reducible refine (C6.out).mono ?_); rintro e w' ⟨rfl, rfl⟩) | ((go_at_call 63; with_reducible refine (CD.out).mono ?_); rintro e w' ⟨rfl, rfl⟩) | ((go_at_call 62; with_reducible refine (CT.out).mono ?_); rintro e w' ⟨rfl, rfl⟩))
        refine bodyPost_ret (v := InsV ⟨gi, mF m, 0, 32, u⟩) (by simp [results, Try.results46, go_sem, InsV, rF, mF, q0, q1, q2, q3, q4]) rfl ⟨by rw [HX.out], ?_⟩
        exact below_set5 HB0.out (Nat.le_refl _) _ _ _ _ _
    by_cases h8 : c = 211
    · have e15 : (c == 15) = false := beqF (by omega)
      have e137 : (c == 137) = false := beqF (by omega)
      have e139 : (c == 139) = false := beqF (by omega)
      have e136 : (c == 136) = false := beqF (by omega)
      have e131 : (c == 131) = false := beqF (by omega)
      have e129 : (c == 129) = false := beqF (by omega)
      have e211 : (c == 211) = true := eqT (by omega)
      have dt : decide (0 ≤ t) = false := decide_eq_false (by omega)
      have da : decide (184 ≤ c) = true := decide_eq_true (by omega)
      have db : decide (c ≤ 191) = false := decide_eq_false (by omega)
      have CD : Hid (Calls Try.prog 63 #[.int .i64 21, .int .i64 23, .int .i64 (m / 8 % 8)] W0 fun e w' => e = .returned (.int .i64 (grpI 211 (m / 8 % 8))) ∧ W0 = w') := Lib.hid (byDigit_any 21 23 211 _ W0 (by unfold DigR; omega))
      obtain ⟨gi, hgi⟩ : ∃ gi, grpI 211 (m / 8 % 8) = gi := ⟨_, rfl⟩
      rw [hgi] at CD
      have HX : Hid (X = ⟨gi, mF m, 0, z, 0⟩) := Lib.hid (by rw [HE2.out, if_neg (by omega), if_neg (by omega), if_neg (by omega), if_neg (by omega), if_neg (by omega), if_neg (by omega), if_neg (by omega), if_neg (by omega), if_pos (by omega), ← hgi]; rfl)
      clear hgi
      clear h8; go_wp2_with (first | ((go_at_call 63; with_reducible refine (CD.out).mono ?_); rintro e w' ⟨rfl, rfl⟩) | ((go_at_call 62; with_reducible refine (CT.out).mono ?_); rintro e w' ⟨rfl, rfl⟩))
      refine bodyPost_ret (v := InsV ⟨gi, mF m, 0, z, 0⟩) (by simp [results, Try.results46, go_sem, InsV, rF, mF, q0, q1, q2, q3, q4]) rfl ⟨by rw [HX.out], ?_⟩
      exact below_set5 HB0.out (Nat.le_refl _) _ _ _ _ _
    by_cases h9 : c = 247
    · have e15 : (c == 15) = false := beqF (by omega)
      have e137 : (c == 137) = false := beqF (by omega)
      have e139 : (c == 139) = false := beqF (by omega)
      have e136 : (c == 136) = false := beqF (by omega)
      have e131 : (c == 131) = false := beqF (by omega)
      have e129 : (c == 129) = false := beqF (by omega)
      have e211 : (c == 211) = false := beqF (by omega)
      have e247 : (c == 247) = true := eqT (by omega)
      have dt : decide (0 ≤ t) = false := decide_eq_false (by omega)
      have da : decide (184 ≤ c) = true := decide_eq_true (by omega)
      have db : decide (c ≤ 191) = false := decide_eq_false (by omega)
      have CD : Hid (Calls Try.prog 63 #[.int .i64 24, .int .i64 27, .int .i64 (m / 8 % 8)] W0 fun e w' => e = .returned (.int .i64 (grpI 247 (m / 8 % 8))) ∧ W0 = w') := Lib.hid (byDigit_any 24 27 247 _ W0 (by unfold DigR; omega))
      obtain ⟨gi, hgi⟩ : ∃ gi, grpI 247 (m / 8 % 8) = gi := ⟨_, rfl⟩
      rw [hgi] at CD
      have HX : Hid (X = ⟨gi, mF m, 0, z, 0⟩) := Lib.hid (by rw [HE2.out, if_neg (by omega), if_neg (by omega), if_neg (by omega), if_neg (by omega), if_neg (by omega), if_neg (by omega), if_neg (by omega), if_neg (by omega), if_neg (by omega), if_pos (by omega), ← hgi]; rfl)
      clear hgi
      clear h9; go_wp2_with (first | ((go_at_call 63; with_reducible refine (CD.out).mono ?_); rintro e w' ⟨rfl, rfl⟩) | ((go_at_call 62; with_reducible refine (CT.out).mono ?_); rintro e w' ⟨rfl, rfl⟩))
      refine bodyPost_ret (v := InsV ⟨gi, mF m, 0, z, 0⟩) (by simp [results, Try.results46, go_sem, InsV, rF, mF, q0, q1, q2, q3, q4]) rfl ⟨by rw [HX.out], ?_⟩
      exact below_set5 HB0.out (Nat.le_refl _) _ _ _ _ _
    by_cases h10 : 112 ≤ c ∧ c ≤ 127
    · have e15 : (c == 15) = false := beqF (by omega)
      have e137 : (c == 137) = false := beqF (by omega)
      have e139 : (c == 139) = false := beqF (by omega)
      have e136 : (c == 136) = false := beqF (by omega)
      have e131 : (c == 131) = false := beqF (by omega)
      have e129 : (c == 129) = false := beqF (by omega)
      have e211 : (c == 211) = false := beqF (by omega)
      have e247 : (c == 247) = false := beqF (by omega)
      have dt : decide (0 ≤ t) = false := decide_eq_false (by omega)
      have da : decide (184 ≤ c) = false := decide_eq_false (by omega)
      have dc : decide (112 ≤ c) = true := decide_eq_true (by omega)
      have dd : decide (c ≤ 127) = true := decide_eq_true (by omega)
      have HX : Hid (X = ⟨32, 0, c - 112, 8, m2⟩) := Lib.hid (by rw [HE2.out, if_neg (by omega), if_neg (by omega), if_neg (by omega), if_neg (by omega), if_neg (by omega), if_neg (by omega), if_neg (by omega), if_neg (by omega), if_neg (by omega), if_neg (by omega), if_pos (by omega)])
      (try clear y)
      (try clear HEQ)
      go_wp2_with (first | ((go_at_call 60; with_reducible refine (S3.out).mono ?_); rintro e w' ⟨rfl, rfl⟩) | ((go_at_call 62; with_reducible refine (CT.out).mono ?_); rintro e w' ⟨rfl, rfl⟩))
      refine bodyPost_ret (v := InsV ⟨32, 0, c - 112, 8, m2⟩) (by simp [results, Try.results46, go_sem, InsV, rF, mF, q0, q1, q2, q3, q4]) rfl ⟨by rw [HX.out], ?_⟩
      exact below_set5 HB0.out (Nat.le_refl _) _ _ _ _ _
    by_cases h11 : c = 235
    · have e15 : (c == 15) = false := beqF (by omega)
      have e137 : (c == 137) = false := beqF (by omega)
      have e139 : (c == 139) = false := beqF (by omega)
      have e136 : (c == 136) = false := beqF (by omega)
      have e131 : (c == 131) = false := beqF (by omega)
      have e129 : (c == 129) = false := beqF (by omega)
      have e211 : (c == 211) = false := beqF (by omega)
      have e247 : (c == 247) = false := beqF (by omega)
      have e235 : (c == 235) = true := eqT (by omega)
      have dt : decide (0 ≤ t) = false := decide_eq_false (by omega)
      have da : decide (184 ≤ c) = true := decide_eq_true (by omega)
      have db : decide (c ≤ 191) = false := decide_eq_false (by omega)
      have dc : decide (112 ≤ c) = true := decide_eq_true (by omega)
      have dd : decide (c ≤ 127) = false := decide_eq_false (by omega)
      have HX : Hid (X = ⟨33, 0, 0, 8, m2⟩) := Lib.hid (by rw [HE2.out, if_neg (by omega), if_neg (by omega), if_neg (by omega), if_neg (by omega), if_neg (by omega), if_neg (by omega), if_neg (by omega), if_neg (by omega), if_neg (by omega), if_neg (by omega), if_neg (by omega), if_pos (by omega)])
      (try clear y)
      (try clear HEQ)
      clear h11; go_wp2_with (first | ((go_at_call 60; with_reducible refine (S3.out).mono ?_); rintro e w' ⟨rfl, rfl⟩) | ((go_at_call 62; with_reducible refine (CT.out).mono ?_); rintro e w' ⟨rfl, rfl⟩))
      refine bodyPost_ret (v := InsV ⟨33, 0, 0, 8, m2⟩) (by simp [results, Try.results46, go_sem, InsV, rF, mF, q0, q1, q2, q3, q4]) rfl ⟨by rw [HX.out], ?_⟩
      exact below_set5 HB0.out (Nat.le_refl _) _ _ _ _ _
    by_cases h12 : c = 233
    · have e15 : (c == 15) = false := beqF (by omega)
      have e137 : (c == 137) = false := beqF (by omega)
      have e139 : (c == 139) = false := beqF (by omega)
      have e136 : (c == 136) = false := beqF (by omega)
      have e131 : (c == 131) = false := beqF (by omega)
      have e129 : (c == 129) = false := beqF (by omega)
      have e211 : (c == 211) = false := beqF (by omega)
      have e247 : (c == 247) = false := beqF (by omega)
      have e235 : (c == 235) = false := beqF (by omega)
      have e233 : (c == 233) = true := eqT (by omega)
      have dt : decide (0 ≤ t) = false := decide_eq_false (by omega)
      have da : decide (184 ≤ c) = true := decide_eq_true (by omega)
      have db : decide (c ≤ 191) = false := decide_eq_false (by omega)
      have dc : decide (112 ≤ c) = true := decide_eq_true (by omega)
      have dd : decide (c ≤ 127) = false := decide_eq_false (by omega)
      have HX : Hid (X = ⟨33, 0, 0, 32, g2⟩) := Lib.hid (by rw [HE2.out, if_neg (by omega), if_neg (by omega), if_neg (by omega), if_neg (by omega), if_neg (by omega), if_neg (by omega), if_neg (by omega), if_neg (by omega), if_neg (by omega), if_neg (by omega), if_neg (by omega), if_neg (by omega), if_pos (by omega)])
      (try clear y)
      (try clear HEQ)
      clear h12; go_wp2_with (first | ((go_at_call 60; with_reducible refine (S2.out).mono ?_); rintro e w' ⟨rfl, rfl⟩) | ((go_at_call 62; with_reducible refine (CT.out).mono ?_); rintro e w' ⟨rfl, rfl⟩))
      refine bodyPost_ret (v := InsV ⟨33, 0, 0, 32, g2⟩) (by simp [results, Try.results46, go_sem, InsV, rF, mF, q0, q1, q2, q3, q4]) rfl ⟨by rw [HX.out], ?_⟩
      exact below_set5 HB0.out (Nat.le_refl _) _ _ _ _ _
    by_cases h13 : c = 153
    · have e15 : (c == 15) = false := beqF (by omega)
      have e137 : (c == 137) = false := beqF (by omega)
      have e139 : (c == 139) = false := beqF (by omega)
      have e136 : (c == 136) = false := beqF (by omega)
      have e131 : (c == 131) = false := beqF (by omega)
      have e129 : (c == 129) = false := beqF (by omega)
      have e211 : (c == 211) = false := beqF (by omega)
      have e247 : (c == 247) = false := beqF (by omega)
      have e235 : (c == 235) = false := beqF (by omega)
      have e233 : (c == 233) = false := beqF (by omega)
      have e153 : (c == 153) = true := eqT (by omega)
      have dt : decide (0 ≤ t) = false := decide_eq_false (by omega)
      have da : decide (184 ≤ c) = false := decide_eq_false (by omega)
      have dc : decide (112 ≤ c) = true := decide_eq_true (by omega)
      have dd : decide (c ≤ 127) = false := decide_eq_false (by omega)
      have HX : Hid (X = ⟨28, 0, 0, z, 0⟩) := Lib.hid (by rw [HE2.out, if_neg (by omega), if_neg (by omega), if_neg (by omega), if_neg (by omega), if_neg (by omega), if_neg (by omega), if_neg (by omega), if_neg (by omega), if_neg (by omega), if_neg (by omega), if_neg (by omega), if_neg (by omega), if_neg (by omega), if_pos (by omega)])
      (try clear y)
      (try clear HEQ)
      clear h13; go_wp2_with (first | ((go_at_call 59; first | with_reducible refine (C1.out).mono ?_ | with_reducible refine (C2.out).mono ?_ | with_reducible refine (C3.out).mono ?_ | with_reducible refine (C4.out).mono ?_); rintro e w' ⟨rfl, rfl⟩) | ((go_at_call 60; first | with_reducible refine (S1.out).mono ?_); rintro e w' ⟨rfl, rfl⟩) | ((go_at_call 62; with_reducible refine (CT.out).mono ?_); rintro e w' ⟨rfl, rfl⟩))
      refine bodyPost_ret (v := InsV ⟨28, 0, 0, z, 0⟩) (by simp [results, Try.results46, go_sem, InsV, rF, mF, q0, q1, q2, q3, q4]) rfl ⟨by rw [HX.out], ?_⟩
      exact below_set5 HB0.out (Nat.le_refl _) _ _ _ _ _
    by_cases h14 : c = 244
    · have e15 : (c == 15) = false := beqF (by omega)
      have e137 : (c == 137) = false := beqF (by omega)
      have e139 : (c == 139) = false := beqF (by omega)
      have e136 : (c == 136) = false := beqF (by omega)
      have e131 : (c == 131) = false := beqF (by omega)
      have e129 : (c == 129) = false := beqF (by omega)
      have e211 : (c == 211) = false := beqF (by omega)
      have e247 : (c == 247) = false := beqF (by omega)
      have e235 : (c == 235) = false := beqF (by omega)
      have e233 : (c == 233) = false := beqF (by omega)
      have e153 : (c == 153) = false := beqF (by omega)
      have e244 : (c == 244) = true := eqT (by omega)
      have dt : decide (0 ≤ t) = false := decide_eq_false (by omega)
      have da : decide (184 ≤ c) = true := decide_eq_true (by omega)
      have db : decide (c ≤ 191) = false := decide_eq_false (by omega)
      have dc : decide (112 ≤ c) = true := decide_eq_true (by omega)
      have dd : decide (c ≤ 127) = false := decide_eq_false (by omega)
      have HX : Hid (X = ⟨34, 0, 0, z, 0⟩) := Lib.hid (by rw [HE2.out, if_neg (by omega), if_neg (by omega), if_neg (by omega), if_neg (by omega), if_neg (by omega), if_neg (by omega), if_neg (by omega), if_neg (by omega), if_neg (by omega), if_neg (by omega), if_neg (by omega), if_neg (by omega), if_neg (by omega), if_neg (by omega), if_pos (by omega)])
      (try clear y)
      (try clear HEQ)
      clear h14; go_wp2_with (first | ((go_at_call 59; first | with_reducible refine (C1.out).mono ?_ | with_reducible refine (C2.out).mono ?_ | with_reducible refine (C3.out).mono ?_ | with_reducible refine (C4.out).mono ?_); rintro e w' ⟨rfl, rfl⟩) | ((go_at_call 60; first | with_reducible refine (S1.out).mono ?_); rintro e w' ⟨rfl, rfl⟩) | ((go_at_call 62; with_reducible refine (CT.out).mono ?_); rintro e w' ⟨rfl, rfl⟩))
      refine bodyPost_ret (v := InsV ⟨34, 0, 0, z, 0⟩) (by simp [results, Try.results46, go_sem, InsV, rF, mF, q0, q1, q2, q3, q4]) rfl ⟨by rw [HX.out], ?_⟩
      exact below_set5 HB0.out (Nat.le_refl _) _ _ _ _ _
    by_cases h15 : c = 144
    · have e15 : (c == 15) = false := beqF (by omega)
      have e137 : (c == 137) = false := beqF (by omega)
      have e139 : (c == 139) = false := beqF (by omega)
      have e136 : (c == 136) = false := beqF (by omega)
      have e131 : (c == 131) = false := beqF (by omega)
      have e129 : (c == 129) = false := beqF (by omega)
      have e211 : (c == 211) = false := beqF (by omega)
      have e247 : (c == 247) = false := beqF (by omega)
      have e235 : (c == 235) = false := beqF (by omega)
      have e233 : (c == 233) = false := beqF (by omega)
      have e153 : (c == 153) = false := beqF (by omega)
      have e244 : (c == 244) = false := beqF (by omega)
      have e144 : (c == 144) = true := eqT (by omega)
      have dt : decide (0 ≤ t) = false := decide_eq_false (by omega)
      have da : decide (184 ≤ c) = false := decide_eq_false (by omega)
      have dc : decide (112 ≤ c) = true := decide_eq_true (by omega)
      have dd : decide (c ≤ 127) = false := decide_eq_false (by omega)
      have HX : Hid (X = ⟨36, 0, 0, z, 0⟩) := Lib.hid (by rw [HE2.out, if_neg (by omega), if_neg (by omega), if_neg (by omega), if_neg (by omega), if_neg (by omega), if_neg (by omega), if_neg (by omega), if_neg (by omega), if_neg (by omega), if_neg (by omega), if_neg (by omega), if_neg (by omega), if_neg (by omega), if_neg (by omega), if_neg (by omega), if_pos (by omega)])
      (try clear y)
      (try clear HEQ)
      clear h15; go_wp2_with (first | ((go_at_call 59; first | with_reducible refine (C1.out).mono ?_ | with_reducible refine (C2.out).mono ?_ | with_reducible refine (C3.out).mono ?_ | with_reducible refine (C4.out).mono ?_); rintro e w' ⟨rfl, rfl⟩) | ((go_at_call 60; first | with_reducible refine (S1.out).mono ?_); rintro e w' ⟨rfl, rfl⟩) | ((go_at_call 62; with_reducible refine (CT.out).mono ?_); rintro e w' ⟨rfl, rfl⟩))
      refine bodyPost_ret (v := InsV ⟨36, 0, 0, z, 0⟩) (by simp [results, Try.results46, go_sem, InsV, rF, mF, q0, q1, q2, q3, q4]) rfl ⟨by rw [HX.out], ?_⟩
      exact below_set5 HB0.out (Nat.le_refl _) _ _ _ _ _
    by_cases y : c < 112
    · have e15 : (c == 15) = false := beqF (by omega)
      have e137 : (c == 137) = false := beqF (by omega)
      have e139 : (c == 139) = false := beqF (by omega)
      have e136 : (c == 136) = false := beqF (by omega)
      have e131 : (c == 131) = false := beqF (by omega)
      have e129 : (c == 129) = false := beqF (by omega)
      have e211 : (c == 211) = false := beqF (by omega)
      have e247 : (c == 247) = false := beqF (by omega)
      have e235 : (c == 235) = false := beqF (by omega)
      have e233 : (c == 233) = false := beqF (by omega)
      have e153 : (c == 153) = false := beqF (by omega)
      have e244 : (c == 244) = false := beqF (by omega)
      have e144 : (c == 144) = false := beqF (by omega)
      have dt : decide (0 ≤ t) = false := decide_eq_false (by omega)
      have da : decide (184 ≤ c) = false := decide_eq_false (by omega)
      have dc : decide (112 ≤ c) = false := decide_eq_false (by omega)
      have HX : Hid (X = ⟨-1, 0, 0, 0, 0⟩) := Lib.hid (by rw [HE2.out, if_neg (by omega), if_neg (by omega), if_neg (by omega), if_neg (by omega), if_neg (by omega), if_neg (by omega), if_neg (by omega), if_neg (by omega), if_neg (by omega), if_neg (by omega), if_neg (by omega), if_neg (by omega), if_neg (by omega), if_neg (by omega), if_neg (by omega), if_neg (by omega)])
      (try clear y)
      (try clear HEQ)
      go_wp2_with (first | ((go_at_call 59; first | with_reducible refine (C1.out).mono ?_ | with_reducible refine (C2.out).mono ?_ | with_reducible refine (C3.out).mono ?_ | with_reducible refine (C4.out).mono ?_); rintro e w' ⟨rfl, rfl⟩) | ((go_at_call 60; first | with_reducible refine (S1.out).mono ?_); rintro e w' ⟨rfl, rfl⟩) | ((go_at_call 62; with_reducible refine (CT.out).mono ?_); rintro e w' ⟨rfl, rfl⟩))
      refine bodyPost_ret (v := InsV ⟨-1, 0, 0, 0, 0⟩) (by simp [results, Try.results46, go_sem, InsV, rF, mF, q0, q1, q2, q3, q4]) rfl ⟨by rw [HX.out], ?_⟩
      exact below_set5 HB0.out (Nat.le_refl _) _ _ _ _ _
    by_cases y : c < 184
    · have e15 : (c == 15) = false := beqF (by omega)
      have e137 : (c == 137) = false := beqF (by omega)
      have e139 : (c == 139) = false := beqF (by omega)
      have e136 : (c == 136) = false := beqF (by omega)
      have e131 : (c == 131) = false := beqF (by omega)
      have e129 : (c == 129) = false := beqF (by omega)
      have e211 : (c == 211) = false := beqF (by omega)
      have e247 : (c == 247) = false := beqF (by omega)
      have e235 : (c == 235) = false := beqF (by omega)
      have e233 : (c == 233) = false := beqF (by omega)
      have e153 : (c == 153) = false := beqF (by omega)
      have e244 : (c == 244) = false := beqF (by omega)
      have e144 : (c == 144) = false := beqF (by omega)
      have dt : decide (0 ≤ t) = false := decide_eq_false (by omega)
      have da : decide (184 ≤ c) = false := decide_eq_false (by omega)
      have dc : decide (112 ≤ c) = true := decide_eq_true (by omega)
      have dd : decide (c ≤ 127) = false := decide_eq_false (by omega)
      have HX : Hid (X = ⟨-1, 0, 0, 0, 0⟩) := Lib.hid (by rw [HE2.out, if_neg (by omega), if_neg (by omega), if_neg (by omega), if_neg (by omega), if_neg (by omega), if_neg (by omega), if_neg (by omega), if_neg (by omega), if_neg (by omega), if_neg (by omega), if_neg (by omega), if_neg (by omega), if_neg (by omega), if_neg (by omega), if_neg (by omega), if_neg (by omega)])
      (try clear y)
      (try clear HEQ)
      go_wp2_with (first | ((go_at_call 59; first | with_reducible refine (C1.out).mono ?_ | with_reducible refine (C2.out).mono ?_ | with_reducible refine (C3.out).mono ?_ | with_reducible refine (C4.out).mono ?_); rintro e w' ⟨rfl, rfl⟩) | ((go_at_call 60; first | with_reducible refine (S1.out).mono ?_); rintro e w' ⟨rfl, rfl⟩) | ((go_at_call 62; with_reducible refine (CT.out).mono ?_); rintro e w' ⟨rfl, rfl⟩))
      refine bodyPost_ret (v := InsV ⟨-1, 0, 0, 0, 0⟩) (by simp [results, Try.results46, go_sem, InsV, rF, mF, q0, q1, q2, q3, q4]) rfl ⟨by rw [HX.out], ?_⟩
      exact below_set5 HB0.out (Nat.le_refl _) _ _ _ _ _
    have e15 : (c == 15) = false := beqF (by omega)
    have e137 : (c == 137) = false := beqF (by omega)
    have e139 : (c == 139) = false := beqF (by omega)
    have e136 : (c == 136) = false := beqF (by omega)
    have e131 : (c == 131) = false := beqF (by omega)
    have e129 : (c == 129) = false := beqF (by omega)
    have e211 : (c == 211) = false := beqF (by omega)
    have e247 : (c == 247) = false := beqF (by omega)
    have e235 : (c == 235) = false := beqF (by omega)
    have e233 : (c == 233) = false := beqF (by omega)
    have e153 : (c == 153) = false := beqF (by omega)
    have e244 : (c == 244) = false := beqF (by omega)
    have e144 : (c == 144) = false := beqF (by omega)
    have dt : decide (0 ≤ t) = false := decide_eq_false (by omega)
    have da : decide (184 ≤ c) = true := decide_eq_true (by omega)
    have db : decide (c ≤ 191) = false := decide_eq_false (by omega)
    have dc : decide (112 ≤ c) = true := decide_eq_true (by omega)
    have dd : decide (c ≤ 127) = false := decide_eq_false (by omega)
    have HX : Hid (X = ⟨-1, 0, 0, 0, 0⟩) := Lib.hid (by rw [HE2.out, if_neg (by omega), if_neg (by omega), if_neg (by omega), if_neg (by omega), if_neg (by omega), if_neg (by omega), if_neg (by omega), if_neg (by omega), if_neg (by omega), if_neg (by omega), if_neg (by omega), if_neg (by omega), if_neg (by omega), if_neg (by omega), if_neg (by omega), if_neg (by omega)])
    (try clear y)
    (try clear HEQ)
    go_wp2_with (first | ((go_at_call 59; first | with_reducible refine (C1.out).mono ?_ | with_reducible refine (C2.out).mono ?_ | with_reducible refine (C3.out).mono ?_ | with_reducible refine (C4.out).mono ?_); rintro e w' ⟨rfl, rfl⟩) | ((go_at_call 60; first | with_reducible refine (S1.out).mono ?_); rintro e w' ⟨rfl, rfl⟩) | ((go_at_call 62; with_reducible refine (CT.out).mono ?_); rintro e w' ⟨rfl, rfl⟩))
    refine bodyPost_ret (v := InsV ⟨-1, 0, 0, 0, 0⟩) (by simp [results, Try.results46, go_sem, InsV, rF, mF, q0, q1, q2, q3, q4]) rfl ⟨by rw [HX.out], ?_⟩
    exact below_set5 HB0.out (Nat.le_refl _) _ _ _ _ _
end Go.Proofs.Ytdojafpjipcbjaa
