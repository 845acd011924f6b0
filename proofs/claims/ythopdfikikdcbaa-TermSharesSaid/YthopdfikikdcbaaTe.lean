/- Walks of package backstayref07: which nodes are right. -/
import Derived.Test.YthopdfikikdcbaaTd
namespace Go.Proofs.Ythopdfikikdcbaa
open Go.RowKit Wd
set_option linter.unusedVariables false
set_option linter.unusedSimpArgs false
theorem Nds.at {w : World} {v : Value} {ts : List Nd} (h : Nds w v ts) {k : Nat} (hk : k < ts.length) : ∃ b q c, v = .slice (some ⟨b, q, none⟩) ts.length c ∧ ts.length ≤ c ∧ ts.length ≤ 140737488351232 ∧ b < w.heap.size ∧ NdAt w b (q + k * 5) (ts.getD k default) := by
  obtain ⟨a, c, rfl, h1, h2, _, h4⟩ := h
  obtain ⟨b, q, rfl, h5, h6⟩ := h4 k hk
  exact ⟨b, q, c, rfl, h1, by omega, h5, h6⟩

set_option maxRecDepth 100000 in
theorem r7IsWidth_any (n : Int) (w : World) : Calls Try.prog 102 #[.int .i64 n] w fun e w' => e = .returned (.bool (isW n)) ∧ w = w' := by
  by_cases h1 : 1 ≤ n <;> by_cases h2 : n ≤ 32
  all_goals
    go_enter Try.func102, Try.ntmps102
    go_wp2
    go_ret
    exact ⟨ret_b (by simp [isW, h1, h2]), rfl⟩

set_option maxRecDepth 100000 in
set_option maxHeartbeats 8000000 in
theorem rArg (ts : List Nd) (tv : Value) (k : Nat) (w : World) (hts : Nds w tv ts) (hk : k < ts.length) (i1 : 0 ≤ (ts.getD k default).imm) (i2 : (ts.getD k default).imm ≤ 4294967295) : Calls Try.prog 77 #[tv, .int .i64 k, .bool true] w fun e w' => e = .returned (.bool (shaped k (ts.getD k default))) ∧ Below w.heap.size w w' := by
  obtain ⟨b, q, c, rfl, l1, l2, hbw, x0, x1, x2, ⟨av, x3, hV⟩, x4⟩ := hts.at hk
  clear hts
  generalize ts.length = tl at *
  generalize ts.getD k default = x at *
  obtain ⟨op, width, flags, args, imm⟩ := x
  simp only at i1 i2 x0 x1 x2 x3 x4 hV ⊢
  have HV := Lib.hid hV
  obtain ⟨av0, ac, rfl, a1, a2, _, a4⟩ := hV
  have HA := Lib.hid a4
  clear a4
  cases c1 : (arV op != (args.length : Int))
  · cases c2 : decide (arV op < 0)
    · cases c3 : isW width
      · have e : shaped (k : Int) ⟨op, width, flags, args, imm⟩ = false := by
          have : ¬ (1 ≤ width ∧ width ≤ 32) := by simpa [isW] using c3
          simp only [shaped]; simp; omega
        rw [e]
        clear e
        go_enter Try.func77, Try.ntmps77
        go_wp2_with fail
        go_quiet (first | (go_at_call 68; exact quiet_same (rArity_any _ _)) | (go_at_call 102; exact quiet_same (r7IsWidth_any _ _)))
        go_wp2_with fail
        go_ret
        exact ⟨rfl, by repeat (first | with_reducible exact Below.refl _ _ | with_reducible refine below_drewN ?_ _ | with_reducible refine Below.drew ?_ | with_reducible refine Below.alloc ?_ (by simp; try omega) _)⟩
      · cases c4 : (flags != 0)
        · have c1' : ((args.length : Int) != arV op) = false := by rw [bne_comm]; exact c1
          have c2' : (arV op != -1) = true := by have := of_decide_eq_false c2; rcases arV_cases op with h | h | h | h | h <;> simp <;> omega
          have e : shaped (k : Int) ⟨op, width, flags, args, imm⟩ = (immOk ⟨op, width, flags, args, imm⟩ && !((op == 14) && (width != 1)) && !(args.any (bad k))) := by
            have : 1 ≤ width ∧ width ≤ 32 := by simpa [isW] using c3
            have d1 : decide (width < 1) = false := by simp; omega
            have d2 : decide (32 < width) = false := by simp; omega
            simp only [shaped, c1', c2', d1, d2, c4]; simp
          have E := Lib.hid e
          clear e c1' c2'
          go_enter Try.func77, Try.ntmps77
          go_wp2_with fail
          go_quiet (first | (go_at_call 68; exact quiet_same (rArity_any _ _)) | (go_at_call 102; exact quiet_same (r7IsWidth_any _ _)))
          go_wp2_with fail
          go_loop [8] (fun i => ∃ j : Nat, j ≤ args.length ∧ i = .int .i64 j ∧ Hid (∀ i, i < j → bad k (args.getD i 0) = false)) (fun i => args.length - (intOf i).toNat)
          case atStart => exact ⟨0, Nat.zero_le _, rfl, fun i hi => absurd hi (by omega)⟩
          case round =>
            obtain ⟨j, hj, rfl, hno⟩ := hrel
            by_cases hlt : j < args.length
            · obtain ⟨b2, o2, rfl, hb2, hcell⟩ := HA.out j hlt
              simp only [Nat.mul_one] at hcell
              generalize hy : args.getD j 0 = y at *
              have HY := Lib.hid hy
              clear hy
              cases d1 : decide (y < 0)
              · cases d2 : decide ((k : Int) ≤ y)
                · have hd : bad k y = false := by simp [bad, d1, d2]
                  have HB := Lib.hid hd
                  clear hd
                  go_wp2_with fail
                  go_round
                  case rel => exact ⟨j + 1, by omega, by go_num, fun i hi => by
                    by_cases e : i = j
                    · rw [e, HY.out]; exact HB.out
                    · exact hno.out i (by omega)⟩
                  case measure => simp [intOf]; omega
                · have hd : bad k y = true := by simp [bad, d1, d2]
                  have ha : args.any (bad k) = true := any_getD hlt (by rw [HY.out]; exact hd)
                  have HF : Hid (shaped (k : Int) ⟨op, width, flags, args, imm⟩ = false) := by
                    show _ = _
                    rw [E.out]
                    rw [ha]; simp
                  clear hd ha
                  go_wp2_with fail
                  go_ret
                  exact ⟨ret_b HF.out.symm, by repeat (first | with_reducible exact Below.refl _ _ | with_reducible refine below_drewN ?_ _ | with_reducible refine Below.drew ?_ | with_reducible refine Below.alloc ?_ (by simp; try omega) _)⟩
              · have hd : bad k y = true := by simp [bad, d1]
                have ha : args.any (bad k) = true := any_getD hlt (by rw [HY.out]; exact hd)
                have HF : Hid (shaped (k : Int) ⟨op, width, flags, args, imm⟩ = false) := by
                  show _ = _
                  rw [E.out]
                  rw [ha]; simp
                clear hd ha
                go_wp2_with fail
                go_ret
                exact ⟨ret_b HF.out.symm, by repeat (first | with_reducible exact Below.refl _ _ | with_reducible refine below_drewN ?_ _ | with_reducible refine Below.drew ?_ | with_reducible refine Below.alloc ?_ (by simp; try omega) _)⟩
            · obtain rfl : j = args.length := by omega
              have ha := none_getD hno.out
              clear hno
              by_cases o0 : op = 0
              · subst o0
                have HF : Hid (shaped (k : Int) ⟨0, width, flags, args, imm⟩ = fit width imm) := by
                  show _ = _
                  rw [E.out]
                  rw [ha]; simp [immOk, c3]
                clear ha
                go_wp2_with (first | (go_at_call 85; refine (rIsWord_any _ _ _ (by omega) (by omega)).mono ?_; rintro e w' ⟨rfl, rfl⟩))
                go_ret
                exact ⟨ret_b HF.out.symm, by repeat (first | with_reducible exact Below.refl _ _ | with_reducible refine below_drewN ?_ _ | with_reducible refine Below.drew ?_ | with_reducible refine Below.alloc ?_ (by simp; try omega) _)⟩
              by_cases o33 : op = 33
              · subst o33
                have HF : Hid (shaped (k : Int) ⟨33, width, flags, args, imm⟩ = decide (imm < 4)) := by
                  show _ = _
                  rw [E.out]
                  rw [ha]; simp [immOk]
                clear ha
                go_wp2_with fail
                go_ret
                exact ⟨ret_b HF.out.symm, by repeat (first | with_reducible exact Below.refl _ _ | with_reducible refine below_drewN ?_ _ | with_reducible refine Below.drew ?_ | with_reducible refine Below.alloc ?_ (by simp; try omega) _)⟩
              by_cases o14 : op = 14
              · subst o14
                cases h1 : (width == 1)
                · have HF : Hid (shaped (k : Int) ⟨14, width, flags, args, imm⟩ = false) := by
                    show _ = _
                    rw [E.out]
                    have h2 : (width != 1) = true := by simp only [bne, h1]; rfl
                    rw [ha, h2]; simp [immOk]
                  clear ha
                  go_wp2_with fail
                  go_ret
                  exact ⟨ret_b HF.out.symm, by repeat (first | with_reducible exact Below.refl _ _ | with_reducible refine below_drewN ?_ _ | with_reducible refine Below.drew ?_ | with_reducible refine Below.alloc ?_ (by simp; try omega) _)⟩
                · have HF : Hid (shaped (k : Int) ⟨14, width, flags, args, imm⟩ = decide (imm ≤ 9)) := by
                    show _ = _
                    rw [E.out]
                    have h2 : (width != 1) = false := by simp only [bne, h1]; rfl
                    rw [ha, h2]; simp [immOk]
                  clear ha
                  go_wp2_with fail
                  go_ret
                  exact ⟨ret_b HF.out.symm, by repeat (first | with_reducible exact Below.refl _ _ | with_reducible refine below_drewN ?_ _ | with_reducible refine Below.drew ?_ | with_reducible refine Below.alloc ?_ (by simp; try omega) _)⟩
              have HF : Hid (shaped (k : Int) ⟨op, width, flags, args, imm⟩ = (imm == 0)) := by
                show _ = _
                rw [E.out]
                have h2 : (op == 14) = false := by simpa using o14
                rw [ha, h2]; simp [immOk, o0, o33, o14]
              have q0 : (op == 0) = false := by simpa using o0
              have q1 : (op == 33) = false := by simpa using o33
              have q2 : (op == 14) = false := by simpa using o14
              clear o0 o33 o14 ha
              go_wp2_with fail
              go_ret
              exact ⟨ret_b HF.out.symm, by repeat (first | with_reducible exact Below.refl _ _ | with_reducible refine below_drewN ?_ _ | with_reducible refine Below.drew ?_ | with_reducible refine Below.alloc ?_ (by simp; try omega) _)⟩
        · have e : shaped (k : Int) ⟨op, width, flags, args, imm⟩ = false := by simp only [shaped, c4]; simp
          rw [e]
          clear e
          go_enter Try.func77, Try.ntmps77
          go_wp2_with fail
          go_quiet (first | (go_at_call 68; exact quiet_same (rArity_any _ _)) | (go_at_call 102; exact quiet_same (r7IsWidth_any _ _)))
          go_wp2_with fail
          go_ret
          exact ⟨rfl, by repeat (first | with_reducible exact Below.refl _ _ | with_reducible refine below_drewN ?_ _ | with_reducible refine Below.drew ?_ | with_reducible refine Below.alloc ?_ (by simp; try omega) _)⟩
    · have c2' : (arV op != -1) = false := by have := of_decide_eq_true c2; rcases arV_cases op with h | h | h | h | h <;> simp <;> omega
      have e : shaped (k : Int) ⟨op, width, flags, args, imm⟩ = false := by simp only [shaped, c2']; simp
      rw [e]
      clear e
      clear c2'
      go_enter Try.func77, Try.ntmps77
      go_wp2_with fail
      go_quiet (first | (go_at_call 68; exact quiet_same (rArity_any _ _)) | (go_at_call 102; exact quiet_same (r7IsWidth_any _ _)))
      go_wp2_with fail
      go_ret
      exact ⟨rfl, by repeat (first | with_reducible exact Below.refl _ _ | with_reducible refine below_drewN ?_ _ | with_reducible refine Below.drew ?_ | with_reducible refine Below.alloc ?_ (by simp; try omega) _)⟩
  · have c1' : ((args.length : Int) != arV op) = true := by rw [bne_comm]; exact c1
    have e : shaped (k : Int) ⟨op, width, flags, args, imm⟩ = false := by simp only [shaped, c1']; simp
    rw [e]
    clear e
    clear c1'
    go_enter Try.func77, Try.ntmps77
    go_wp2_with fail
    go_quiet (first | (go_at_call 68; exact quiet_same (rArity_any _ _)) | (go_at_call 102; exact quiet_same (r7IsWidth_any _ _)))
    go_wp2_with fail
    go_ret
    exact ⟨rfl, by repeat (first | with_reducible exact Below.refl _ _ | with_reducible refine below_drewN ?_ _ | with_reducible refine Below.drew ?_ | with_reducible refine Below.alloc ?_ (by simp; try omega) _)⟩

end Go.Proofs.Ythopdfikikdcbaa
