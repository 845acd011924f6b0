/- Walk of IsEnv of the answer. -/
import Derived.Test.YthopdfikikdcbaaTn
namespace Go.Proofs.Ythopdfikikdcbaa
open Go.RowKit Wd
set_option linter.unusedVariables false
set_option linter.unusedSimpArgs false

set_option maxRecDepth 100000 in
set_option maxHeartbeats 1000000 in
theorem rIsEnv (ts : List Nd) (env : List Int) (tv ev : Value) (w : World) (hts : Nds w tv ts) (hev : Ints .u32 w ev env) (hi : ∀ x ∈ ts, 0 ≤ x.imm ∧ x.imm ≤ 4294967295) (hE : ∀ x ∈ env, 0 ≤ x ∧ x ≤ 4294967295) (hz : valE ts = 0) : Calls Try.prog 51 #[tv, ev] w fun e w' => e = .returned (.bool (envB ts env)) ∧ Below w.heap.size w w' := by
  have HT := Lib.hid hts
  have HI := Lib.hid hi
  have HEV := Lib.hid hev
  have HE := Lib.hid hE
  obtain ⟨ta, tc, rfl, ht1, ht2⟩ := hts.shape
  obtain ⟨ea, ec, rfl, he1, he2⟩ := hev.shape
  clear hi hts hev hE
  have HZ := Lib.hid hz
  clear hz
  cases h4 : ((env.length : Int) != 4)
  rotate_left
  · have HV : Hid (envB ts env = false) := envB_len (by intro h; rw [h] at h4; simp at h4)
    go_enter Try.func51, Try.ntmps51
    go_wp2_with fail
    go_ret
    exact ⟨ret_b HV.out.symm, Below.refl _ _⟩
  have h4' : env.length = 4 := by
    have : (env.length : Int) = 4 := by simpa using h4
    omega
  have H4 := Lib.hid h4'
  clear h4'
  go_enter Try.func51, Try.ntmps51
  go_wp2_with fail
  refine (rwidths_any ts _ _ HT.out (fun x hx => ⟨(HI.out x hx).1, fun h33 => by
    obtain ⟨i, hi, rfl⟩ := List.getElem_of_mem hx
    have := (shaped_facts (okS_at (valid_facts HZ.out).2.2.1 hi)).2.2.2.2.2.1
    rw [List.getD_eq_getElem?_getD, List.getElem?_eq_getElem hi] at this
    exact this h33⟩)).mono ?_
  rintro e w1 ⟨v1, rfl, hv1, hb1⟩
  rw [rwl_wmap (widL_ok HZ.out).1] at hv1
  have HB1 := Lib.hid hb1
  have HWI := Lib.hid hv1
  obtain ⟨wa, wc, rfl, hw1, hw2⟩ := hv1.shape
  have HW4 := Lib.hid (widL_ok HZ.out).2
  rw [HW4.out]
  clear hb1 hv1 h4
  go_wp2_with fail
  go_loopw [6] (fun i wr => ∃ j : Nat, j ≤ 4 ∧ i = .int .i64 j ∧ Hid (∀ v, v < j → envG ts env v = true) ∧ Dr w1 wr) (fun i _ => 4 - (intOf i).toNat)
  case atStart => exact ⟨0, Nat.zero_le _, rfl, (fun i hi => absurd hi (by omega)), Dr.refl _⟩
  case round =>
    obtain ⟨j, hj, rfl, hg, hdr⟩ := hrel
    have HDR := Lib.hid hdr
    have HBR := Lib.hid (below_hop HB1.out (hdr.below _))
    clear hdr
    by_cases hlt : j < 4
    · obtain ⟨b1, o1, c1, e1, _, _, d1⟩ := (HWI.out.stays (HDR.out.below _)).at (show j < (widL ts).length by rw [HW4.out]; exact hlt)
      rw [HW4.out] at e1
      cases e1
      obtain ⟨b2, o2, c2, e2, _, _, d2⟩ := (HEV.out.stays HBR.out).at (show j < env.length by rw [H4.out]; exact hlt)
      cases e2
      have hwb := widL_bd HZ.out HI.out j
      have heb := HE.out _ (getD_mem0 (show j < env.length by rw [H4.out]; exact hlt))
      have HGD : Hid (envG ts env j = (((widL ts).getD j 0 == 0) || decide (env.getD j 0 < pw ((widL ts).getD j 0)))) := rfl
      generalize (widL ts).getD j 0 = n at *
      generalize env.getD j 0 = y at *
      have h4l : (j : Int) < env.length := by have := H4.out; omega
      have hjl : (j : Int) < 4 := by omega
      cases hn : decide (0 < n)
      · have HG2 : Hid (envG ts env j = true) := by
          have := of_decide_eq_false hn
          have hn0 : (n == 0) = true := by simp; omega
          show _ = _; rw [HGD.out, hn0]; rfl
        go_wp2_with fail
        go_quiet (fail)
        go_wp2_with fail
        go_roundw
        case rel => exact ⟨j + 1, by omega, by go_num, (fun v hv => by
          by_cases e : v = j
          · rw [e]; exact HG2.out
          · exact hg.out v (by omega)), HDR.out.drew _⟩
        case measure => simp [intOf]; omega
      · have hn1 : 1 ≤ n := by have := of_decide_eq_true hn; omega
        have hn0 : (n == 0) = false := by simp; omega
        have HN := Lib.hid hn0
        have hwf : isW n = true := by unfold isW; simp; omega
        clear hn0
        cases hf : fit n y
        · have HV : Hid (envB ts env = false) := envB_bad hlt (by rw [HGD.out, HN.out, Bool.false_or]; exact hf)
          go_wp2_with fail
          go_quiet ((go_at_call 85; exact quiet_same (rIsWord_any _ _ _ heb.1 heb.2)))
          go_wp2_with fail
          go_ret
          exact ⟨ret_b HV.out.symm, below_drewN HBR.out _⟩
        · have HG2 : Hid (envG ts env j = true) := by show _ = _; rw [HGD.out, HN.out, Bool.false_or]; exact hf
          go_wp2_with fail
          go_quiet ((go_at_call 85; exact quiet_same (rIsWord_any _ _ _ heb.1 heb.2)))
          go_wp2_with fail
          go_roundw
          case rel => exact ⟨j + 1, by omega, by go_num, (fun v hv => by
            by_cases e : v = j
            · rw [e]; exact HG2.out
            · exact hg.out v (by omega)), HDR.out.drew _⟩
          case measure => simp [intOf]; omega
    · obtain rfl : j = 4 := by omega
      have HB : Hid (envB ts env = true) := envB_good H4.out hg.out
      go_wp2_with fail
      go_ret
      exact ⟨ret_b HB.out.symm, HBR.out⟩

end Go.Proofs.Ythopdfikikdcbaa
