/- Walks of Values and Eval of package term, and IsEnv of the answer. -/
import Derived.Test.YthopdfikikdcbaaTm
namespace Go.Proofs.Ythopdfikikdcbaa
open Go.RowKit Wd
set_option linter.unusedVariables false
set_option linter.unusedSimpArgs false
def envG (ts : List Nd) (env : List Int) (v : Nat) : Bool := ((widL ts).getD v 0 == 0) || decide (env.getD v 0 < pw ((widL ts).getD v 0))
/-- env is an environment of the valid term. -/
def envB (ts : List Nd) (env : List Int) : Bool := decide (env.length = 4) && (List.range 4).all (envG ts env)
def vaE (ts : List Nd) (env : List Int) : Int := if valE ts = 0 then (if envB ts env = true then 0 else 1) else valE ts
def vaL (ts : List Nd) (env : List Int) : List Int := if vaE ts env = 0 then vals ts env else []
def evV (ts : List Nd) (env : List Int) : Int := if vaE ts env = 0 then (vals ts env).getD (ts.length - 1) 0 else 0
theorem widL_bd {ts : List Nd} (h : valE ts = 0) (hI : ∀ x ∈ ts, 0 ≤ x.imm ∧ x.imm ≤ 4294967295) (v : Nat) : 0 ≤ (widL ts).getD v 0 ∧ (widL ts).getD v 0 ≤ 32 := by
  obtain ⟨_, _, hS, _, _⟩ := valid_facts h
  have hl := (widL_ok h).1
  have hinv := (wmap_inv (fun x hx => (hI x hx).1) (fun i hi => okS_at hS hi) ts.length (widL ts) (Nat.le_refl _) (by rw [List.take_length]; exact hl)).2 v
  by_cases c : (widL ts).getD v 0 = 0
  · omega
  · obtain ⟨i, hi, _, _, hw⟩ := hinv c
    have := (nodeOk h hi).wid
    omega
theorem envOk_of {ts : List Nd} {env : List Int} (hE : ∀ x ∈ env, 0 ≤ x ∧ x ≤ 4294967295) (h : envB ts env = true) : EnvOk ts env := by
  unfold envB at h
  simp only [Bool.and_eq_true, decide_eq_true_eq, List.all_eq_true, List.mem_range] at h
  refine ⟨h.1, fun v hv => ?_⟩
  have h1 := hE _ (getD_mem0 (show v < env.length by omega))
  have h2 := h.2 v hv
  unfold envG at h2
  simp only [Bool.or_eq_true, beq_iff_eq, decide_eq_true_eq] at h2
  exact ⟨h1.1, h1.2, fun hn => by rcases h2 with h2 | h2; exact absurd h2 hn; exact h2⟩
theorem envB_bad {ts : List Nd} {env : List Int} {v : Nat} (hv : v < 4) (h : envG ts env v = false) : envB ts env = false := by
  unfold envB
  rw [Bool.and_eq_false_iff]
  right
  rw [List.all_eq_false]
  exact ⟨v, List.mem_range.2 hv, by rw [h]; decide⟩
theorem envB_good {ts : List Nd} {env : List Int} (h4 : env.length = 4) (h : ∀ v, v < 4 → envG ts env v = true) : envB ts env = true := by
  unfold envB
  rw [Bool.and_eq_true, List.all_eq_true]
  exact ⟨by simpa using h4, fun v hv => h v (List.mem_range.1 hv)⟩
theorem envB_len {ts : List Nd} {env : List Int} (h : env.length ≠ 4) : envB ts env = false := by
  unfold envB
  rw [show decide (env.length = 4) = false by simpa using h, Bool.false_and]
theorem vaE_bad {ts : List Nd} {env : List Int} (h : valE ts ≠ 0) : vaE ts env = valE ts := if_neg h
theorem vaE_env {ts : List Nd} {env : List Int} (h : valE ts = 0) (h2 : envB ts env = false) : vaE ts env = 1 := by unfold vaE; rw [if_pos h, if_neg (by rw [h2]; decide)]
theorem vaE_ok {ts : List Nd} {env : List Int} (h : valE ts = 0) (h2 : envB ts env = true) : vaE ts env = 0 := by unfold vaE; rw [if_pos h, if_pos h2]
theorem vaL_bad {ts : List Nd} {env : List Int} (h : vaE ts env ≠ 0) : vaL ts env = [] := if_neg h
theorem vaL_ok {ts : List Nd} {env : List Int} (h : vaE ts env = 0) : vaL ts env = vals ts env := if_pos h
theorem vaE_zero {ts : List Nd} {env : List Int} (h : vaE ts env = 0) : valE ts = 0 ∧ envB ts env = true := by
  unfold vaE at h
  by_cases c : valE ts = 0
  · rw [if_pos c] at h
    refine ⟨c, ?_⟩
    by_cases d : envB ts env = true
    · exact d
    · rw [if_neg d] at h; omega
  · rw [if_neg c] at h; exact absurd h c
theorem vals_len (ts : List Nd) (env : List Int) : (vals ts env).length = ts.length := valsF_len ts env ts

set_option maxRecDepth 100000 in
set_option maxHeartbeats 1000000 in
theorem pValues (ts : List Nd) (env : List Int) (tv ev : Value) (w : World) (hts : Nds w tv ts) (hev : Ints .u32 w ev env) (hi : ∀ x ∈ ts, 0 ≤ x.imm ∧ x.imm ≤ 4294967295) (hE : ∀ x ∈ env, 0 ≤ x ∧ x ≤ 4294967295) : Calls Try.prog 22 #[tv, ev] w fun e w' => ∃ v, e = .returned (.tuple #[v, .int .i64 (vaE ts env)]) ∧ Ints .u32 w' v (vaL ts env) ∧ Below w.heap.size w w' := by
  have HT := Lib.hid hts
  have HI := Lib.hid hi
  have HEV := Lib.hid hev
  have HE := Lib.hid hE
  obtain ⟨ta, tc, rfl, ht1, ht2⟩ := hts.shape
  obtain ⟨ea, ec, rfl, he1, he2⟩ := hev.shape
  clear hi hts hev hE
  cases hz : (valE ts != 0)
  rotate_left
  · have HZ : Hid (valE ts ≠ 0) := by
      have h : ¬ valE ts = 0 := by simpa using hz
      exact h
    go_enter Try.func22, Try.ntmps22
    go_wp2_with fail
    refine (pWidths ts _ _ HT.out HI.out).mono ?_
    rintro e w1 ⟨v1, rfl, hv1, hb1⟩
    go_wp2_with fail
    go_ret2
    exact ⟨_, by rw [vaE_bad HZ.out]; rfl, by rw [vaL_bad (by rw [vaE_bad HZ.out]; exact HZ.out)]; exact Ints.nil _ _, hb1⟩
  have hz' : valE ts = 0 := by simpa using hz
  have HZ := Lib.hid hz'
  clear hz hz'
  go_enter Try.func22, Try.ntmps22
  go_wp2_with fail
  refine (pWidths ts _ _ HT.out HI.out).mono ?_
  rintro e w1 ⟨v1, rfl, hv1, hb1⟩
  rw [HZ.out]
  have HB1 := Lib.hid hb1
  have HWI := Lib.hid hv1
  obtain ⟨wa, wc, rfl, hw1, hw2⟩ := hv1.shape
  have HW4 := Lib.hid (widL_ok HZ.out).2
  rw [HW4.out]
  clear hb1 hv1
  cases h4 : ((env.length : Int) != 4)
  rotate_left
  · have HV : Hid (vaE ts env = 1) := vaE_env HZ.out (envB_len (by intro h; rw [h] at h4; simp at h4))
    go_wp2_with fail
    go_ret2
    exact ⟨_, by rw [HV.out]; rfl, by rw [vaL_bad (by rw [HV.out]; decide)]; exact Ints.nil _ _, HB1.out⟩
  have h4' : env.length = 4 := by
    have : (env.length : Int) = 4 := by simpa using h4
    omega
  have H4 := Lib.hid h4'
  clear h4'
  go_wp2_with fail
  clear h4
  go_loop [25] (fun i => ∃ j : Nat, j ≤ 4 ∧ i = .int .i64 j ∧ Hid (∀ v, v < j → envG ts env v = true)) (fun i => 4 - (intOf i).toNat)
  case atStart => exact ⟨0, Nat.zero_le _, rfl, (fun i hi => absurd hi (by omega))⟩
  case round =>
    obtain ⟨j, hj, rfl, hg⟩ := hrel
    by_cases hlt : j < 4
    · obtain ⟨b1, o1, c1, e1, _, _, d1⟩ := HWI.out.at (show j < (widL ts).length by rw [HW4.out]; exact hlt)
      rw [HW4.out] at e1
      cases e1
      obtain ⟨b2, o2, c2, e2, _, _, d2⟩ := (HEV.out.stays HB1.out).at (show j < env.length by rw [H4.out]; exact hlt)
      cases e2
      have hwb := widL_bd HZ.out HI.out j
      have heb := HE.out _ (getD_mem0 (show j < env.length by rw [H4.out]; exact hlt))
      have HGD : Hid (envG ts env j = (((widL ts).getD j 0 == 0) || decide (env.getD j 0 < pw ((widL ts).getD j 0)))) := rfl
      generalize (widL ts).getD j 0 = n at *
      generalize env.getD j 0 = y at *
      have h4l : (j : Int) < env.length := by have := H4.out; omega
      cases hn : (n == 0)
      · have HN : Hid ((n == 0) = false) := hn
        have hn1 : 1 ≤ n := by
          have : ¬ n = 0 := by simpa using hn
          omega
        have hmk : mkX n = pw n - 1 := by unfold mkX; rw [if_pos (by unfold isW; simp; omega)]
        have hpn := pw_le32 hwb.2
        have hpp := pw_pos n
        cases hgt : decide (pw n - 1 < y)
        · have HG2 : Hid (envG ts env j = true) := by
            have := of_decide_eq_false hgt
            show _ = _
            rw [HGD.out, HN.out, Bool.false_or, decide_eq_true_iff]; omega
          have HMK := Lib.hid hmk
          clear hmk
          go_wp2_with fail
          refine (pMask n _).mono ?_
          rintro e w' ⟨rfl, rfl⟩
          rw [HMK.out]
          go_wp2_with fail
          go_round
          case rel => exact ⟨j + 1, by omega, by go_num, (fun v hv => by
            by_cases e : v = j
            · rw [e]; exact HG2.out
            · exact hg.out v (by omega))⟩
          case measure => simp [intOf]; omega
        · have HV : Hid (vaE ts env = 1) := vaE_env HZ.out (envB_bad hlt (by
            have := of_decide_eq_true hgt
            rw [HGD.out, HN.out, Bool.false_or, decide_eq_false_iff_not]; omega))
          have HMK := Lib.hid hmk
          clear hmk
          go_wp2_with fail
          refine (pMask n _).mono ?_
          rintro e w' ⟨rfl, rfl⟩
          rw [HMK.out]
          go_wp2_with fail
          go_ret2
          exact ⟨_, by rw [HV.out]; rfl, by rw [vaL_bad (by rw [HV.out]; decide)]; exact Ints.nil _ _, HB1.out⟩
      · have HG2 : Hid (envG ts env j = true) := by show _ = _; rw [HGD.out, hn]; rfl
        go_wp2_with fail
        go_round
        case rel => exact ⟨j + 1, by omega, by go_num, (fun v hv => by
          by_cases e : v = j
          · rw [e]; exact HG2.out
          · exact hg.out v (by omega))⟩
        case measure => simp [intOf]; omega
    · obtain rfl : j = 4 := by omega
      have HB : Hid (envB ts env = true) := envB_good H4.out hg.out
      go_wp2_with fail
      refine (values_any ts env _ _ _ (HT.out.stays HB1.out) (HEV.out.stays HB1.out) HZ.out HI.out (envOk_of HE.out HB.out)).mono ?_
      rintro e w' ⟨v2, rfl, hv2, hb2⟩
      have HV2 := Lib.hid (And.intro hv2 hb2)
      clear hv2 hb2
      go_wp2_with fail
      go_ret2
      exact ⟨_, by rw [vaE_ok HZ.out HB.out]; rfl, by rw [vaL_ok (vaE_ok HZ.out HB.out)]; exact HV2.out.1, below_next HB1.out HB1.out.size HV2.out.2⟩

set_option maxRecDepth 100000 in
set_option maxHeartbeats 1000000 in
theorem pEval (ts : List Nd) (env : List Int) (tv ev : Value) (w : World) (hts : Nds w tv ts) (hev : Ints .u32 w ev env) (hi : ∀ x ∈ ts, 0 ≤ x.imm ∧ x.imm ≤ 4294967295) (hE : ∀ x ∈ env, 0 ≤ x ∧ x ≤ 4294967295) : Calls Try.prog 20 #[tv, ev] w fun e w' => e = .returned (.tuple #[.int .u32 (evV ts env), .int .i64 (vaE ts env)]) ∧ Below w.heap.size w w' := by
  have HT := Lib.hid hts
  have HI := Lib.hid hi
  have HEV := Lib.hid hev
  have HE := Lib.hid hE
  obtain ⟨ta, tc, rfl, ht1, ht2⟩ := hts.shape
  obtain ⟨ea, ec, rfl, he1, he2⟩ := hev.shape
  clear hi hts hev hE
  cases hz : (vaE ts env != 0)
  rotate_left
  · have HZ : Hid (vaE ts env ≠ 0) := by
      have h : ¬ vaE ts env = 0 := by simpa using hz
      exact h
    have HV : Hid (evV ts env = 0) := if_neg HZ.out
    go_enter Try.func20, Try.ntmps20
    go_wp2_with fail
    refine (pValues ts env _ _ _ HT.out HEV.out HI.out HE.out).mono ?_
    rintro e w1 ⟨v1, rfl, hv1, hb1⟩
    go_wp2_with fail
    go_ret2
    exact ⟨by rw [HV.out]; rfl, hb1⟩
  have hz' : vaE ts env = 0 := by simpa using hz
  have HZ := Lib.hid hz'
  clear hz hz'
  have hl1 := (valid_facts (vaE_zero HZ.out).1).1
  have HV : Hid (evV ts env = (vals ts env).getD (ts.length - 1) 0) := if_pos HZ.out
  go_enter Try.func20, Try.ntmps20
  go_wp2_with fail
  refine (pValues ts env _ _ _ HT.out HEV.out HI.out HE.out).mono ?_
  rintro e w1 ⟨v1, rfl, hv1, hb1⟩
  rw [HZ.out]
  rw [vaL_ok HZ.out] at hv1
  obtain ⟨wa, wc, rfl, hw1, hw2⟩ := hv1.shape
  have hvl := vals_len ts env
  obtain ⟨b3, q3, rfl, _, hcs⟩ := hv1.row (by omega)
  have e1 := hcs (ts.length - 1) (by omega)
  rw [← HV.out] at e1
  rw [hvl] at *
  have HB1 := Lib.hid hb1
  clear hv1 hcs hb1 hvl
  go_wp2_with fail
  go_ret2
  exact ⟨by rw [HZ.out]; rfl, HB1.out⟩

end Go.Proofs.Ythopdfikikdcbaa
