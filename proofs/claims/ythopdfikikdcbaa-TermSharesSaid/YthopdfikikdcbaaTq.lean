/- Walks of Values and Eval of the answer, of SameWords, of known, and of the statements TermValidates, TermValues. -/
import Derived.Test.YthopdfikikdcbaaTp
namespace Go.Proofs.Ythopdfikikdcbaa
open Go.RowKit Wd
set_option linter.unusedVariables false
set_option linter.unusedSimpArgs false

set_option maxRecDepth 100000 in
set_option maxHeartbeats 1000000 in
theorem rValues (ts : List Nd) (env : List Int) (tv ev : Value) (w : World) (hts : Nds w tv ts) (hev : Ints .u32 w ev env) (hi : ∀ x ∈ ts, 0 ≤ x.imm ∧ x.imm ≤ 4294967295) (hE : ∀ x ∈ env, 0 ≤ x ∧ x ≤ 4294967295) : Calls Try.prog 23 #[tv, ev] w fun e w' => ∃ v, e = .returned (.tuple #[v, .int .i64 (vaE ts env)]) ∧ Ints .u32 w' v (vaL ts env) ∧ Below w.heap.size w w' := by
  have HT := Lib.hid hts
  have HI := Lib.hid hi
  have HEV := Lib.hid hev
  have HE := Lib.hid hE
  obtain ⟨ta, tc, rfl, ht1, ht2⟩ := hts.shape
  obtain ⟨ea, ec, rfl, he1, he2⟩ := hev.shape
  clear hi hts hev hE
  cases hz : (valE ts != 0)
  rotate_left
  · have HZ : Hid (valE ts ≠ 0) := by
      have h : ¬ valE ts = 0 := by simpa using hz
      exact h
    go_enter Try.func23, Try.ntmps23
    go_wp2_with fail
    refine (rValidate ts _ _ HT.out HI.out).mono ?_
    rintro e w1 ⟨rfl, hb1⟩
    go_wp2_with fail
    go_ret2
    exact ⟨_, by rw [vaE_bad HZ.out]; rfl, by rw [vaL_bad (by rw [vaE_bad HZ.out]; exact HZ.out)]; exact Ints.nil _ _, hb1⟩
  have hz' : valE ts = 0 := by simpa using hz
  have HZ := Lib.hid hz'
  clear hz hz'
  cases hen : envB ts env
  · have HEN := Lib.hid hen
    clear hen
    go_enter Try.func23, Try.ntmps23
    go_wp2_with fail
    refine (rValidate ts _ _ HT.out HI.out).mono ?_
    rintro e w1 ⟨rfl, hb1⟩
    rw [HZ.out]
    have HB1 := Lib.hid hb1
    clear hb1
    go_wp2_with fail
    refine (rIsEnv ts env _ _ _ (HT.out.stays HB1.out) (HEV.out.stays HB1.out) HI.out HE.out HZ.out).mono ?_
    rintro e w2 ⟨rfl, hb2⟩
    rw [HEN.out]
    have HB2 := Lib.hid (below_next HB1.out HB1.out.size hb2)
    clear hb2
    go_wp2_with fail
    go_ret2
    exact ⟨_, by rw [vaE_env HZ.out HEN.out]; rfl, by rw [vaL_bad (by rw [vaE_env HZ.out HEN.out]; decide)]; exact Ints.nil _ _, HB2.out⟩
  · have HEN := Lib.hid hen
    clear hen
    go_enter Try.func23, Try.ntmps23
    go_wp2_with fail
    refine (rValidate ts _ _ HT.out HI.out).mono ?_
    rintro e w1 ⟨rfl, hb1⟩
    rw [HZ.out]
    have HB1 := Lib.hid hb1
    clear hb1
    go_wp2_with fail
    refine (rIsEnv ts env _ _ _ (HT.out.stays HB1.out) (HEV.out.stays HB1.out) HI.out HE.out HZ.out).mono ?_
    rintro e w2 ⟨rfl, hb2⟩
    rw [HEN.out]
    have HB2 := Lib.hid (below_next HB1.out HB1.out.size hb2)
    clear hb2
    go_wp2_with fail
    refine (rBelow ts env _ _ _ (HT.out.stays HB2.out) (HEV.out.stays HB2.out) HI.out HE.out HZ.out (envOk_of HE.out HEN.out)).mono ?_
    rintro e w3 ⟨v3, rfl, hv3, hb3⟩
    have H3 := Lib.hid (And.intro hv3 hb3)
    clear hv3 hb3
    go_wp2_with fail
    go_ret2
    exact ⟨_, by rw [vaE_ok HZ.out HEN.out]; rfl, by rw [vaL_ok (vaE_ok HZ.out HEN.out)]; exact H3.out.1, below_next HB2.out HB2.out.size H3.out.2⟩

set_option maxRecDepth 100000 in
set_option maxHeartbeats 1000000 in
theorem rEval (ts : List Nd) (env : List Int) (tv ev : Value) (w : World) (hts : Nds w tv ts) (hev : Ints .u32 w ev env) (hi : ∀ x ∈ ts, 0 ≤ x.imm ∧ x.imm ≤ 4294967295) (hE : ∀ x ∈ env, 0 ≤ x ∧ x ≤ 4294967295) : Calls Try.prog 21 #[tv, ev] w fun e w' => e = .returned (.tuple #[.int .u32 (evV ts env), .int .i64 (vaE ts env)]) ∧ Below w.heap.size w w' := by
  have HT := Lib.hid hts
  have HI := Lib.hid hi
  have HEV := Lib.hid hev
  have HE := Lib.hid hE
  obtain ⟨ta, tc, rfl, ht1, ht2⟩ := hts.shape
  obtain ⟨ea, ec, rfl, he1, he2⟩ := hev.shape
  clear hi hts hev hE
  cases hz : (vaE ts env != 0)
  rotate_left
  · have HZ : Hid (vaE ts env ≠ 0) := by
      have h : ¬ vaE ts env = 0 := by simpa using hz
      exact h
    have HV : Hid (evV ts env = 0) := if_neg HZ.out
    go_enter Try.func21, Try.ntmps21
    go_wp2_with fail
    refine (rValues ts env _ _ _ HT.out HEV.out HI.out HE.out).mono ?_
    rintro e w1 ⟨v1, rfl, hv1, hb1⟩
    go_wp2_with fail
    go_ret2
    exact ⟨by rw [HV.out]; rfl, hb1⟩
  have hz' : vaE ts env = 0 := by simpa using hz
  have HZ := Lib.hid hz'
  clear hz hz'
  have hl1 := (valid_facts (vaE_zero HZ.out).1).1
  have HV : Hid (evV ts env = (vals ts env).getD (ts.length - 1) 0) := if_pos HZ.out
  go_enter Try.func21, Try.ntmps21
  go_wp2_with fail
  refine (rValues ts env _ _ _ HT.out HEV.out HI.out HE.out).mono ?_
  rintro e w1 ⟨v1, rfl, hv1, hb1⟩
  rw [HZ.out]
  rw [vaL_ok HZ.out] at hv1
  obtain ⟨wa, wc, rfl, hw1, hw2⟩ := hv1.shape
  have hvl := vals_len ts env
  obtain ⟨b3, q3, rfl, _, hcs⟩ := hv1.row (by omega)
  have e1 := hcs (ts.length - 1) (by omega)
  rw [← HV.out] at e1
  rw [hvl] at *
  have HB1 := Lib.hid hb1
  clear hv1 hcs hb1 hvl
  go_wp2_with fail
  go_ret2
  exact ⟨by rw [HZ.out]; rfl, HB1.out⟩

set_option maxRecDepth 100000 in
set_option maxHeartbeats 4000000 in
theorem sameWords_any (xs ys : List Int) (v u : Value) (w : World) (hv : Ints .u32 w v xs) (hu : Ints .u32 w u ys) : Calls Try.prog 24 #[v, u] w fun e w' => e = .returned (.bool (decide (xs = ys))) ∧ Dr w w' := by
  have HX := Lib.hid hv
  have HY := Lib.hid hu
  obtain ⟨a, c, rfl, h1, h2⟩ := hv.shape
  obtain ⟨a2, c2, rfl, k1, k2⟩ := hu.shape
  clear hv hu
  cases hne : ((xs.length : Int) != ys.length)
  · have hl : xs.length = ys.length := by
      have h : (xs.length : Int) = ys.length := by simpa using hne
      omega
    have HL := Lib.hid hl
    clear hl
    go_enter Try.func24, Try.ntmps24
    go_wp2_with fail
    go_loopw [5] (fun i wr => ∃ j : Nat, j ≤ xs.length ∧ i = .int .i64 j ∧ Hid (∀ i, i < j → xs.getD i 0 = ys.getD i 0) ∧ Dr w wr) (fun i _ => xs.length - (intOf i).toNat)
    case atStart => exact ⟨0, Nat.zero_le _, rfl, (fun i hi => absurd hi (by omega)), Dr.refl _⟩
    case round =>
      obtain ⟨j, hj, rfl, hno, n, rfl⟩ := hrel
      by_cases hlt : j < xs.length
      · have hlt2 : j < ys.length := by have := HL.out; omega
        obtain ⟨b, q, c', e', _, _, d0⟩ := HX.out.at hlt
        cases e'
        obtain ⟨b2, q2, c2', e', _, _, d1⟩ := HY.out.at hlt2
        cases e'
        generalize hx : xs.getD j 0 = x at *
        generalize hy : ys.getD j 0 = y at *
        have HXJ := Lib.hid hx
        have HYJ := Lib.hid hy
        clear hx hy
        cases hc : (x != y)
        · have HC : Hid (x = y) := by have : x = y := by simpa using hc
                                      exact this
          go_wp2_with fail
          go_quiet (fail)
          go_wp2_with fail
          go_roundw
          case rel => exact ⟨j + 1, by omega, by go_num, (fun i hi => by
            by_cases e : i = j
            · rw [e, HXJ.out, HYJ.out]; exact HC.out
            · exact hno.out i (by omega)), _, rfl⟩
          case measure => simp [intOf]; omega
        · have HV : Hid (decide (xs = ys) = false) := by
            have hc' : x ≠ y := by simpa using hc
            show _ = _
            rw [decide_eq_false_iff_not]
            intro e
            exact hc' (by rw [← HXJ.out, ← HYJ.out, e])
          go_wp2_with fail
          go_quiet (fail)
          go_wp2_with fail
          go_ret
          exact ⟨ret_b HV.out.symm, _, by first | rfl | exact World.drewN_drewN _ _ _⟩
      · have HV : Hid (decide (xs = ys) = true) := by
          show _ = _
          rw [decide_eq_true_iff]
          exact ext_getD HL.out (fun i hi => hno.out i (by omega))
        go_wp2_with fail
        go_ret
        exact ⟨ret_b HV.out.symm, _, rfl⟩
  · have HV : Hid (decide (xs = ys) = false) := by
      have hl : xs.length ≠ ys.length := by intro e; rw [e] at hne; simp at hne
      show _ = _
      rw [decide_eq_false_iff_not]
      intro e
      exact hl (by rw [e])
    go_enter Try.func24, Try.ntmps24
    go_wp2_with fail
    go_ret
    exact ⟨ret_b HV.out.symm, Dr.refl _⟩

def knownT : List Nd := [⟨33, 8, 0, [], 0⟩, ⟨0, 8, 0, [], 1⟩, ⟨1, 8, 0, [0, 1], 0⟩]
theorem known_facts : valE knownT = 0 ∧ depV knownT = 2 ∧ envB knownT [255, 0, 0, 0] = true ∧ vaE knownT [255, 0, 0, 0] = 0 ∧ evV knownT [255, 0, 0, 0] = 0 := by decide +kernel
theorem kn_ints (w : World) : Ints .i64 (((w.alloc (.cells #[.int .i64 0, .int .i64 1] 3)).alloc (.cells #[.int .i64 33, .int .i64 8, .int .i64 0, .slice none 0 0, .int .u32 0, .int .i64 0, .int .i64 8, .int .i64 0, .slice none 0 0, .int .u32 1, .int .i64 1, .int .i64 8, .int .i64 0, .slice (some ⟨w.heap.size, 0, none⟩) 2 2, .int .u32 0] 47)).alloc (.cells #[.int .u32 255, .int .u32 0, .int .u32 0, .int .u32 0] 34)) (.slice (some ⟨w.heap.size, 0, none⟩) 2 2) [0, 1] := by
  refine ⟨_, _, rfl, Nat.le_refl _, ⟨by simp, by omega⟩, (fun hh => by cases hh), fun i hi => ⟨_, _, rfl, by simp; omega, ?_⟩⟩
  have : i = 0 ∨ i = 1 := by simp at hi; omega
  rcases this with rfl | rfl <;> simp [go_sem]
theorem kn_nds (w : World) : Nds (((w.alloc (.cells #[.int .i64 0, .int .i64 1] 3)).alloc (.cells #[.int .i64 33, .int .i64 8, .int .i64 0, .slice none 0 0, .int .u32 0, .int .i64 0, .int .i64 8, .int .i64 0, .slice none 0 0, .int .u32 1, .int .i64 1, .int .i64 8, .int .i64 0, .slice (some ⟨w.heap.size, 0, none⟩) 2 2, .int .u32 0] 47)).alloc (.cells #[.int .u32 255, .int .u32 0, .int .u32 0, .int .u32 0] 34)) (.slice (some ⟨w.heap.size + 1, 0, none⟩) 3 3) knownT := by
  refine ⟨_, _, rfl, Nat.le_refl _, ⟨by simp [knownT], by omega⟩, (fun hh => by cases hh), fun i hi => ⟨_, _, rfl, by simp, ?_⟩⟩
  have : i = 0 ∨ i = 1 ∨ i = 2 := by simp [knownT] at hi; omega
  rcases this with rfl | rfl | rfl
  · exact ⟨by simp [go_sem, knownT], by simp [go_sem, knownT], by simp [go_sem, knownT], ⟨_, by simp [go_sem], Ints.nil _ _⟩, by simp [go_sem, knownT]⟩
  · exact ⟨by simp [go_sem, knownT], by simp [go_sem, knownT], by simp [go_sem, knownT], ⟨_, by simp [go_sem], Ints.nil _ _⟩, by simp [go_sem, knownT]⟩
  · exact ⟨by simp [go_sem, knownT], by simp [go_sem, knownT], by simp [go_sem, knownT], ⟨_, by simp [go_sem], kn_ints w⟩, by simp [go_sem, knownT]⟩
theorem kn_env (w : World) : Ints .u32 (((w.alloc (.cells #[.int .i64 0, .int .i64 1] 3)).alloc (.cells #[.int .i64 33, .int .i64 8, .int .i64 0, .slice none 0 0, .int .u32 0, .int .i64 0, .int .i64 8, .int .i64 0, .slice none 0 0, .int .u32 1, .int .i64 1, .int .i64 8, .int .i64 0, .slice (some ⟨w.heap.size, 0, none⟩) 2 2, .int .u32 0] 47)).alloc (.cells #[.int .u32 255, .int .u32 0, .int .u32 0, .int .u32 0] 34)) (.slice (some ⟨w.heap.size + 1 + 1, 0, none⟩) 4 4) [255, 0, 0, 0] := by
  refine ⟨_, _, rfl, Nat.le_refl _, ⟨by simp, by omega⟩, (fun hh => by cases hh), fun i hi => ⟨_, _, rfl, by simp, ?_⟩⟩
  have : i = 0 ∨ i = 1 ∨ i = 2 ∨ i = 3 := by simp at hi; omega
  rcases this with rfl | rfl | rfl | rfl <;> simp [go_sem]
theorem kn_imm : ∀ x ∈ knownT, 0 ≤ x.imm ∧ x.imm ≤ 4294967295 := by decide
theorem kn_wds : ∀ x ∈ ([255, 0, 0, 0] : List Int), 0 ≤ x ∧ x ≤ 4294967295 := by decide
set_option maxRecDepth 100000 in
set_option maxHeartbeats 1000000 in
theorem known7 (w : World) : Calls Try.prog 12 #[] w fun e w' => e = .returned (.bool true) ∧ Below w.heap.size w w' := by
  have HK := Lib.hid known_facts
  have HN := Lib.hid (kn_nds w)
  have HE := Lib.hid (kn_env w)
  have HB0 : Hid (Below w.heap.size w (((w.alloc (.cells #[.int .i64 0, .int .i64 1] 3)).alloc (.cells #[.int .i64 33, .int .i64 8, .int .i64 0, .slice none 0 0, .int .u32 0, .int .i64 0, .int .i64 8, .int .i64 0, .slice none 0 0, .int .u32 1, .int .i64 1, .int .i64 8, .int .i64 0, .slice (some ⟨w.heap.size, 0, none⟩) 2 2, .int .u32 0] 47)).alloc (.cells #[.int .u32 255, .int .u32 0, .int .u32 0, .int .u32 0] 34))) := (((Below.refl _ _).alloc (Nat.le_refl _) _).alloc (by simp) _).alloc (by simp; omega) _
  go_enter Try.func12, Try.ntmps12
  go_wp2_with fail
  refine (pEval knownT [255, 0, 0, 0] _ _ _ HN.out HE.out kn_imm kn_wds).mono ?_
  rintro e w1 ⟨rfl, hb1⟩
  rw [HK.out.2.2.2.1, HK.out.2.2.2.2]
  have HB1 := Lib.hid hb1
  clear hb1
  go_wp2_with fail
  refine (pDepth knownT _ _ (HN.out.stays HB1.out) kn_imm).mono ?_
  rintro e w2 ⟨rfl, hb2⟩
  rw [HK.out.1, HK.out.2.1]
  have HB2 := Lib.hid hb2
  clear hb2
  go_wp2_with fail
  go_ret
  exact ⟨rfl, below_hop (below_hop HB0.out HB1.out) HB2.out⟩

set_option maxRecDepth 100000 in
set_option maxHeartbeats 1000000 in
theorem wTermValidates (ts : List Nd) (tv : Value) (w : World) (hts : Nds w tv ts) (hi : ∀ x ∈ ts, 0 ≤ x.imm ∧ x.imm ≤ 4294967295) : Calls Try.prog 3 #[tv] w fun e w' => e = .returned (.bool true) ∧ Below w.heap.size w w' := by
  have HT := Lib.hid hts
  have HI := Lib.hid hi
  obtain ⟨ta, tc, rfl, ht1, ht2⟩ := hts.shape
  clear hi hts
  cases hl : longB ts
  · go_enter Try.func3, Try.ntmps3
    go_wp2_with fail
    refine (long_any ts _ _ HT.out).mono ?_
    rintro e w' ⟨rfl, rfl⟩
    go_wp2_with fail
    refine (pWidths ts _ _ HT.out HI.out).mono ?_
    rintro e w1 ⟨v1, rfl, hv1, hb1⟩
    have HB1 := Lib.hid hb1
    clear hb1
    go_wp2_with fail
    refine (rWidths ts _ _ (HT.out.stays HB1.out) HI.out).mono ?_
    rintro e w2 ⟨v2, rfl, hv2, hb2⟩
    have HB2 := Lib.hid (below_hop HB1.out hb2)
    have H1 := Lib.hid (Ints.stays hv1 hb2)
    have H2 := Lib.hid hv2
    obtain ⟨a1, c1, rfl, _⟩ := hv1.shape
    obtain ⟨a2, c2, rfl, _⟩ := hv2.shape
    clear hb2 hv1 hv2
    go_wp2_with fail
    refine (pDepth ts _ _ (HT.out.stays HB2.out) HI.out).mono ?_
    rintro e w3 ⟨rfl, hb3⟩
    have HB3 := Lib.hid hb3
    clear hb3
    go_wp2_with fail
    refine (rDepth ts _ _ (HT.out.stays (below_hop HB2.out HB3.out)) HI.out).mono ?_
    rintro e w4 ⟨rfl, hb4⟩
    have HB4 := Lib.hid (below_hop HB3.out hb4)
    clear hb4
    go_wp2_with fail
    refine (pValidate ts _ _ (HT.out.stays (below_hop HB2.out HB4.out)) HI.out).mono ?_
    rintro e w5 ⟨rfl, hb5⟩
    have HB5 := Lib.hid (below_hop HB4.out hb5)
    clear hb5
    go_wp2_with fail
    refine (rValidate ts _ _ (HT.out.stays (below_hop HB2.out HB5.out)) HI.out).mono ?_
    rintro e w6 ⟨rfl, hb6⟩
    have HB6 := Lib.hid (below_hop HB5.out hb6)
    clear hb6
    go_wp2_with fail
    refine (sameInts_any (widL ts) (widL ts) _ _ _ (H1.out.stays HB6.out) (H2.out.stays HB6.out)).mono ?_
    rintro e w7 ⟨rfl, hd7⟩
    have HB7 := Lib.hid (below_hop (below_hop HB2.out HB6.out) (hd7.below _))
    clear hd7
    rw [decide_eq_true (rfl : widL ts = widL ts)]
    go_wp2_with fail
    refine (known7 _).mono ?_
    rintro e w8 ⟨rfl, hb8⟩
    go_wp2_with fail
    go_ret
    exact ⟨rfl, below_hop HB7.out hb8⟩
  · go_enter Try.func3, Try.ntmps3
    go_wp2_with fail
    refine (long_any ts _ _ HT.out).mono ?_
    rintro e w' ⟨rfl, rfl⟩
    go_wp2_with fail
    refine (known7 _).mono ?_
    rintro e w8 ⟨rfl, hb8⟩
    go_wp2_with fail
    go_ret
    exact ⟨rfl, hb8⟩

set_option maxRecDepth 100000 in
set_option maxHeartbeats 1000000 in
theorem wTermValues (ts : List Nd) (env : List Int) (tv ev : Value) (w : World) (hts : Nds w tv ts) (hev : Ints .u32 w ev env) (hi : ∀ x ∈ ts, 0 ≤ x.imm ∧ x.imm ≤ 4294967295) (hE : ∀ x ∈ env, 0 ≤ x ∧ x ≤ 4294967295) : Calls Try.prog 4 #[tv, ev] w fun e w' => e = .returned (.bool true) ∧ Below w.heap.size w w' := by
  have HT := Lib.hid hts
  have HI := Lib.hid hi
  have HEV := Lib.hid hev
  have HE := Lib.hid hE
  obtain ⟨ta, tc, rfl, ht1, ht2⟩ := hts.shape
  obtain ⟨ea, ec, rfl, he1, he2⟩ := hev.shape
  clear hi hts hev hE
  have kn : ∀ w : World, Calls Try.prog 12 #[] w fun e w' => e = .returned (.bool true) ∧ Below w.heap.size w w' := known7
  have KN := Lib.hid kn
  clear kn
  cases hl : longB ts
  rotate_left
  · go_enter Try.func4, Try.ntmps4
    go_wp2_with fail
    refine (long_any ts _ _ HT.out).mono ?_
    rintro e w' ⟨rfl, rfl⟩
    go_wp2_with fail
    refine (KN.out _).mono ?_
    rintro e w8 ⟨rfl, hb8⟩
    go_wp2_with fail
    go_ret
    exact ⟨rfl, hb8⟩
  cases hl2 : decide (100 < (env.length : Int))
  rotate_left
  · go_enter Try.func4, Try.ntmps4
    go_wp2_with fail
    refine (long_any ts _ _ HT.out).mono ?_
    rintro e w' ⟨rfl, rfl⟩
    go_wp2_with fail
    refine (KN.out _).mono ?_
    rintro e w8 ⟨rfl, hb8⟩
    go_wp2_with fail
    go_ret
    exact ⟨rfl, hb8⟩
  go_enter Try.func4, Try.ntmps4
  go_wp2_with fail
  refine (long_any ts _ _ HT.out).mono ?_
  rintro e w' ⟨rfl, rfl⟩
  go_wp2_with fail
  refine (pEval ts env _ _ _ HT.out HEV.out HI.out HE.out).mono ?_
  rintro e w1 ⟨rfl, hb1⟩
  have HB1 := Lib.hid hb1
  clear hb1
  go_wp2_with fail
  refine (rEval ts env _ _ _ (HT.out.stays HB1.out) (HEV.out.stays HB1.out) HI.out HE.out).mono ?_
  rintro e w2 ⟨rfl, hb2⟩
  have HB2 := Lib.hid (below_hop HB1.out hb2)
  clear hb2
  go_wp2_with fail
  refine (pValues ts env _ _ _ (HT.out.stays HB2.out) (HEV.out.stays HB2.out) HI.out HE.out).mono ?_
  rintro e w3 ⟨v3, rfl, hv3, hb3⟩
  have HB3 := Lib.hid (below_hop HB2.out hb3)
  clear hb3
  obtain ⟨a3, c3, rfl, _⟩ := hv3.shape
  have H3 := Lib.hid hv3
  clear hv3
  go_wp2_with fail
  refine (rValues ts env _ _ _ (HT.out.stays HB3.out) (HEV.out.stays HB3.out) HI.out HE.out).mono ?_
  rintro e w4 ⟨v4, rfl, hv4, hb4⟩
  have HB4 := Lib.hid (below_hop HB3.out hb4)
  obtain ⟨a4, c4, rfl, _⟩ := hv4.shape
  have H4 := Lib.hid (And.intro (H3.out.stays hb4) hv4)
  clear hv4 hb4
  go_wp2_with fail
  refine (sameWords_any (vaL ts env) (vaL ts env) _ _ _ H4.out.1 H4.out.2).mono ?_
  rintro e w5 ⟨rfl, hd5⟩
  have HB5 := Lib.hid (below_hop HB4.out (hd5.below _))
  clear hd5
  rw [decide_eq_true (rfl : vaL ts env = vaL ts env)]
  go_wp2_with fail
  refine (KN.out _).mono ?_
  rintro e w8 ⟨rfl, hb8⟩
  go_wp2_with fail
  go_ret
  exact ⟨rfl, below_hop HB5.out hb8⟩

end Go.Proofs.Ythopdfikikdcbaa
