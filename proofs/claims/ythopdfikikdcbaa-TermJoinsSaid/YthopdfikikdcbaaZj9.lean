/- Walks of Values and Eval of the answer, of SameWords, of known, and of the statements TermValidates, TermValues. -/
import Derived.Deep.DeepMust
import Derived.Deep.RegionLaw
import Derived.Deep.AppendLies
import Derived.IntWalk
import Derived.Test.YthopdfikikdcbaaRows
import Derived.WalkKit
import Derived.ProofKit
import Derived.OpenShut
import Derived.Below
import Derived.ChangeSame
import Derived.Lib.SmallJoins
import Derived.Deep.Slices
import Derived.SizedLaws
import Derived.DataReads
import Derived.ChangeSlices
import Derived.Test.YthopdfikikdcbaaZj1
import Derived.Test.YthopdfikikdcbaaZj7
import Derived.Test.YthopdfikikdcbaaZj8
namespace Go.Proofs.Ythopdfikikdcbaa
open Go.RowKit Wd
set_option linter.unusedVariables false
set_option linter.unusedSimpArgs false

set_option maxRecDepth 100000 in
set_option maxHeartbeats 1000000 in
theorem rValues (ts : List Nd) (env : List Int) (tv ev : Value) (w : World) (hts : Nds w tv ts) (hev : Ints .u32 w ev env) (hi : ∀ x ∈ ts, 0 ≤ x.imm ∧ x.imm ≤ 4294967295) (hE : ∀ x ∈ env, 0 ≤ x ∧ x ≤ 4294967295) : Calls Try.prog 23 #[tv, ev] w fun e w' => ∃ v, e = .returned (.tuple #[v, .int .i64 (vaE ts env)]) ∧ Ints .u32 w' v (vaL ts env) ∧ Below w.heap.size w w' := by
  have HT := Lib.hid hts
  have HI := Lib.hid hi
  have HEV := Lib.hid hev
  have HE := Lib.hid hE
  obtain ⟨ta, tc, rfl, ht1, ht2⟩ := hts.shape
  obtain ⟨ea, ec, rfl, he1, he2⟩ := hev.shape
  clear hi hts hev hE
  cases hz : (valE ts != 0)
  rotate_left
  · have HZ : Hid (valE ts ≠ 0) := by
      have h : ¬ valE ts = 0 := by simpa using hz
      exact h
    go_enter Try.func23, Try.ntmps23
    go_wp2_with fail
    refine (rValidate ts _ _ HT.out HI.out).mono ?_
    rintro e w1 ⟨rfl, hb1⟩
    go_wp2_with fail
    go_ret2
    exact ⟨_, by rw [vaE_bad HZ.out]; rfl, by rw [vaL_bad (by rw [vaE_bad HZ.out]; exact HZ.out)]; exact Ints.nil _ _, hb1⟩
  have hz' : valE ts = 0 := by simpa using hz
  have HZ := Lib.hid hz'
  clear hz hz'
  cases hen : envB ts env
  · have HEN := Lib.hid hen
    clear hen
    go_enter Try.func23, Try.ntmps23
    go_wp2_with fail
    refine (rValidate ts _ _ HT.out HI.out).mono ?_
    rintro e w1 ⟨rfl, hb1⟩
    rw [HZ.out]
    have HB1 := Lib.hid hb1
    clear hb1
    go_wp2_with fail
    refine (rIsEnv ts env _ _ _ (HT.out.stays HB1.out) (HEV.out.stays HB1.out) HI.out HE.out HZ.out).mono ?_
    rintro e w2 ⟨rfl, hb2⟩
    rw [HEN.out]
    have HB2 := Lib.hid (below_next HB1.out HB1.out.size hb2)
    clear hb2
    go_wp2_with fail
    go_ret2
    exact ⟨_, by rw [vaE_env HZ.out HEN.out]; rfl, by rw [vaL_bad (by rw [vaE_env HZ.out HEN.out]; decide)]; exact Ints.nil _ _, HB2.out⟩
  · have HEN := Lib.hid hen
    clear hen
    go_enter Try.func23, Try.ntmps23
    go_wp2_with fail
    refine (rValidate ts _ _ HT.out HI.out).mono ?_
    rintro e w1 ⟨rfl, hb1⟩
    rw [HZ.out]
    have HB1 := Lib.hid hb1
    clear hb1
    go_wp2_with fail
    refine (rIsEnv ts env _ _ _ (HT.out.stays HB1.out) (HEV.out.stays HB1.out) HI.out HE.out HZ.out).mono ?_
    rintro e w2 ⟨rfl, hb2⟩
    rw [HEN.out]
    have HB2 := Lib.hid (below_next HB1.out HB1.out.size hb2)
    clear hb2
    go_wp2_with fail
    refine (rBelow ts env _ _ _ (HT.out.stays HB2.out) (HEV.out.stays HB2.out) HI.out HE.out HZ.out (envOk_of HE.out HEN.out)).mono ?_
    rintro e w3 ⟨v3, rfl, hv3, hb3⟩
    have H3 := Lib.hid (And.intro hv3 hb3)
    clear hv3 hb3
    go_wp2_with fail
    go_ret2
    exact ⟨_, by rw [vaE_ok HZ.out HEN.out]; rfl, by rw [vaL_ok (vaE_ok HZ.out HEN.out)]; exact H3.out.1, below_next HB2.out HB2.out.size H3.out.2⟩

set_option maxRecDepth 100000 in
set_option maxHeartbeats 1000000 in
theorem rEval (ts : List Nd) (env : List Int) (tv ev : Value) (w : World) (hts : Nds w tv ts) (hev : Ints .u32 w ev env) (hi : ∀ x ∈ ts, 0 ≤ x.imm ∧ x.imm ≤ 4294967295) (hE : ∀ x ∈ env, 0 ≤ x ∧ x ≤ 4294967295) : Calls Try.prog 21 #[tv, ev] w fun e w' => e = .returned (.tuple #[.int .u32 (evV ts env), .int .i64 (vaE ts env)]) ∧ Below w.heap.size w w' := by
  have HT := Lib.hid hts
  have HI := Lib.hid hi
  have HEV := Lib.hid hev
  have HE := Lib.hid hE
  obtain ⟨ta, tc, rfl, ht1, ht2⟩ := hts.shape
  obtain ⟨ea, ec, rfl, he1, he2⟩ := hev.shape
  clear hi hts hev hE
  cases hz : (vaE ts env != 0)
  rotate_left
  · have HZ : Hid (vaE ts env ≠ 0) := by
      have h : ¬ vaE ts env = 0 := by simpa using hz
      exact h
    have HV : Hid (evV ts env = 0) := if_neg HZ.out
    go_enter Try.func21, Try.ntmps21
    go_wp2_with fail
    refine (rValues ts env _ _ _ HT.out HEV.out HI.out HE.out).mono ?_
    rintro e w1 ⟨v1, rfl, hv1, hb1⟩
    go_wp2_with fail
    go_ret2
    exact ⟨by rw [HV.out]; rfl, hb1⟩
  have hz' : vaE ts env = 0 := by simpa using hz
  have HZ := Lib.hid hz'
  clear hz hz'
  have hl1 := (valid_facts (vaE_zero HZ.out).1).1
  have HV : Hid (evV ts env = (vals ts env).getD (ts.length - 1) 0) := if_pos HZ.out
  go_enter Try.func21, Try.ntmps21
  go_wp2_with fail
  refine (rValues ts env _ _ _ HT.out HEV.out HI.out HE.out).mono ?_
  rintro e w1 ⟨v1, rfl, hv1, hb1⟩
  rw [HZ.out]
  rw [vaL_ok HZ.out] at hv1
  obtain ⟨wa, wc, rfl, hw1, hw2⟩ := hv1.shape
  have hvl := vals_len ts env
  obtain ⟨b3, q3, rfl, _, hcs⟩ := hv1.row (by omega)
  have e1 := hcs (ts.length - 1) (by omega)
  rw [← HV.out] at e1
  rw [hvl] at *
  have HB1 := Lib.hid hb1
  clear hv1 hcs hb1 hvl
  go_wp2_with fail
  go_ret2
  exact ⟨by rw [HZ.out]; rfl, HB1.out⟩

set_option maxRecDepth 100000 in
set_option maxHeartbeats 4000000 in
theorem sameWords_any (xs ys : List Int) (v u : Value) (w : World) (hv : Ints .u32 w v xs) (hu : Ints .u32 w u ys) : Calls Try.prog 24 #[v, u] w fun e w' => e = .returned (.bool (decide (xs = ys))) ∧ Dr w w' := by
  have HX := Lib.hid hv
  have HY := Lib.hid hu
  obtain ⟨a, c, rfl, h1, h2⟩ := hv.shape
  obtain ⟨a2, c2, rfl, k1, k2⟩ := hu.shape
  clear hv hu
  cases hne : ((xs.length : Int) != ys.length)
  · have hl : xs.length = ys.length := by
      have h : (xs.length : Int) = ys.length := by simpa using hne
      omega
    have HL := Lib.hid hl
    clear hl
    go_enter Try.func24, Try.ntmps24
    go_wp2_with fail
    go_loopw [5] (fun i wr => ∃ j : Nat, j ≤ xs.length ∧ i = .int .i64 j ∧ Hid (∀ i, i < j → xs.getD i 0 = ys.getD i 0) ∧ Dr w wr) (fun i _ => xs.length - (intOf i).toNat)
    case atStart => exact ⟨0, Nat.zero_le _, rfl, (fun i hi => absurd hi (by omega)), Dr.refl _⟩
    case round =>
      obtain ⟨j, hj, rfl, hno, n, rfl⟩ := hrel
      by_cases hlt : j < xs.length
      · have hlt2 : j < ys.length := by have := HL.out; omega
        obtain ⟨b, q, c', e', _, _, d0⟩ := HX.out.at hlt
        cases e'
        obtain ⟨b2, q2, c2', e', _, _, d1⟩ := HY.out.at hlt2
        cases e'
        generalize hx : xs.getD j 0 = x at *
        generalize hy : ys.getD j 0 = y at *
        have HXJ := Lib.hid hx
        have HYJ := Lib.hid hy
        clear hx hy
        cases hc : (x != y)
        · have HC : Hid (x = y) := by have : x = y := by simpa using hc
                                      exact this
          go_wp2_with fail
          go_quiet (fail)
          go_wp2_with fail
          go_roundw
          case rel => exact ⟨j + 1, by omega, by go_num, (fun i hi => by
            by_cases e : i = j
            · rw [e, HXJ.out, HYJ.out]; exact HC.out
            · exact hno.out i (by omega)), _, rfl⟩
          case measure => simp [intOf]; omega
        · have HV : Hid (decide (xs = ys) = false) := by
            have hc' : x ≠ y := by simpa using hc
            show _ = _
            rw [decide_eq_false_iff_not]
            intro e
            exact hc' (by rw [← HXJ.out, ← HYJ.out, e])
          go_wp2_with fail
          go_quiet (fail)
          go_wp2_with fail
          go_ret
          exact ⟨ret_b HV.out.symm, _, by first | rfl | exact World.drewN_drewN _ _ _⟩
      · have HV : Hid (decide (xs = ys) = true) := by
          show _ = _
          rw [decide_eq_true_iff]
          exact ext_getD HL.out (fun i hi => hno.out i (by omega))
        go_wp2_with fail
        go_ret
        exact ⟨ret_b HV.out.symm, _, rfl⟩
  · have HV : Hid (decide (xs = ys) = false) := by
      have hl : xs.length ≠ ys.length := by intro e; rw [e] at hne; simp at hne
      show _ = _
      rw [decide_eq_false_iff_not]
      intro e
      exact hl (by rw [e])
    go_enter Try.func24, Try.ntmps24
    go_wp2_with fail
    go_ret
    exact ⟨ret_b HV.out.symm, Dr.refl _⟩

def knownT : List Nd := [⟨33, 8, 0, [], 0⟩, ⟨0, 8, 0, [], 1⟩, ⟨1, 8, 0, [0, 1], 0⟩]
theorem known_facts : valE knownT = 0 ∧ depV knownT = 2 ∧ envB knownT [255, 0, 0, 0] = true ∧ vaE knownT [255, 0, 0, 0] = 0 ∧ evV knownT [255, 0, 0, 0] = 0 := by decide +kernel
theorem kn_ints (w : World) : Ints .i64 (((w.alloc (.cells #[.int .i64 0, .int .i64 1] 3)).alloc (.cells #[.int .i64 33, .int .i64 8, .int .i64 0, .slice none 0 0, .int .u32 0, .int .i64 0, .int .i64 8, .int .i64 0, .slice none 0 0, .int .u32 1, .int .i64 1, .int .i64 8, .int .i64 0, .slice (some ⟨w.heap.size, 0, none⟩) 2 2, .int .u32 0] 47)).alloc (.cells #[.int .u32 255, .int .u32 0, .int .u32 0, .int .u32 0] 34)) (.slice (some ⟨w.heap.size, 0, none⟩) 2 2) [0, 1] := by
  refine ⟨_, _, rfl, Nat.le_refl _, ⟨by simp, by omega⟩, (fun hh => by cases hh), fun i hi => ⟨_, _, rfl, by simp; omega, ?_⟩⟩
  have : i = 0 ∨ i = 1 := by simp at hi; omega
  rcases this with rfl | rfl <;> simp [go_sem]
theorem kn_nds (w : World) : Nds (((w.alloc (.cells #[.int .i64 0, .int .i64 1] 3)).alloc (.cells #[.int .i64 33, .int .i64 8, .int .i64 0, .slice none 0 0, .int .u32 0, .int .i64 0, .int .i64 8, .int .i64 0, .slice none 0 0, .int .u32 1, .int .i64 1, .int .i64 8, .int .i64 0, .slice (some ⟨w.heap.size, 0, none⟩) 2 2, .int .u32 0] 47)).alloc (.cells #[.int .u32 255, .int .u32 0, .int .u32 0, .int .u32 0] 34)) (.slice (some ⟨w.heap.size + 1, 0, none⟩) 3 3) knownT := by
  refine ⟨_, _, rfl, Nat.le_refl _, ⟨by simp [knownT], by omega⟩, (fun hh => by cases hh), fun i hi => ⟨_, _, rfl, by simp, ?_⟩⟩
  have : i = 0 ∨ i = 1 ∨ i = 2 := by simp [knownT] at hi; omega
  rcases this with rfl | rfl | rfl
  · exact ⟨by simp [go_sem, knownT], by simp [go_sem, knownT], by simp [go_sem, knownT], ⟨_, by simp [go_sem], Ints.nil _ _⟩, by simp [go_sem, knownT]⟩
  · exact ⟨by simp [go_sem, knownT], by simp [go_sem, knownT], by simp [go_sem, knownT], ⟨_, by simp [go_sem], Ints.nil _ _⟩, by simp [go_sem, knownT]⟩
  · exact ⟨by simp [go_sem, knownT], by simp [go_sem, knownT], by simp [go_sem, knownT], ⟨_, by simp [go_sem], kn_ints w⟩, by simp [go_sem, knownT]⟩
theorem kn_env (w : World) : Ints .u32 (((w.alloc (.cells #[.int .i64 0, .int .i64 1] 3)).alloc (.cells #[.int .i64 33, .int .i64 8, .int .i64 0, .slice none 0 0, .int .u32 0, .int .i64 0, .int .i64 8, .int .i64 0, .slice none 0 0, .int .u32 1, .int .i64 1, .int .i64 8, .int .i64 0, .slice (some ⟨w.heap.size, 0, none⟩) 2 2, .int .u32 0] 47)).alloc (.cells #[.int .u32 255, .int .u32 0, .int .u32 0, .int .u32 0] 34)) (.slice (some ⟨w.heap.size + 1 + 1, 0, none⟩) 4 4) [255, 0, 0, 0] := by
  refine ⟨_, _, rfl, Nat.le_refl _, ⟨by simp, by omega⟩, (fun hh => by cases hh), fun i hi => ⟨_, _, rfl, by simp, ?_⟩⟩
  have : i = 0 ∨ i = 1 ∨ i = 2 ∨ i = 3 := by simp at hi; omega
  rcases this with rfl | rfl | rfl | rfl <;> simp [go_sem]
theorem kn_imm : ∀ x ∈ knownT, 0 ≤ x.imm ∧ x.imm ≤ 4294967295 := by decide
theorem kn_wds : ∀ x ∈ ([255, 0, 0, 0] : List Int), 0 ≤ x ∧ x ≤ 4294967295 := by decide
set_option maxRecDepth 100000 in
set_option maxHeartbeats 1000000 in
theorem known7 (w : World) : Calls Try.prog 12 #[] w fun e w' => e = .returned (.bool true) ∧ Below w.heap.size w w' := by
  have HK := Lib.hid known_facts
  have HN := Lib.hid (kn_nds w)
  have HE := Lib.hid (kn_env w)
  have HB0 : Hid (Below w.heap.size w (((w.alloc (.cells #[.int .i64 0, .int .i64 1] 3)).alloc (.cells #[.int .i64 33, .int .i64 8, .int .i64 0, .slice none 0 0, .int .u32 0, .int .i64 0, .int .i64 8, .int .i64 0, .slice none 0 0, .int .u32 1, .int .i64 1, .int .i64 8, .int .i64 0, .slice (some ⟨w.heap.size, 0, none⟩) 2 2, .int .u32 0] 47)).alloc (.cells #[.int .u32 255, .int .u32 0, .int .u32 0, .int .u32 0] 34))) := (((Below.refl _ _).alloc (Nat.le_refl _) _).alloc (by simp) _).alloc (by simp; omega) _
  go_enter Try.func12, Try.ntmps12
  go_wp2_with fail
  refine (pEval knownT [255, 0, 0, 0] _ _ _ HN.out HE.out kn_imm kn_wds).mono ?_
  rintro e w1 ⟨rfl, hb1⟩
  rw [HK.out.2.2.2.1, HK.out.2.2.2.2]
  have HB1 := Lib.hid hb1
  clear hb1
  go_wp2_with fail
  refine (pDepth knownT _ _ (HN.out.stays HB1.out) kn_imm).mono ?_
  rintro e w2 ⟨rfl, hb2⟩
  rw [HK.out.1, HK.out.2.1]
  have HB2 := Lib.hid hb2
  clear hb2
  go_wp2_with fail
  go_ret
  exact ⟨rfl, below_hop (below_hop HB0.out HB1.out) HB2.out⟩

set_option maxRecDepth 100000 in
set_option maxHeartbeats 1000000 in
theorem wTermValidates (ts : List Nd) (tv : Value) (w : World) (hts : Nds w tv ts) (hi : ∀ x ∈ ts, 0 ≤ x.imm ∧ x.imm ≤ 4294967295) : Calls Try.prog 3 #[tv] w fun e w' => e = .returned (.bool true) ∧ Below w.heap.size w w' := by
  have HT := Lib.hid hts
  have HI := Lib.hid hi
  obtain ⟨ta, tc, rfl, ht1, ht2⟩ := hts.shape
  clear hi hts
  cases hl : longB ts
  · go_enter Try.func3, Try.ntmps3
    go_wp2_with fail
    refine (long_any ts _ _ HT.out).mono ?_
    rintro e w' ⟨rfl, rfl⟩
    go_wp2_with fail
    refine (pWidths ts _ _ HT.out HI.out).mono ?_
    rintro e w1 ⟨v1, rfl, hv1, hb1⟩
    have HB1 := Lib.hid hb1
    clear hb1
    go_wp2_with fail
    refine (rWidths ts _ _ (HT.out.stays HB1.out) HI.out).mono ?_
    rintro e w2 ⟨v2, rfl, hv2, hb2⟩
    have HB2 := Lib.hid (below_hop HB1.out hb2)
    have H1 := Lib.hid (Ints.stays hv1 hb2)
    have H2 := Lib.hid hv2
    obtain ⟨a1, c1, rfl, _⟩ := hv1.shape
    obtain ⟨a2, c2, rfl, _⟩ := hv2.shape
    clear hb2 hv1 hv2
    go_wp2_with fail
    refine (pDepth ts _ _ (HT.out.stays HB2.out) HI.out).mono ?_
    rintro e w3 ⟨rfl, hb3⟩
    have HB3 := Lib.hid hb3
    clear hb3
    go_wp2_with fail
    refine (rDepth ts _ _ (HT.out.stays (below_hop HB2.out HB3.out)) HI.out).mono ?_
    rintro e w4 ⟨rfl, hb4⟩
    have HB4 := Lib.hid (below_hop HB3.out hb4)
    clear hb4
    go_wp2_with fail
    refine (pValidate ts _ _ (HT.out.stays (below_hop HB2.out HB4.out)) HI.out).mono ?_
    rintro e w5 ⟨rfl, hb5⟩
    have HB5 := Lib.hid (below_hop HB4.out hb5)
    clear hb5
    go_wp2_with fail
    refine (rValidate ts _ _ (HT.out.stays (below_hop HB2.out HB5.out)) HI.out).mono ?_
    rintro e w6 ⟨rfl, hb6⟩
    have HB6 := Lib.hid (below_hop HB5.out hb6)
    clear hb6
    go_wp2_with fail
    refine (sameInts_any (widL ts) (widL ts) _ _ _ (H1.out.stays HB6.out) (H2.out.stays HB6.out)).mono ?_
    rintro e w7 ⟨rfl, hd7⟩
    have HB7 := Lib.hid (below_hop (below_hop HB2.out HB6.out) (hd7.below _))
    clear hd7
    rw [decide_eq_true (rfl : widL ts = widL ts)]
    go_wp2_with fail
    refine (known7 _).mono ?_
    rintro e w8 ⟨rfl, hb8⟩
    go_wp2_with fail
    go_ret
    exact ⟨rfl, below_hop HB7.out hb8⟩
  · go_enter Try.func3, Try.ntmps3
    go_wp2_with fail
    refine (long_any ts _ _ HT.out).mono ?_
    rintro e w' ⟨rfl, rfl⟩
    go_wp2_with fail
    refine (known7 _).mono ?_
    rintro e w8 ⟨rfl, hb8⟩
    go_wp2_with fail
    go_ret
    exact ⟨rfl, hb8⟩

set_option maxRecDepth 100000 in
set_option maxHeartbeats 1000000 in
theorem wTermValues (ts : List Nd) (env : List Int) (tv ev : Value) (w : World) (hts : Nds w tv ts) (hev : Ints .u32 w ev env) (hi : ∀ x ∈ ts, 0 ≤ x.imm ∧ x.imm ≤ 4294967295) (hE : ∀ x ∈ env, 0 ≤ x ∧ x ≤ 4294967295) : Calls Try.prog 4 #[tv, ev] w fun e w' => e = .returned (.bool true) ∧ Below w.heap.size w w' := by
  have HT := Lib.hid hts
  have HI := Lib.hid hi
  have HEV := Lib.hid hev
  have HE := Lib.hid hE
  obtain ⟨ta, tc, rfl, ht1, ht2⟩ := hts.shape
  obtain ⟨ea, ec, rfl, he1, he2⟩ := hev.shape
  clear hi hts hev hE
  have kn : ∀ w : World, Calls Try.prog 12 #[] w fun e w' => e = .returned (.bool true) ∧ Below w.heap.size w w' := known7
  have KN := Lib.hid kn
  clear kn
  cases hl : longB ts
  rotate_left
  · go_enter Try.func4, Try.ntmps4
    go_wp2_with fail
    refine (long_any ts _ _ HT.out).mono ?_
    rintro e w' ⟨rfl, rfl⟩
    go_wp2_with fail
    refine (KN.out _).mono ?_
    rintro e w8 ⟨rfl, hb8⟩
    go_wp2_with fail
    go_ret
    exact ⟨rfl, hb8⟩
  cases hl2 : decide (100 < (env.length : Int))
  rotate_left
  · go_enter Try.func4, Try.ntmps4
    go_wp2_with fail
    refine (long_any ts _ _ HT.out).mono ?_
    rintro e w' ⟨rfl, rfl⟩
    go_wp2_with fail
    refine (KN.out _).mono ?_
    rintro e w8 ⟨rfl, hb8⟩
    go_wp2_with fail
    go_ret
    exact ⟨rfl, hb8⟩
  go_enter Try.func4, Try.ntmps4
  go_wp2_with fail
  refine (long_any ts _ _ HT.out).mono ?_
  rintro e w' ⟨rfl, rfl⟩
  go_wp2_with fail
  refine (pEval ts env _ _ _ HT.out HEV.out HI.out HE.out).mono ?_
  rintro e w1 ⟨rfl, hb1⟩
  have HB1 := Lib.hid hb1
  clear hb1
  go_wp2_with fail
  refine (rEval ts env _ _ _ (HT.out.stays HB1.out) (HEV.out.stays HB1.out) HI.out HE.out).mono ?_
  rintro e w2 ⟨rfl, hb2⟩
  have HB2 := Lib.hid (below_hop HB1.out hb2)
  clear hb2
  go_wp2_with fail
  refine (pValues ts env _ _ _ (HT.out.stays HB2.out) (HEV.out.stays HB2.out) HI.out HE.out).mono ?_
  rintro e w3 ⟨v3, rfl, hv3, hb3⟩
  have HB3 := Lib.hid (below_hop HB2.out hb3)
  clear hb3
  obtain ⟨a3, c3, rfl, _⟩ := hv3.shape
  have H3 := Lib.hid hv3
  clear hv3
  go_wp2_with fail
  refine (rValues ts env _ _ _ (HT.out.stays HB3.out) (HEV.out.stays HB3.out) HI.out HE.out).mono ?_
  rintro e w4 ⟨v4, rfl, hv4, hb4⟩
  have HB4 := Lib.hid (below_hop HB3.out hb4)
  obtain ⟨a4, c4, rfl, _⟩ := hv4.shape
  have H4 := Lib.hid (And.intro (H3.out.stays hb4) hv4)
  clear hv4 hb4
  go_wp2_with fail
  refine (sameWords_any (vaL ts env) (vaL ts env) _ _ _ H4.out.1 H4.out.2).mono ?_
  rintro e w5 ⟨rfl, hd5⟩
  have HB5 := Lib.hid (below_hop HB4.out (hd5.below _))
  clear hd5
  rw [decide_eq_true (rfl : vaL ts env = vaL ts env)]
  go_wp2_with fail
  refine (KN.out _).mono ?_
  rintro e w8 ⟨rfl, hb8⟩
  go_wp2_with fail
  go_ret
  exact ⟨rfl, below_hop HB5.out hb8⟩

end Go.Proofs.Ythopdfikikdcbaa
/- Contracts of Share and Part, of the program and of the answer. -/
namespace Go.Proofs.Ythopdfikikdcbaa
open Go.RowKit Go.Maps Wd
set_option linter.unusedVariables false
set_option linter.unusedSimpArgs false
theorem ndV_of {ts : List Nd} (h : valE ts = 0) (hI : ∀ x ∈ ts, 0 ≤ x.imm ∧ x.imm ≤ 4294967295) : ∀ k, k < ts.length → NdV (nd ts k) := fun k hk => by
  have ho := nodeOk h hk
  obtain ⟨_, _, hS, _, _⟩ := valid_facts h
  have hs := shaped_facts (okS_at hS hk)
  have hc := arV_cases (nd ts k).op
  have h1 := ho.len
  have h2 := ho.ar
  have h3 := ho.wid
  change ((nd ts k).args.length : Int) = arV (nd ts k).op at h1
  change arV (nd ts k).op ≠ -1 at h2
  change 1 ≤ (nd ts k).width ∧ (nd ts k).width ≤ 32 at h3
  exact { op := ⟨by omega, by omega⟩, width := ⟨by omega, by omega⟩, flags := hs.2.2.2.1, len := by omega, imm := hI _ (mem_getD hk) }
theorem args_le {ts : List Nd} (h : valE ts = 0) (hI : ∀ x ∈ ts, 0 ≤ x.imm ∧ x.imm ≤ 4294967295) : ∀ k, k < ts.length → (nd ts k).args.length ≤ 1000 := fun k hk => by
  have := (ndV_of h hI k hk).len
  omega
theorem ShrIs.hop {w w1 w2 : World} {v : Value} {o : List Nd} (hb : Below w.heap.size w w1) (h : ShrIs w1 w2 v o) : ShrIs w w2 v o := by
  obtain ⟨bb, W, R, fv, avs, h1, h2, h3⟩ := h
  have := hb.size
  exact ⟨bb, W, R, fv, avs, h1, fun b hb => by have := h2 b hb; omega, below_hop hb h3⟩
theorem ShrIs.bel {w w2 : World} {v : Value} {o : List Nd} (h : ShrIs w w2 v o) : Below w.heap.size w w2 := by
  obtain ⟨bb, W, R, fv, avs, h1, h2, h3⟩ := h
  exact h3
theorem ShrIs.nds {w w2 : World} {v : Value} {o : List Nd} (h : ShrIs w w2 v o) (hl : o.length ≤ 100000) : Nds w2 v o := by
  obtain ⟨bb, W, R, fv, avs, h1, h2, h3⟩ := h
  exact h1.nds hl
def shrL (ts : List Nd) : List Nd := if valE ts = 0 then shr ts (ts.length - 1) else []
def prtE (ts : List Nd) (k : Int) : Int := if valE ts = 0 then (if k < 0 ∨ (ts.length : Int) ≤ k then 4 else 0) else valE ts
def prtL (ts : List Nd) (k : Int) : List Nd := if prtE ts k = 0 then shr ts k.toNat else []
theorem Nds.nil (w : World) : Nds w (.slice none 0 0) [] := ⟨none, 0, rfl, Nat.le_refl _, ⟨by simp, by omega⟩, fun _ => rfl, fun i hi => absurd hi (by simp)⟩
section
variable {ts : List Nd} {tv : Value} {w : World}
theorem share_last (h : valE ts = 0) (hI : ∀ x ∈ ts, 0 ≤ x.imm ∧ x.imm ≤ 4294967295) (hts : Nds w tv ts) :
    Calls Try.prog 53 #[tv, .int .i64 ((ts.length : Int) - 1)] w fun e w' => ∃ v, e = .returned v ∧ ShrIs w w' v (shr ts (ts.length - 1)) := by
  obtain ⟨h1, h2, _⟩ := valid_facts h
  have hc := share_any ts tv w (ts.length - 1) hts (valid_down h) (ndV_of h hI) (by omega) (by omega)
  rwa [show ((ts.length - 1 : Nat) : Int) = (ts.length : Int) - 1 by omega] at hc
theorem rShared_last (h : valE ts = 0) (hI : ∀ x ∈ ts, 0 ≤ x.imm ∧ x.imm ≤ 4294967295) (hts : Nds w tv ts) :
    Calls Try.prog 54 #[tv, .int .i64 ((ts.length : Int) - 1)] w fun e w' => ∃ v, e = .returned v ∧ Nds w' v (shr ts (ts.length - 1)) ∧ Below w.heap.size w w' := by
  obtain ⟨h1, h2, _⟩ := valid_facts h
  have hc := rShared ts tv w (ts.length - 1) hts (valid_down h) (by omega) (by omega) (args_le h hI)
  rwa [show ((ts.length - 1 : Nat) : Int) = (ts.length : Int) - 1 by omega] at hc
end
set_option maxRecDepth 100000 in
set_option maxHeartbeats 1000000 in
theorem pShare_ok (ts : List Nd) (tv : Value) (w : World) (h : valE ts = 0) (hI : ∀ x ∈ ts, 0 ≤ x.imm ∧ x.imm ≤ 4294967295) (hts : Nds w tv ts) :
    Calls Try.prog 26 #[tv] w fun e w' => ∃ v, e = .returned (.tuple #[v, .int .i64 0]) ∧ ShrIs w w' v (shr ts (ts.length - 1)) := by
  obtain ⟨h1, h2, _⟩ := valid_facts h
  have HT := Lib.hid hts
  have HE := Lib.hid h
  have HS := Lib.hid (fun W (hb : Below w.heap.size w W) => share_last h hI (hts.stays hb))
  have HP := Lib.hid (pValidate ts tv w hts hI)
  obtain ⟨ta, tc, rfl, ht1, ht2⟩ := hts.shape
  clear hts h hI
  go_enter Try.func26, Try.ntmps26
  go_wp2_with fail
  refine (HP.out).mono ?_
  rintro e w1 ⟨rfl, hb1⟩
  rw [HE.out]
  have HB1 := Lib.hid hb1
  clear hb1
  go_wp2_with fail
  refine (HS.out _ HB1.out).mono ?_
  rintro e w2 ⟨v, rfl, hs⟩
  have HSS := Lib.hid hs
  clear hs
  go_wp2_with fail
  go_ret2
  exact ⟨v, rfl, HSS.out.hop HB1.out⟩
set_option maxRecDepth 100000 in
set_option maxHeartbeats 1000000 in
theorem pShare_no (ts : List Nd) (tv : Value) (w : World) (h : valE ts ≠ 0) (hI : ∀ x ∈ ts, 0 ≤ x.imm ∧ x.imm ≤ 4294967295) (hts : Nds w tv ts) :
    Calls Try.prog 26 #[tv] w fun e w' => e = .returned (.tuple #[.slice none 0 0, .int .i64 (valE ts)]) ∧ Below w.heap.size w w' := by
  have HP := Lib.hid (pValidate ts tv w hts hI)
  clear hts hI
  have hne : (valE ts != 0) = true := by simpa using h
  clear h
  go_enter Try.func26, Try.ntmps26
  go_wp2_with fail
  refine (HP.out).mono ?_
  rintro e w1 ⟨rfl, hb1⟩
  have HB1 := Lib.hid hb1
  clear hb1
  go_wp2_with fail
  go_ret2
  exact ⟨rfl, HB1.out⟩
set_option maxRecDepth 100000 in
set_option maxHeartbeats 1000000 in
theorem rShare (ts : List Nd) (tv : Value) (w : World) (hI : ∀ x ∈ ts, 0 ≤ x.imm ∧ x.imm ≤ 4294967295) (hts : Nds w tv ts) :
    Calls Try.prog 27 #[tv] w fun e w' => ∃ v, e = .returned (.tuple #[v, .int .i64 (valE ts)]) ∧ Nds w' v (shrL ts) ∧ Below w.heap.size w w' := by
  have HT := Lib.hid hts
  have HP := Lib.hid (rValidate ts tv w hts hI)
  by_cases h : valE ts = 0
  · obtain ⟨h1, h2, _⟩ := valid_facts h
    have HE := Lib.hid h
    have HL : Hid (shrL ts = shr ts (ts.length - 1)) := if_pos h
    rw [HE.out]
    have HS := Lib.hid (fun W (hb : Below w.heap.size w W) => rShared_last h hI (hts.stays hb))
    obtain ⟨ta, tc, rfl, ht1, ht2⟩ := hts.shape
    clear hts h hI
    go_enter Try.func27, Try.ntmps27
    go_wp2_with fail
    refine (HP.out).mono ?_
    rintro e w1 ⟨rfl, hb1⟩
    rw [HE.out]
    have HB1 := Lib.hid hb1
    clear hb1
    go_wp2_with fail
    refine (HS.out _ HB1.out).mono ?_
    rintro e w2 ⟨v, rfl, hs, hb2⟩
    have HSS := Lib.hid hs
    have HB2 := Lib.hid hb2
    clear hs hb2
    go_wp2_with fail
    go_ret2
    exact ⟨v, rfl, by rw [HL.out]; exact HSS.out, below_hop HB1.out HB2.out⟩
  · have HL : Hid (shrL ts = []) := if_neg h
    have hne : (valE ts != 0) = true := by simpa using h
    clear h hts hI
    go_enter Try.func27, Try.ntmps27
    go_wp2_with fail
    refine (HP.out).mono ?_
    rintro e w1 ⟨rfl, hb1⟩
    have HB1 := Lib.hid hb1
    clear hb1
    go_wp2_with fail
    go_ret2
    exact ⟨_, rfl, by rw [HL.out]; exact Nds.nil _, HB1.out⟩
-- Part.
set_option maxRecDepth 100000 in
set_option maxHeartbeats 1000000 in
theorem pPart (ts : List Nd) (tv : Value) (k : Int) (w : World) (hI : ∀ x ∈ ts, 0 ≤ x.imm ∧ x.imm ≤ 4294967295) (hts : Nds w tv ts) :
    Calls Try.prog 28 #[tv, .int .i64 k] w fun e w' => ∃ v, e = .returned (.tuple #[v, .int .i64 (prtE ts k)]) ∧ Nds w' v (prtL ts k) ∧ Below w.heap.size w w' := by
  have HT := Lib.hid hts
  have HP := Lib.hid (pValidate ts tv w hts hI)
  by_cases h : valE ts = 0
  · obtain ⟨h1, h2, _⟩ := valid_facts h
    have HE := Lib.hid h
    by_cases hk : k < 0 ∨ (ts.length : Int) ≤ k
    · have HPE : Hid (prtE ts k = 4) := by show _ = _; unfold prtE; rw [if_pos h, if_pos hk]
      have HL : Hid (prtL ts k = []) := by show _ = _; unfold prtL; rw [HPE.out]; rfl
      rw [HPE.out]
      obtain ⟨ta, tc, rfl, ht1, ht2⟩ := hts.shape
      clear hts h hI
      rcases hk with hk | hk
      · have hk1 : decide (k < 0) = true := decide_eq_true hk
        go_enter Try.func28, Try.ntmps28
        go_wp2_with fail
        refine (HP.out).mono ?_
        rintro e w1 ⟨rfl, hb1⟩
        rw [HE.out]
        have HB1 := Lib.hid hb1
        clear hb1
        go_wp2_with fail
        go_ret2
        exact ⟨_, rfl, by rw [HL.out]; exact Nds.nil _, HB1.out⟩
      · have hk1 : decide (k < 0) = false := decide_eq_false (by omega)
        have hk2 : decide ((ts.length : Int) ≤ k) = true := decide_eq_true hk
        go_enter Try.func28, Try.ntmps28
        go_wp2_with fail
        refine (HP.out).mono ?_
        rintro e w1 ⟨rfl, hb1⟩
        rw [HE.out]
        have HB1 := Lib.hid hb1
        clear hb1
        go_wp2_with fail
        go_ret2
        exact ⟨_, rfl, by rw [HL.out]; exact Nds.nil _, HB1.out⟩
    · have HPE : Hid (prtE ts k = 0) := by show _ = _; unfold prtE; rw [if_pos h, if_neg hk]
      have HL : Hid (prtL ts k = shr ts k.toNat) := by show _ = _; unfold prtL; rw [HPE.out]; rfl
      rw [HPE.out]
      obtain ⟨j, rfl⟩ := Int.eq_ofNat_of_zero_le (show 0 ≤ k by omega)
      have hj : j < ts.length := by omega
      have HS := Lib.hid (fun W (hb : Below w.heap.size w W) => share_any ts tv W j (hts.stays hb) (valid_down h) (ndV_of h hI) hj (by omega))
      have HSL := Lib.hid (shr_len (valid_down h) hj)
      obtain ⟨ta, tc, rfl, ht1, ht2⟩ := hts.shape
      have hk1 : decide ((j : Int) < 0) = false := decide_eq_false (by omega)
      have hk2 : decide ((ts.length : Int) ≤ j) = false := decide_eq_false (by omega)
      clear hts h hI hk
      go_enter Try.func28, Try.ntmps28
      go_wp2_with fail
      refine (HP.out).mono ?_
      rintro e w1 ⟨rfl, hb1⟩
      rw [HE.out]
      have HB1 := Lib.hid hb1
      clear hb1
      go_wp2_with fail
      refine (HS.out _ HB1.out).mono ?_
      rintro e w2 ⟨v, rfl, hs⟩
      have HSS := Lib.hid hs
      skip
      clear hs
      go_wp2_with fail
      go_ret2
      exact ⟨v, rfl, by rw [HL.out, Int.toNat_natCast]; exact HSS.out.nds (by have := HSL.out; omega), below_hop HB1.out HSS.out.bel⟩
  · have HPE : Hid (prtE ts k = valE ts) := if_neg h
    have HL : Hid (prtL ts k = []) := by show _ = _; unfold prtL; rw [HPE.out, if_neg h]
    rw [HPE.out]
    have hne : (valE ts != 0) = true := by simpa using h
    clear h hts hI
    go_enter Try.func28, Try.ntmps28
    go_wp2_with fail
    refine (HP.out).mono ?_
    rintro e w1 ⟨rfl, hb1⟩
    have HB1 := Lib.hid hb1
    clear hb1
    go_wp2_with fail
    go_ret2
    exact ⟨_, rfl, by rw [HL.out]; exact Nds.nil _, HB1.out⟩
-- Part.
set_option maxRecDepth 100000 in
set_option maxHeartbeats 1000000 in
theorem rPart (ts : List Nd) (tv : Value) (k : Int) (w : World) (hI : ∀ x ∈ ts, 0 ≤ x.imm ∧ x.imm ≤ 4294967295) (hts : Nds w tv ts) :
    Calls Try.prog 29 #[tv, .int .i64 k] w fun e w' => ∃ v, e = .returned (.tuple #[v, .int .i64 (prtE ts k)]) ∧ Nds w' v (prtL ts k) ∧ Below w.heap.size w w' := by
  have HT := Lib.hid hts
  have HP := Lib.hid (rValidate ts tv w hts hI)
  by_cases h : valE ts = 0
  · obtain ⟨h1, h2, _⟩ := valid_facts h
    have HE := Lib.hid h
    by_cases hk : k < 0 ∨ (ts.length : Int) ≤ k
    · have HPE : Hid (prtE ts k = 4) := by show _ = _; unfold prtE; rw [if_pos h, if_pos hk]
      have HL : Hid (prtL ts k = []) := by show _ = _; unfold prtL; rw [HPE.out]; rfl
      rw [HPE.out]
      obtain ⟨ta, tc, rfl, ht1, ht2⟩ := hts.shape
      clear hts h hI
      rcases hk with hk | hk
      · have hk1 : decide (k < 0) = true := decide_eq_true hk
        go_enter Try.func29, Try.ntmps29
        go_wp2_with fail
        refine (HP.out).mono ?_
        rintro e w1 ⟨rfl, hb1⟩
        rw [HE.out]
        have HB1 := Lib.hid hb1
        clear hb1
        go_wp2_with fail
        go_ret2
        exact ⟨_, rfl, by rw [HL.out]; exact Nds.nil _, HB1.out⟩
      · have hk1 : decide (k < 0) = false := decide_eq_false (by omega)
        have hk2 : decide ((ts.length : Int) ≤ k) = true := decide_eq_true hk
        go_enter Try.func29, Try.ntmps29
        go_wp2_with fail
        refine (HP.out).mono ?_
        rintro e w1 ⟨rfl, hb1⟩
        rw [HE.out]
        have HB1 := Lib.hid hb1
        clear hb1
        go_wp2_with fail
        go_ret2
        exact ⟨_, rfl, by rw [HL.out]; exact Nds.nil _, HB1.out⟩
    · have HPE : Hid (prtE ts k = 0) := by show _ = _; unfold prtE; rw [if_pos h, if_neg hk]
      have HL : Hid (prtL ts k = shr ts k.toNat) := by show _ = _; unfold prtL; rw [HPE.out]; rfl
      rw [HPE.out]
      obtain ⟨j, rfl⟩ := Int.eq_ofNat_of_zero_le (show 0 ≤ k by omega)
      have hj : j < ts.length := by omega
      have HS := Lib.hid (fun W (hb : Below w.heap.size w W) => rShared ts tv W j (hts.stays hb) (valid_down h) hj (by omega) (args_le h hI))
      skip
      obtain ⟨ta, tc, rfl, ht1, ht2⟩ := hts.shape
      have hk1 : decide ((j : Int) < 0) = false := decide_eq_false (by omega)
      have hk2 : decide ((ts.length : Int) ≤ j) = false := decide_eq_false (by omega)
      clear hts h hI hk
      go_enter Try.func29, Try.ntmps29
      go_wp2_with fail
      refine (HP.out).mono ?_
      rintro e w1 ⟨rfl, hb1⟩
      rw [HE.out]
      have HB1 := Lib.hid hb1
      clear hb1
      go_wp2_with fail
      refine (HS.out _ HB1.out).mono ?_
      rintro e w2 ⟨v, rfl, hs, hb2⟩
      have HSS := Lib.hid hs
      have HB2 := Lib.hid hb2; clear hb2
      clear hs
      go_wp2_with fail
      go_ret2
      exact ⟨v, rfl, by rw [HL.out, Int.toNat_natCast]; exact HSS.out, below_hop HB1.out HB2.out⟩
  · have HPE : Hid (prtE ts k = valE ts) := if_neg h
    have HL : Hid (prtL ts k = []) := by show _ = _; unfold prtL; rw [HPE.out, if_neg h]
    rw [HPE.out]
    have hne : (valE ts != 0) = true := by simpa using h
    clear h hts hI
    go_enter Try.func29, Try.ntmps29
    go_wp2_with fail
    refine (HP.out).mono ?_
    rintro e w1 ⟨rfl, hb1⟩
    have HB1 := Lib.hid hb1
    clear hb1
    go_wp2_with fail
    go_ret2
    exact ⟨_, rfl, by rw [HL.out]; exact Nds.nil _, HB1.out⟩
end Go.Proofs.Ythopdfikikdcbaa
/- Walk of Join of the answer. -/
namespace Go.Proofs.Ythopdfikikdcbaa
open Go.RowKit Go.Maps Wd
set_option linter.unusedVariables false
set_option linter.unusedSimpArgs false
set_option maxRecDepth 100000 in
set_option maxHeartbeats 4000000 in
theorem rJoin (op width imm : Int) (pts : List (List Nd)) (pv : Value) (w : World) (hp : Ndss w pv pts) (hI : ∀ p ∈ pts, ∀ x ∈ p, 0 ≤ x.imm ∧ x.imm ≤ 4294967295) (hl : pts.length ≤ 10) (him : 0 ≤ imm ∧ imm ≤ 4294967295) :
    Calls Try.prog 40 #[.int .i64 op, .int .i64 width, .int .u32 imm, pv] w fun e w' => ∃ v, e = .returned (.tuple #[v, .int .i64 (joinE op width imm pts)]) ∧ Nds w' v (joinL op width imm pts) ∧ Below w.heap.size w w' := by
  have HP := Lib.hid hp
  have HI := Lib.hid hI
  have HIM := Lib.hid him
  obtain ⟨pa, pc, rfl, hp1, hp2⟩ := hp.shape
  obtain ⟨i0, hi0, hz0, hz1, hz2⟩ := info_parts info_int
  obtain ⟨n0, hn0, hy0, hy1, hy2⟩ := info_parts info_node
  clear hp hI him
  have HPT : Hid (∀ j, j < pts.length → pts.getD j [] ∈ pts) := fun j hj => mem_getD hj
  go_enter Try.func40, Try.ntmps40
  go_wp2_with fail
  go_loopw [10] (fun iv wx => ∃ j : Nat, iv = .int .i64 j ∧ j ≤ pts.length ∧ Hid (∀ i, i < j → valE (pts.getD i []) = 0) ∧ Below w.heap.size w wx) (fun iv _ => pts.length - (intOf iv).toNat)
  case atStart => exact ⟨0, rfl, Nat.zero_le _, fun i hi => absurd hi (by omega), Below.refl _ _⟩
  case round =>
    obtain ⟨j, rfl, hj, hv, hb⟩ := hrel
    by_cases hlt : j < pts.length
    · obtain ⟨b, q, c', u, e', hbq, d0, hN⟩ := HP.out.at hb hlt
      cases e'
      have HV := Lib.hid (fun W (hw : Below w.heap.size w W) => rValidate (pts.getD j []) u W (hN.stays hw) (HI.out _ (HPT.out j hlt)))
      have HB := Lib.hid hb
      have HHIT := Lib.hid (fun h => firstE_hit hlt hv.out h)
      have HVN : Hid (valE (pts.getD j []) = 0 → ∀ i, i < j + 1 → valE (pts.getD i []) = 0) := fun h i hi => by
        by_cases e : i = j
        · subst e; exact h
        · exact hv.out i (by omega)
      obtain ⟨ua, uc, rfl, hu1, hu2⟩ := hN.shape
      clear hN hb hv
      generalize pts.getD j [] = p at *
      by_cases h0 : valE p = 0
      · have HVN2 := Lib.hid (HVN.out h0)
        have H0 := Lib.hid h0
        clear h0 HVN HHIT
        go_wp2_with fail
        refine (HV.out _ HB.out).mono ?_
        rintro e w1 ⟨rfl, hb1⟩
        rw [H0.out]
        have HB1 := Lib.hid (below_hop HB.out hb1)
        clear hb1
        go_wp2_with fail
        go_roundw
        case rel => exact ⟨j + 1, by go_num, by omega, HVN2.out, HB1.out⟩
        case measure => simp [intOf] <;> omega
      · have hne : (valE p != 0) = true := by simpa using h0
        have HE : Hid (joinE op width imm pts = valE p) := by
          show _ = _
          unfold joinE
          rw [HHIT.out h0, if_pos h0]
        have HL : Hid (joinL op width imm pts = []) := by
          show _ = _
          unfold joinL
          rw [HE.out, if_neg h0]
        clear h0 HVN HHIT
        go_wp2_with fail
        refine (HV.out _ HB.out).mono ?_
        rintro e w1 ⟨rfl, hb1⟩
        have HB1 := Lib.hid (below_hop HB.out hb1)
        clear hb1
        go_wp2_with fail
        rw [HE.out]
        go_ret2
        exact ⟨_, rfl, by rw [HL.out]; exact Nds.nil _, HB1.out⟩
    · obtain rfl : j = pts.length := by omega
      have HF := Lib.hid (firstE_none hv.out)
      have HVA : Hid (∀ p ∈ pts, valE p = 0) := fun p hp => by
        obtain ⟨i, hi, rfl⟩ := List.getElem_of_mem hp
        have := hv.out i hi
        rw [List.getD_eq_getElem?_getD, List.getElem?_eq_getElem hi] at this
        exact this
      have HB := Lib.hid hb
      clear hv hb
      by_cases ha : arV op = -1
      · have HA := Lib.hid ha
        have HE : Hid (joinE op width imm pts = 1) := by
          show _ = _
          unfold joinE
          rw [HF.out, if_neg (by simp), if_pos ha]
        have HL : Hid (joinL op width imm pts = []) := by
          show _ = _
          unfold joinL
          rw [HE.out]; rfl
        clear ha
        go_wp2_with fail
        refine (rArity_any op _).mono ?_
        rintro e w1 ⟨rfl, rfl⟩
        rw [HA.out]
        go_wp2_with fail
        rw [HE.out]
        go_ret2
        exact ⟨_, rfl, by rw [HL.out]; exact Nds.nil _, HB.out⟩
      · have hac := arV_cases op
        have ha1 : decide (arV op < 0) = false := decide_eq_false (by omega)
        have HE : Hid (joinE op width imm pts = valE (outJ op width imm pts)) := by
          show _ = _
          unfold joinE
          rw [HF.out, if_neg (by simp), if_neg ha]
        have HL : Hid (joinL op width imm pts = if valE (outJ op width imm pts) = 0 then outJ op width imm pts else []) := by
          show _ = _
          unfold joinL
          rw [HE.out]
        clear ha hac
        obtain ⟨wl, rfl⟩ : ∃ wl : World, wl = wr := ⟨_, rfl⟩
        have hbl := HB.out.size
        go_wp2_with fail
        refine (rArity_any op _).mono ?_
        rintro e w1 ⟨rfl, rfl⟩
        go_wp2_with fail
        go_loopw [13, 14] (fun av iv wx => ∃ (j : Nat) (nv rv : Value) (R : Nat → Prop) (avs : List Value), av = nv ∧ iv = .int .i64 j ∧ j ≤ pts.length ∧ JnR (wl.alloc (.cells #[.int .i64 op, .int .i64 width, .int .i64 0, .slice none 0 0, .int .u32 imm] 47)) wl.heap.size op width imm (allJ (pts.take j)) R avs nv rv wx) (fun _ iv _ => pts.length - (intOf iv).toNat)
        case atStart => exact ⟨0, _, _, _, _, rfl, rfl, Nat.zero_le _, {
          out := OSt.nil _ _
          vR := fun b h => by cases h
          y := ⟨by simp [go_sem], by simp [go_sem], by simp [go_sem], by simp [go_sem], by simp [go_sem], by simp [go_sem]⟩
          row := RowI.nil _ _ _ _
          ns := fun b h => by cases h
          chg := Chg.refl _ _
          sz := by simp }⟩
        case round =>
          obtain ⟨j, nv, rv, R, avs, rfl, rfl, hj, hM⟩ := hrel
          have HM := Lib.hid hM
          have HBW := Lib.hid (YAt.bel (HB.out.alloc hbl (.cells #[.int .i64 op, .int .i64 width, .int .i64 0, .slice none 0 0, .int .u32 imm] 47)) hbl hM.chg)
          have hok := allJ_ok pts HVA.out HI.out j hj
          have hclen := hok.len
          rw [List.length_take, Nat.min_eq_left hj] at hclen
          have hccnt := hok.cnt
          rw [List.length_take, Nat.min_eq_left hj] at hccnt
          have hwr := hM.chg.size
          simp only [World.size_alloc] at hwr
          clear hok
          by_cases hlt : j < pts.length
          · have HNX := Lib.hid (allJ_next pts j hlt)
            obtain ⟨b, q, c', u, e', hbq, d0, hN⟩ := HP.out.at HBW.out hlt
            cases e'
            have hpv := HVA.out _ (HPT.out j hlt)
            have HIP := Lib.hid (HI.out _ (HPT.out j hlt))
            generalize pts.getD j [] = p at *
            generalize allJ (pts.take j) = cc at *
            obtain ⟨cN, cA⟩ := cc
            simp only at hclen hccnt
            have hc10 : cA.length ≤ 10 := by omega
            clear hccnt
            obtain ⟨na, nc, rfl⟩ := own_shape hM.out.row
            obtain ⟨v1, v2, _⟩ := valid_facts hpv
            have HPD := Lib.hid (valid_down hpv)
            have HND := Lib.hid (ndV_of hpv HIP.out)
            have HOC := Lib.hid (rOver p u cN.length wr (hN.stays HBW.out) (by omega) (fun k hk => ⟨by have := (HND.out k hk).len; omega, fun a ha => by have := HPD.out k hk a ha; omega⟩) (by omega))
            obtain ⟨ua, uc, rfl, hu1, hu2⟩ := hN.shape
            have y3 := hM.y.c3
            clear hN hpv hM
            go_wp2_with fail
            refine HOC.out.mono ?_
            rintro e w3 ⟨ov, R', avs', rfl, ho', hb3⟩
            obtain ⟨g', cap', rfl, hg1, hg2, hg3, hcell⟩ := ho'.row_get (by rw [ovr_len]; omega)
            rw [ovr_len]
            have HROW : Hid (w3.ownsRow (wl.heap.size + 1) 47 5 (.slice na cN.length nc) cN.length (rowsC cN avs)) := (HM.out.out.below hb3).row
            have HONE := Lib.hid (rowsC_one ho')
            have hrl : (rowsC (ovr p cN.length) avs').length = p.length * 5 := by rw [rowsC_len _ _ ho'.len, ovr_len]
            have HRL := Lib.hid hrl
            have HO' := Lib.hid ho'
            have HB3 := Lib.hid hb3
            have HCELL : Hid (∀ (i : Nat) (u : Value), (rowsC (ovr p cN.length) avs')[i]? = some u → w3.cell? ((⟨g', 0, none⟩ : Addr).add i) = some u) := fun i u h => by
              have e : (⟨g', 0, none⟩ : Addr).add i = ⟨g', i, none⟩ := by unfold Addr.add; split <;> simp_all
              rw [e]; exact hcell i u h
            have hw3 := hb3.size
            clear hrl ho' hb3 hcell
            generalize hrw : rowsC (ovr p cN.length) avs' = rws at *
            have HRW := Lib.hid hrw
            clear hrw
            go_wp2_with (at_builtin; go_must (refine wpList_append_own_at _ rfl _ _ 22 rfl (wl.heap.size + 1) 47 n0 _ 5 56 Try.underlying22 hn0 hy0 hy1 hy2 rfl (by decide) _ _ _ rfl HROW.out ⟨g', 0, none⟩ p.length cap' rws rfl HRL.out HCELL.out HONE.out ?e3 ?e4 ?e5 ?_))
            try case e3 => unfold maxLen; omega
            try case e4 => omega
            try case e5 => omega
            intro nv2 w4 hown4 hgrow4 _ hat4
            have HAT4 := Lib.hid hat4
            have HOW4 := Lib.hid hown4
            have HGR4 := Lib.hid hgrow4
            obtain ⟨na2, nc2, rfl⟩ := own_shape hown4
            clear hown4 hgrow4 hat4
            have hP := HM.out.part HO'.out HB3.out (Chg.of_grown HGR4.out (fun k hk => hk)) (by rw [HRW.out, ovr_len]; exact HOW4.out) (HAT4.out.elim .inl fun h => .inr ⟨_, h, Nat.le_refl _⟩)
            have hrow : RowI w4 (wl.heap.size + 1) 3 .i64 rv cA := hP.row
            obtain ⟨va, vc, rfl⟩ := hrow.shape
            have z3 := hP.y.c3
            have z4 := hP.y.f3
            have HROWA : Hid (w4.ownsRow (wl.heap.size + 1) 3 1 (.slice va cA.length vc) cA.length (cA.map (Value.int .i64))) := hrow
            have hw4 := hP.chg.size
            simp only [World.size_alloc] at hw4
            have HPP := Lib.hid hP
            clear hP hrow y3
            go_wp2_with (at_builtin; go_must (refine wpList_append_own_at _ rfl _ _ 25 rfl (wl.heap.size + 1) 3 i0 (.int .i64 0) 1 8 Try.underlying25 hi0 hz0 hz1 hz2 rfl (by decide) _ _ _ rfl (HROWA.out.alloc _) ⟨w4.heap.size, 0, none⟩ 1 1 [.int .i64 ((cN.length : Int) + (p.length : Int) - 1)] rfl rfl ?f1 ?f2 ?f3 ?f4 ?f5 ?_))
            try case f1 =>
              intro i u h
              rcases i with _ | i
              · cases h; simp [go_sem, Addr.add]
              · cases h
            try case f2 => simp [Value.oneCell']
            try case f3 => unfold maxLen; omega
            try case f4 => omega
            try case f5 => first | omega | (simp; done) | (simp; omega)
            intro rv2 w5 hown5 hgrow5 _ hat5
            have hrb : ¬ wl.heap.size = w4.heap.size := by omega
            have hc5 : Chg (fun b => (Value.slice va cA.length vc).ownBlock = some b) w4 w5 := (Chg.of_below ((Below.refl _ _).alloc (Nat.le_refl _) _)).trans (Chg.of_grown hgrow5 (fun k hk => hk)) (fun _ _ h => h)
            have hvB : ¬ (Value.slice va cA.length vc).ownBlock = some wl.heap.size := fun e => by have := own_ge HROWA.out _ e; omega
            have x3 := hc5.cell hvB z3
            have x4 : w5.frozen? ⟨wl.heap.size, 3, none⟩ = false := by rw [hc5.frozen hvB (by omega)]; exact z4
            have HA5 := Lib.hid (HPP.out.arg (z := (cN.length : Int) + (p.length : Int) - 1) hc5 hown5 (hat5.elim .inl fun h => .inr ⟨_, h, by first | omega | (simp; done) | (simp; omega)⟩))
            obtain ⟨va5, vc5, rfl⟩ := own_shape hown5
            clear hown5 hgrow5 hat5 hc5 z3 z4 hvB
            go_wp2_with fail
            go_roundw
            case rel =>
              have h8 := HA5.out
              rw [show (cN.length : Int) + (p.length : Int) - 1 = ((cN.length + p.length : Nat) : Int) - 1 by omega] at h8
              have h9 : JnR _ _ _ _ _ (cN ++ ovr p cN.length, cA ++ [((cN.length + p.length : Nat) : Int) - 1]) _ _ _ _ _ := h8
              rw [← HNX.out] at h9
              exact ⟨j + 1, _, _, _, _, rfl, by go_num, by omega, h9⟩
            case measure => simp [intOf] <;> omega
          · obtain rfl : j = pts.length := by omega
            have hok := allJ_ok pts HVA.out HI.out pts.length (Nat.le_refl _)
            have HSH := Lib.hid (allJ_share op width imm HVA.out HI.out)
            rw [List.take_length] at hok
            have hMM := HM.out
            rw [List.take_length] at hMM hclen hccnt
            clear HM hM
            generalize allJ pts = cc at *
            obtain ⟨cN, cA⟩ := cc
            simp only at hclen hccnt
            have hc10 : cA.length ≤ 10 := by omega
            clear hccnt
            obtain ⟨na, nc, rfl⟩ := own_shape hMM.out.row
            obtain ⟨va, vc, rfl⟩ := hMM.row.shape
            have y0 := hMM.y.c0
            have y1 := hMM.y.c1
            have y2 := hMM.y.c2
            have y3 := hMM.y.c3
            have y4 := hMM.y.c4
            have HIA : Hid (∀ x ∈ cN ++ [⟨op, width, 0, cA, imm⟩], 0 ≤ x.imm ∧ x.imm ≤ 4294967295) := fun x hx => by
              rcases List.mem_append.1 hx with hx | hx
              · exact hok.imm x hx
              · simp at hx; subst hx; exact HIM.out
            have HSA : Hid (∀ k, k < (cN ++ [(⟨op, width, 0, cA, imm⟩ : Nd)]).length → (nd (cN ++ [(⟨op, width, 0, cA, imm⟩ : Nd)]) k).args.length ≤ 1000) := fun k hk => by
              have hm : nd (cN ++ [⟨op, width, 0, cA, imm⟩]) k ∈ cN ++ [⟨op, width, 0, cA, imm⟩] := mem_getD hk
              rcases List.mem_append.1 hm with hx | hx
              · have := hok.short _ hx; omega
              · simp only [List.mem_singleton] at hx; rw [hx]; show cA.length ≤ 1000; omega
            have HROW : Hid (wr.ownsRow (wl.heap.size + 1) 47 5 (.slice na cN.length nc) cN.length (rowsC cN avs)) := hMM.out.row
            have HMM := Lib.hid hMM
            clear hMM hok
            go_wp2_with (at_builtin; go_must (refine wpList_append_own_at _ rfl _ _ 22 rfl (wl.heap.size + 1) 47 n0 _ 5 56 Try.underlying22 hn0 hy0 hy1 hy2 rfl (by decide) _ _ _ rfl (HROW.out.alloc _) ⟨wr.heap.size, 0, none⟩ 1 1 [.int .i64 op, .int .i64 width, .int .i64 0, .slice va cA.length vc, .int .u32 imm] rfl rfl ?g1 ?g2 ?g3 ?g4 ?g5 ?_))
            try case g1 =>
              intro i u h
              rcases i with _ | _ | _ | _ | _ | i <;> first | (cases h; simp [go_sem, Addr.add]) | cases h
            try case g2 => simp [Value.oneCell']
            try case g3 => unfold maxLen; omega
            try case g4 => omega
            try case g5 => first | omega | (simp; done) | (simp; omega)
            intro nv6 w6 hown6 hgrow6 _ hat6
            obtain ⟨na6, nc6, rfl⟩ := own_shape hown6
            have hg6 : Chg (fun b => (Value.slice na cN.length nc).ownBlock = some b) wr w6 := (Chg.of_below ((Below.refl _ _).alloc (Nat.le_refl _) _)).trans (Chg.of_grown hgrow6 (fun k hk => hk)) (fun _ _ h => h)
            have ho6 := OSt.add (x := ⟨op, width, 0, cA, imm⟩) (av := .slice va cA.length vc) HMM.out.out (HMM.out.row.intsF (by show cA.length ≤ _; omega)) (fun b hb => ⟨HMM.out.ns b hb, own_ge HMM.out.row b hb, own_lt HMM.out.row b hb⟩) hg6 hown6 (hat6.elim .inl fun h => .inr ⟨_, h, by first | omega | (simp; done) | (simp; omega)⟩)
            have HB6 := Lib.hid (HBW.out.trans (hg6.below (B := w.heap.size) (by omega) fun k hk => by have := own_ge HMM.out.out.row k hk; omega))
            have hN6 := ho6.nds (by simp; omega)
            have HSH6 := Lib.hid (rShared (cN ++ [⟨op, width, 0, cA, imm⟩]) _ w6 cN.length hN6 HSH.out.1 (by simp) (by simp; omega) HSA.out)
            rw [HSH.out.2] at HSH6
            have HIO := Lib.hid (shr_imm HSH.out.1 HIA.out (k := cN.length) (by simp))
            rw [HSH.out.2] at HIO
            clear hown6 hgrow6 hat6 hg6 ho6 hN6
            go_wp2_with fail
            refine HSH6.out.mono ?_
            rintro e w7 ⟨sv, rfl, hs, hb7⟩
            have HB7 := Lib.hid (below_hop HB6.out hb7)
            have HV := Lib.hid (rValidate (outJ op width imm pts) sv w7 hs HIO.out)
            have HS := Lib.hid hs
            obtain ⟨sa, sc, rfl, _⟩ := hs.shape
            clear hs hb7
            by_cases h0 : valE (outJ op width imm pts) = 0
            · have HL2 := HL.out
              rw [if_pos h0] at HL2
              have HLL := Lib.hid HL2
              have H0 := Lib.hid h0
              clear h0 HL2
              go_wp2_with fail
              refine HV.out.mono ?_
              rintro e w8 ⟨rfl, hb8⟩
              rw [H0.out]
              have HB8 := Lib.hid hb8
              clear hb8
              go_wp2_with fail
              rw [HE.out, H0.out]
              go_ret2
              exact ⟨_, rfl, by rw [HLL.out]; exact HS.out.stays HB8.out, below_hop HB7.out HB8.out⟩
            · have hne : (valE (outJ op width imm pts) != 0) = true := by simpa using h0
              have HL2 := HL.out
              rw [if_neg h0] at HL2
              have HLL := Lib.hid HL2
              clear h0 HL2
              go_wp2_with fail
              refine HV.out.mono ?_
              rintro e w8 ⟨rfl, hb8⟩
              have HB8 := Lib.hid hb8
              clear hb8
              go_wp2_with fail
              rw [HE.out]
              go_ret2
              exact ⟨_, rfl, by rw [HLL.out]; exact Nds.nil _, below_hop HB7.out HB8.out⟩
end Go.Proofs.Ythopdfikikdcbaa
/- Memory in Join of the program. -/
namespace Go.Proofs.Ythopdfikikdcbaa
open Go.RowKit Go.Maps Wd
set_option linter.unusedVariables false
set_option linter.unusedSimpArgs false
structure JnP (w0 : World) (bb rb : Nat) (op width imm : Int) (o : List Nd) (l : List Int) (T : Nat → Prop) (rv : Value) (wx : World) : Prop where
  bld : Bld bb o T wx
  y : YAt wx rb op width 0 imm rv
  row : RowI wx (rb + 1) 3 .i64 rv l
  Trb : ¬ T rb
  Tv : ∀ b, rv.ownBlock = some b → ¬ T b
  TB : ∀ b, T b → w0.heap.size ≤ b
  rB : w0.heap.size ≤ rb
  bel : Below w0.heap.size w0 wx
theorem seen_made {wx W : World} {n : Nat} (hn : n ≤ 1000000) (hW : Below (wx.alloc (.map #[] 0)).heap.size (wx.alloc (.map #[] 0)) W) : SeenIs W wx.heap.size (List.replicate n (-1)) :=
  (SeenIs.made hn).chg (T := fun _ => False) (Chg.of_below hW) (fun h => h)
theorem JnP.from {w0 wx W w' : World} {bb rb : Nat} {op width imm : Int} {o : List Nd} {l : List Int} {T : Nat → Prop} {rv : Value} {c : List Nd × List Int} (h : JnP w0 bb rb op width imm o l T rv wx)
    (hW : Below (wx.alloc (.map #[] 0)).heap.size (wx.alloc (.map #[] 0)) W) (hp : FrP (Bld bb) wx.heap.size T W c w') : ∃ T', JnP w0 bb rb op width imm c.1 l T' rv w' := by
  obtain ⟨T', h1, h2, h3, h4⟩ := hp
  have hb1 : Below wx.heap.size wx W := ((Below.refl _ _).alloc (Nat.le_refl _) _).trans (hW.mono (by simp))
  have hs := hb1.size
  have hlt := h.bld.lt
  have hrl : rb < wx.heap.size := cell_lt h.y.c0
  have hvl := own_lt h.row
  have hall : Chg (fun b => T b ∨ b = wx.heap.size) wx w' := (Chg.of_below hb1).trans h4 (fun _ _ h => h)
  have hws := h.bel.size
  refine ⟨T', {
    bld := h1
    y := h.y.chg hall (fun e => by rcases e with e | e; exact h.Trb e; omega)
    row := h.row.chg hall (fun b hb e => by rcases e with e | e; exact h.Tv b hb e; have := hvl b hb; omega)
    Trb := fun e => by rcases h3 rb e with e | e; exact h.Trb e; omega
    Tv := fun b hb e => by
      rcases h3 b e with e | e
      · exact h.Tv b hb e
      · have := hvl b hb; omega
    TB := fun b e => by rcases h3 b e with e | e; exact h.TB b e; omega
    rB := h.rB
    bel := h.bel.trans (hall.below hws fun k hk => by rcases hk with hk | hk; exact h.TB k hk; omega) }⟩
theorem JnP.arg {w0 wx w3 : World} {bb rb : Nat} {op width imm z : Int} {o : List Nd} {l : List Int} {T : Nat → Prop} {rv rv' : Value} (h : JnP w0 bb rb op width imm o l T rv wx)
    (hg : Chg (fun b => rv.ownBlock = some b) wx w3) (hown : w3.ownsRow (rb + 1) 3 1 rv' (l.length + 1) (l.map (Value.int .i64) ++ [.int .i64 z])) (hv : rv'.ownBlock = rv.ownBlock ∨ ∃ g, rv'.ownBlock = some g ∧ wx.heap.size ≤ g) :
    JnP w0 bb rb op width imm o (l ++ [z]) T rv' (w3.setCell ⟨rb, 3, none⟩ rv') := by
  have hvB : ¬ rv.ownBlock = some rb := fun e => by have := own_ge h.row rb e; omega
  have hlt := h.bld.lt
  have hset : Chg (fun b => b = rb) w3 (w3.setCell ⟨rb, 3, none⟩ rv') := (Chg.refl (fun b => b = rb) w3).setCell (b := rb) rfl rv'
  have hrow1 : RowI w3 (rb + 1) 3 .i64 rv' (l ++ [z]) := RowI.app1 hown rfl rfl
  have hall : Chg (fun b => rv.ownBlock = some b ∨ b = rb) wx (w3.setCell ⟨rb, 3, none⟩ rv') := (hg.mono (fun _ _ h => .inl h)).trans hset (fun _ _ h => .inr h)
  have hws := h.bel.size
  exact {
    bld := h.bld.same (hall.same fun k hk => ⟨hlt k hk, fun e => by rcases e with e | e; exact h.Tv k e hk; subst e; exact h.Trb hk⟩)
    y := (h.y.chg hg hvB).set rv'
    row := hrow1.chg hset (fun b hb e => by have := own_ge hrow1 b hb; omega)
    Trb := h.Trb
    Tv := fun b hb e' => by
      rcases hv with e | ⟨g, e, hg2⟩
      · exact h.Tv b (by rw [← e]; exact hb) e'
      · rw [e] at hb; cases hb
        have := hlt _ e'; omega
    TB := h.TB
    rB := h.rB
    bel := h.bel.trans (hall.below hws fun k hk => by
      rcases hk with hk | hk
      · have := own_ge h.row k hk; have := h.rB; omega
      · have := h.rB; omega) }
theorem ndV_of_K {o : List Nd} (h : ∀ x ∈ o, NdK x) : ∀ k, k < o.length → NdV (nd o k) := fun k hk => by
  have := h _ (show nd o k ∈ o from mem_getD hk)
  exact { op := this.op, width := this.width, flags := this.flags, len := this.len, imm := this.imm }
/-- A builder of the call's own with a map of its own. -/
theorem bld_made {w W : World} (hb : Below (w.alloc (.cells #[.slice none 0 0, .map none] 106)).heap.size (w.alloc (.cells #[.slice none 0 0, .map none] 106)) W) : Bld w.heap.size [] (fun b => b = w.heap.size) W := by
  refine ⟨fun b => b = w.heap.size, fun _ => False, .slice none 0 0, .map none, [], fun b => by simp, ?_⟩
  have hs := hb.size
  simp at hs
  exact {
    b0 := below_cell hb (by simp) (by simp [go_sem])
    b1 := below_cell hb (by simp) (by simp [go_sem])
    f0 := by rw [hb.frozen (p := ⟨w.heap.size, 0, none⟩) (by simp)]; simp [go_sem]
    f1 := by rw [hb.frozen (p := ⟨w.heap.size, 1, none⟩) (by simp)]; simp [go_sem]
    Wb := rfl
    Wlt := fun b h => by subst h; omega
    Rlt := fun b h => h.elim
    WR := fun b _ h => h
    row := World.ownsRow_nil _ _ _ _
    rowW := fun b h => by cases h
    len := rfl
    args := fun i hi => absurd hi (by simp)
    kn := fun x hx => by cases hx
    map := .inl ⟨rfl, rfl⟩ }
end Go.Proofs.Ythopdfikikdcbaa
/- Walk of Join of the program. -/
namespace Go.Proofs.Ythopdfikikdcbaa
open Go.RowKit Go.Maps Wd
set_option linter.unusedVariables false
set_option linter.unusedSimpArgs false
/-- What the region needs behind the call. -/
structure JnQ (w0 : World) (bb rb : Nat) (op width imm : Int) (o : List Nd) (l : List Int) (va : Option Addr) (vc : Nat) (wx : World) : Prop where
  j : ∃ T', JnP w0 bb rb op width imm o l T' (.slice va l.length vc) wx
  y3 : wx.cell? ⟨rb, 3, none⟩ = some (.slice va l.length vc)
  f3 : wx.frozen? ⟨rb, 3, none⟩ = false
  rowA : wx.ownsRow (rb + 1) 3 1 (.slice va l.length vc) l.length (l.map (Value.int .i64))
  cz : ∀ ob, (wx.alloc ob).cell? ⟨rb, 3, none⟩ = some (.slice va l.length vc)
  fz : ∀ ob, (wx.alloc ob).frozen? ⟨rb, 3, none⟩ = false
  nb : some rb ≠ (Value.slice va l.length vc).ownBlock
  sz : rb < wx.heap.size
theorem JnQ.of {w0 : World} {bb rb : Nat} {op width imm : Int} {o : List Nd} {l : List Int} {va : Option Addr} {vc : Nat} {wx : World} (h : ∃ T', JnP w0 bb rb op width imm o l T' (.slice va l.length vc) wx) : JnQ w0 bb rb op width imm o l va vc wx := by
  obtain ⟨T', h1⟩ := h
  have hl := cell_lt h1.y.c0
  exact ⟨⟨T', h1⟩, h1.y.c3, h1.y.f3, h1.row, fun ob => below_cell (B := wx.heap.size) ((Below.refl _ _).alloc (Nat.le_refl _) ob) hl h1.y.c3,
    fun ob => by rw [← h1.y.f3]; exact ((Below.refl _ _).alloc (Nat.le_refl _) ob).frozen (p := ⟨rb, 3, none⟩) hl, fun e => by have := own_ge h1.row rb e.symm; omega, hl⟩
set_option maxRecDepth 100000 in
set_option maxHeartbeats 4000000 in
theorem pJoin (op width imm : Int) (pts : List (List Nd)) (pv : Value) (w : World) (hp : Ndss w pv pts) (hI : ∀ p ∈ pts, ∀ x ∈ p, 0 ≤ x.imm ∧ x.imm ≤ 4294967295) (hl : pts.length ≤ 10) (ho : Sml op) (hw : Sml width) (him : 0 ≤ imm ∧ imm ≤ 4294967295) :
    Calls Try.prog 39 #[.int .i64 op, .int .i64 width, .int .u32 imm, pv] w fun e w' => ∃ v, e = .returned (.tuple #[v, .int .i64 (joinE op width imm pts)]) ∧ Nds w' v (joinL op width imm pts) ∧ Below w.heap.size w w' := by
  have HP := Lib.hid hp
  have HI := Lib.hid hI
  have HOP := Lib.hid ho
  have HWD := Lib.hid hw
  have HIM := Lib.hid him
  obtain ⟨pa, pc, rfl, hp1, hp2⟩ := hp.shape
  obtain ⟨i0, hi0, hz0, hz1, hz2⟩ := info_parts info_int
  clear hp hI him ho hw
  obtain ⟨hmk⟩ : Nonempty (∀ w : World, (Instr.makeMap 108 none).run Try.prog w = .ok (.map (some w.heap.size)) (w.alloc (.map #[] 0))) := ⟨fun _ => by kernel_rfl⟩
  have HPT : Hid (∀ j, j < pts.length → pts.getD j [] ∈ pts) := fun j hj => mem_getD hj
  go_enter Try.func39, Try.ntmps39
  go_wp2_with fail
  go_loopw [24] (fun iv wx => ∃ j : Nat, iv = .int .i64 j ∧ j ≤ pts.length ∧ Hid (∀ i, i < j → valE (pts.getD i []) = 0) ∧ Below w.heap.size w wx) (fun iv _ => pts.length - (intOf iv).toNat)
  case atStart => exact ⟨0, rfl, Nat.zero_le _, fun i hi => absurd hi (by omega), Below.refl _ _⟩
  case round =>
    obtain ⟨j, rfl, hj, hv, hb⟩ := hrel
    by_cases hlt : j < pts.length
    · obtain ⟨b, q, c', u, e', hbq, d0, hN⟩ := HP.out.at hb hlt
      cases e'
      have HV := Lib.hid (fun W (hw : Below w.heap.size w W) => pValidate (pts.getD j []) u W (hN.stays hw) (HI.out _ (HPT.out j hlt)))
      have HB := Lib.hid hb
      have HHIT := Lib.hid (fun h => firstE_hit hlt hv.out h)
      have HVN : Hid (valE (pts.getD j []) = 0 → ∀ i, i < j + 1 → valE (pts.getD i []) = 0) := fun h i hi => by
        by_cases e : i = j
        · subst e; exact h
        · exact hv.out i (by omega)
      obtain ⟨ua, uc, rfl, hu1, hu2⟩ := hN.shape
      clear hN hb hv
      generalize pts.getD j [] = p at *
      by_cases h0 : valE p = 0
      · have HVN2 := Lib.hid (HVN.out h0)
        have H0 := Lib.hid h0
        clear h0 HVN HHIT
        go_wp2_with fail
        refine (HV.out _ HB.out).mono ?_
        rintro e w1 ⟨rfl, hb1⟩
        rw [H0.out]
        have HB1 := Lib.hid (below_hop HB.out hb1)
        clear hb1
        go_wp2_with fail
        go_roundw
        case rel => exact ⟨j + 1, by go_num, by omega, HVN2.out, HB1.out⟩
        case measure => simp [intOf] <;> omega
      · have hne : (valE p != 0) = true := by simpa using h0
        have HE : Hid (joinE op width imm pts = valE p) := by
          show _ = _
          unfold joinE
          rw [HHIT.out h0, if_pos h0]
        have HL : Hid (joinL op width imm pts = []) := by
          show _ = _
          unfold joinL
          rw [HE.out, if_neg h0]
        clear h0 HVN HHIT
        go_wp2_with fail
        refine (HV.out _ HB.out).mono ?_
        rintro e w1 ⟨rfl, hb1⟩
        have HB1 := Lib.hid (below_hop HB.out hb1)
        clear hb1
        go_wp2_with fail
        rw [HE.out]
        go_ret2
        exact ⟨_, rfl, by rw [HL.out]; exact Nds.nil _, HB1.out⟩
    · obtain rfl : j = pts.length := by omega
      have HF := Lib.hid (firstE_none hv.out)
      have HVA : Hid (∀ p ∈ pts, valE p = 0) := fun p hp => by
        obtain ⟨i, hi, rfl⟩ := List.getElem_of_mem hp
        have := hv.out i hi
        rw [List.getD_eq_getElem?_getD, List.getElem?_eq_getElem hi] at this
        exact this
      have HB := Lib.hid hb
      clear hv hb
      by_cases ha : arV op = -1
      · have HA := Lib.hid ha
        have hab : (arV op != -1) = false := by rw [ha]; rfl
        have HE : Hid (joinE op width imm pts = 1) := by
          show _ = _
          unfold joinE
          rw [HF.out, if_neg (by simp), if_pos ha]
        have HL : Hid (joinL op width imm pts = []) := by
          show _ = _
          unfold joinL
          rw [HE.out]; rfl
        clear ha
        go_wp2_with fail
        refine (arity_any op _).mono ?_
        rintro e w1 ⟨rfl, rfl⟩
        go_wp2_with fail
        rw [HE.out]
        go_ret2
        exact ⟨_, rfl, by rw [HL.out]; exact Nds.nil _, HB.out⟩
      · have hac := arV_cases op
        have hab : (arV op != -1) = true := by simpa using ha
        have HE : Hid (joinE op width imm pts = valE (outJ op width imm pts)) := by
          show _ = _
          unfold joinE
          rw [HF.out, if_neg (by simp), if_neg ha]
        have HL : Hid (joinL op width imm pts = if valE (outJ op width imm pts) = 0 then outJ op width imm pts else []) := by
          show _ = _
          unfold joinL
          rw [HE.out]
        have HA := Lib.hid ha
        clear ha hac
        obtain ⟨wl, rfl⟩ : ∃ wl : World, wl = wr := ⟨_, rfl⟩
        have hbl := HB.out.size
        go_wp2_with fail
        refine (arity_any op _).mono ?_
        rintro e w1 ⟨rfl, rfl⟩
        generalize (if arV op = -1 then (0 : Int) else arV op) = art
        go_wp2_with fail
        go_loopw [49] (fun iv wx => ∃ (j : Nat) (rv : Value) (T : Nat → Prop), iv = .int .i64 j ∧ j ≤ pts.length ∧ JnP w wl.heap.size (wl.heap.size + 1) op width imm (joinO (pts.take j)) (joinA (pts.take j)) T rv wx) (fun iv _ => pts.length - (intOf iv).toNat)
        case atStart =>
          refine ⟨0, .slice none 0 0, fun b => b = wl.heap.size, rfl, Nat.zero_le _, ?_⟩
          exact {
            bld := bld_made ((Below.refl _ _).alloc (Nat.le_refl _) _)
            y := ⟨by simp [go_sem], by simp [go_sem], by simp [go_sem], by simp [go_sem], by simp [go_sem], by simp [go_sem]⟩
            row := RowI.nil _ _ _ _
            Trb := by simp
            Tv := fun b h => by cases h
            TB := fun b h => by subst h; exact hbl
            rB := by omega
            bel := (HB.out.alloc hbl _).alloc (by simp; omega) _ }
        case round =>
          obtain ⟨j, rv, T, rfl, hj, hM⟩ := hrel
          have HM := Lib.hid hM
          have HBW := Lib.hid hM.bel
          have holen := joinO_len pts HVA.out j hj
          have hlen := joinA_len (pts.take j)
          rw [List.length_take, Nat.min_eq_left hj] at hlen
          have hl10 : (joinA (pts.take j)).length ≤ 10 := by omega
          have HLN := Lib.hid hlen
          have HGD := Lib.hid (joinO_good (pts.take j))
          have HRG := Lib.hid (joinA_rng (pts.take j))
          clear hlen
          by_cases hlt : j < pts.length
          · have HNX := Lib.hid (join_next pts j hlt)
            obtain ⟨b, q, c', u, e', hbq, d0, hN⟩ := HP.out.at HBW.out hlt
            cases e'
            have hpv := HVA.out _ (HPT.out j hlt)
            have HIP := Lib.hid (HI.out _ (HPT.out j hlt))
            generalize pts.getD j [] = p at *
            obtain ⟨v1, v2, _⟩ := valid_facts hpv
            have hFI := from_ins (valid_down hpv) (B := 3000) (k := p.length - 1) (by omega) HGD.out (by omega)
            have HFR : Hid (∀ W, Below (wr.alloc (.map #[] 0)).heap.size (wr.alloc (.map #[] 0)) W → Calls Try.prog 66 #[.pointer (some ⟨wl.heap.size, 0, none⟩), u, .int .i64 (IntKind.i64.wrap ((p.length : Int) - 1)), .map (some wr.heap.size), .func (.func 67) #[.pointer (some ⟨wl.heap.size, 0, none⟩)] #[]] W fun e w' => e = .returned (.int .i64 ((insT (tree p (p.length - 1)) (joinO (pts.take j))).2 : Int)) ∧ FrP (Bld wl.heap.size) wr.heap.size T W (gvis stepA p (p.length - 1 + 1) (p.length - 1) (joinO (pts.take j), List.replicate p.length (-1))) w') := fun W hW => by
              have hb1 : Below wr.heap.size wr W := ((Below.refl _ _).alloc (Nat.le_refl _) _).trans (hW.mono (by simp))
              have hs1 := hb1.size
              have hws := HM.out.bel.size
              rw [show IntKind.i64.wrap ((p.length : Int) - 1) = (p.length : Int) - 1 from IntWalk.i64_in _ (by omega)]
              have h9 := from_any (step := stepA) (I := Bld wl.heap.size) (J := JA 3000 p) p u (.pointer (some ⟨wl.heap.size, 0, none⟩)) w _ #[.pointer (some ⟨wl.heap.size, 0, none⟩)] #[] callf_add (valid_down hpv) (gjJA 3000 p) (iok_bld wl.heap.size) hN (args_le hpv HIP.out) (made_add wl.heap.size 3000 p w (by omega) (ndV_of hpv HIP.out)) (p.length - 1 + 1) (p.length - 1) (joinO (pts.take j)) (List.replicate p.length (-1)) T W wr.heap.size (by omega) (by omega) (ja_start 3000 p _ (by omega)) (HM.out.bld.next hb1) (seen_made (by omega) hW) (fun h => by have := HM.out.bld.lt _ h; omega) (by omega) HM.out.TB (below_hop HM.out.bel hb1)
              rw [hFI.2, show ((p.length - 1 : Nat) : Int) = (p.length : Int) - 1 by omega] at h9
              exact h9
            have HC1 := Lib.hid hFI.1
            clear hFI
            generalize gvis stepA p (p.length - 1 + 1) (p.length - 1) (joinO (pts.take j), List.replicate p.length (-1)) = cc at *
            obtain ⟨ua, uc, rfl, hu1, hu2⟩ := hN.shape
            obtain ⟨va, vc, rfl⟩ := hM.row.shape
            have HJN : Hid (∀ W w', Below (wr.alloc (.map #[] 0)).heap.size (wr.alloc (.map #[] 0)) W → FrP (Bld wl.heap.size) wr.heap.size T W cc w' → JnQ w wl.heap.size (wl.heap.size + 1) op width imm cc.1 (joinA (pts.take j)) va vc w') := fun W w' hW hp => JnQ.of (HM.out.from hW hp)
            generalize ((insT (tree p (p.length - 1)) (joinO (pts.take j))).2 : Int) = zz at *
            have y3 := hM.y.c3
            have y3f := hM.y.f3
            have hrl : wl.heap.size + 1 < wr.heap.size := cell_lt hM.y.c0
            clear hN hpv hM holen
            generalize joinA (pts.take j) = l at *
            go_wp2_with fail
            go_region_law (first
              | ((refine step_append_lies _ (by rfl) _ _ _ (by rfl) (wl.heap.size + 2) 3 i0 _ 1 8 Try.underlying25 hi0 hz0 hz1 hz2 rfl (by omega) (.slice va l.length vc) l.length (l.map (Value.int .i64)) (by rfl) (HRW1.out.alloc _) ⟨w1.heap.size, 0, none⟩ 1 1 [.int .i64 zz] (by rfl) (by rfl) (World.news_of_block (cs := #[.int .i64 zz]) (t := 3) (fr := (0, 0)) (heap_alloc_new w1 _)) (by simp [Value.oneCell']) (by omega) (by unfold maxLen; omega) (by omega) (by simp; omega) (w1.heap.size + 1) (by simp) ?_); intro gg cap w3 hown3 hgrow3 hat3 hlt3; have G2 := (hgrow3.cell_far ⟨wl.heap.size + 1, 3, none⟩ (by simp; omega) hnb1).trans (hcz1 _); have G3 := (hgrow3.frozen_far ⟨wl.heap.size + 1, 3, none⟩ (by simp; omega) hnb1).trans (hfz1 _))
              | (go_simp; go_at_call 66; (with_reducible refine (HFR.out _ ?_).mono ?_); (exact (Below.refl _ _).drew); rintro e w1 ⟨rfl, hp⟩; have HP1 := Lib.hid (HJN.out _ _ (Below.refl _ _).drew hp); clear hp; have G0 := HP1.out.y3; have G1 := HP1.out.f3; have HRW1 := Lib.hid HP1.out.rowA; have hcz1 := HP1.out.cz; have hfz1 := HP1.out.fz; have hnb1 := HP1.out.nb; have hw1s := HP1.out.sz))
            all_goals
              clear hcz1 hfz1 y3 y3f
              go_wp2_with fail
              go_roundw
              case rel =>
                obtain ⟨T1, hJ⟩ := HP1.out.j
                have hc3 : Chg (fun b => (Value.slice va l.length vc).ownBlock = some b) w1 w3 := (Chg.of_below ((Below.refl _ _).alloc (Nat.le_refl _) _)).trans (Chg.of_grown hgrow3 (fun k hk => hk)) (fun _ _ h => h)
                have h9 := hJ.arg hc3 hown3 (hat3.elim (fun h => .inl h.symm) (fun h => .inr ⟨gg, rfl, by omega⟩))
                rw [HC1.out, ← HNX.out.1, ← HNX.out.2] at h9
                exact ⟨j + 1, _, _, by go_num, by omega, h9⟩
              case measure => simp [intOf] <;> omega
          · obtain rfl : j = pts.length := by omega
            have hMM := HM.out
            have hgd := HGD.out
            have hrg := HRG.out
            have hln := HLN.out
            rw [List.take_length] at hMM holen hl10 hgd hrg hln
            have HSH := Lib.hid (join_share op width imm pts)
            have HADD : Hid (addN (joinO pts) ⟨op, width, 0, joinA pts, imm⟩ = insT (joinT op width imm pts) []) := (outJ_add op width imm pts).symm
            have HMANY := Lib.hid (fun h => join_many (op := op) (width := width) (imm := imm) (pts := pts) h HA.out)
            clear HM hM HLN HGD HRG
            generalize joinO pts = o at *
            generalize joinA pts = l at *
            obtain ⟨va, vc, rfl⟩ := hMM.row.shape
            have HMM := Lib.hid hMM
            have hrl : wl.heap.size + 1 < wr.heap.size := cell_lt hMM.y.c0
            have y0 := hMM.y.c0
            have y1 := hMM.y.c1
            have y2 := hMM.y.c2
            have y3 := hMM.y.c3
            have y4 := hMM.y.c4
            obtain ⟨W, R, nv, fv, avs, hT, hbs⟩ := hMM.bld
            obtain ⟨na, nc, rfl⟩ := own_shape hbs.row
            have b0 := hbs.b0
            have hkn := hbs.kn
            have HKN := Lib.hid hkn
            have HGD := Lib.hid hgd
            have HRG := Lib.hid hrg
            have ho3 : o.length ≤ 3000 := by omega
            clear hMM hT hbs hgd hrg hkn
            by_cases h3 : 3 < l.length
            · have HV := Lib.hid (HMANY.out (by omega) (fun x hx => (HKN.out x hx).len))
              have HHL : Hid (valE (outJ op width imm pts) ≠ 0) := by
                show _ ≠ _
                rw [HV.out]; split <;> simp
              have HL2 : Hid (joinL op width imm pts = []) := by
                show _ = _
                rw [HL.out, if_neg HHL.out]
              have hl3 : (3 : Int) < l.length := by omega
              clear hln
              by_cases c : 300 ≤ o.length
              · have HVV : Hid (joinE op width imm pts = 3) := by show _ = _; rw [HE.out, HV.out, if_pos c]
                have hc3 : (300 : Int) ≤ o.length := by omega
                go_wp2_with fail
                rw [HVV.out]
                go_ret2
                exact ⟨_, rfl, by rw [HL2.out]; exact Nds.nil _, HBW.out⟩
              · have HVV : Hid (joinE op width imm pts = 1) := by show _ = _; rw [HE.out, HV.out, if_neg c]
                have hc3 : ¬ (300 : Int) ≤ o.length := by omega
                go_wp2_with fail
                rw [HVV.out]
                go_ret2
                exact ⟨_, rfl, by rw [HL2.out]; exact Nds.nil _, HBW.out⟩
            · have hl3 : ¬ (3 : Int) < l.length := by omega
              have HK : Hid (NdK ⟨op, width, 0, l, imm⟩) := { op := HOP.out, width := HWD.out, flags := rfl, len := by show l.length ≤ 3; omega, args := fun a ha => by have := HRG.out a ha; omega, imm := HIM.out }
              have HAC : Hid (Calls Try.prog 67 #[.pointer (some ⟨wl.heap.size, 0, none⟩), .agg #[.int .i64 op, .int .i64 width, .int .i64 0, .slice va l.length vc, .int .u32 imm]] wr fun e w' => e = .returned (.int .i64 (stepA o ⟨op, width, 0, l, imm⟩).2) ∧
                  ∃ T', Bld wl.heap.size (stepA o ⟨op, width, 0, l, imm⟩).1 T' w' ∧ (∀ b, T' b → T b ∨ wr.heap.size ≤ b ∨ (Value.slice va l.length vc).ownBlock = some b) ∧ Chg T wr w') :=
                add_any wl.heap.size o T ⟨op, width, 0, l, imm⟩ (.slice va l.length vc) wr HMM.out.bld HK.out (HMM.out.row.intsF (by omega)) (fun b hb => ⟨HMM.out.Tv b hb, own_lt HMM.out.row b hb⟩) (by omega)
              have HGA := Lib.hid (addN_good HGD.out (y := ⟨op, width, 0, l, imm⟩) HRG.out).down
              have hlen := @addN_len o ⟨op, width, 0, l, imm⟩
              have hgrw := addN_grow o ⟨op, width, 0, l, imm⟩
              have HSG := Lib.hid (show stepA o ⟨op, width, 0, l, imm⟩ = ((addN o ⟨op, width, 0, l, imm⟩).1, ((addN o ⟨op, width, 0, l, imm⟩).2 : Int)) from rfl)
              have HS1 := Lib.hid (congrArg Prod.fst HSG.out)
              have HS2 := Lib.hid (congrArg Prod.snd HSG.out)
              rw [HS1.out, HS2.out] at HAC
              simp only at HAC
              clear HSG HS1 HS2 hln HMANY
              generalize addN o ⟨op, width, 0, l, imm⟩ = ad at *
              obtain ⟨o2, k2⟩ := ad
              simp only at hlen hgrw
              go_wp2_with fail
              refine HAC.out.mono ?_
              rintro e w5 ⟨rfl, T5, hB5, hT5, hc5⟩
              have HB5 := Lib.hid (HBW.out.trans (hc5.below HBW.out.size (fun k hk => HMM.out.TB k hk)))
              obtain ⟨W5, R5, nv5, fv5, avs5, _, hb5⟩ := hB5
              obtain ⟨na5, nc5, rfl⟩ := own_shape hb5.row
              have c0 := hb5.b0
              have hcl := hb5.Wlt _ hb5.Wb
              have HSC := Lib.hid (share_any o2 (.slice na5 o2.length nc5) w5 k2 (hb5.nds (by omega)) HGA.out (ndV_of_K hb5.kn) hlen (by omega))
              rw [HSH.out] at HSC
              have HIO : Hid (∀ x ∈ outJ op width imm pts, 0 ≤ x.imm ∧ x.imm ≤ 4294967295) := by
                have h9 := shr_imm HGA.out (fun x hx => (hb5.kn x hx).imm) hlen
                rw [HSH.out] at h9
                exact h9
              have HOL : Hid ((outJ op width imm pts).length ≤ 100000) := by
                have h9 := shr_len HGA.out hlen
                rw [HSH.out] at h9
                show _ ≤ _
                try simp only at h9
                omega
              clear hb5 hT5 hc5 b0 y0 y1 y2 y3 y4
              go_wp2_with fail
              refine HSC.out.mono ?_
              rintro e w7 ⟨sv, rfl, hs⟩
              have hsn := hs.nds HOL.out
              have HB7 := Lib.hid (below_hop HB5.out hs.bel)
              have HV := Lib.hid (pValidate (outJ op width imm pts) sv w7 hsn HIO.out)
              have HS := Lib.hid hsn
              obtain ⟨sa, sc, rfl, _⟩ := hsn.shape
              clear hs hsn
              by_cases h0 : valE (outJ op width imm pts) = 0
              · have HL2 := HL.out
                rw [if_pos h0] at HL2
                have HLL := Lib.hid HL2
                have H0 := Lib.hid h0
                clear h0 HL2
                go_wp2_with fail
                refine HV.out.mono ?_
                rintro e w8 ⟨rfl, hb8⟩
                rw [H0.out]
                have HB8 := Lib.hid hb8
                clear hb8
                go_wp2_with fail
                rw [HE.out, H0.out]
                go_ret2
                exact ⟨_, rfl, by rw [HLL.out]; exact HS.out.stays HB8.out, below_hop HB7.out HB8.out⟩
              · have hne : (valE (outJ op width imm pts) != 0) = true := by simpa using h0
                have HL2 := HL.out
                rw [if_neg h0] at HL2
                have HLL := Lib.hid HL2
                clear h0 HL2
                go_wp2_with fail
                refine HV.out.mono ?_
                rintro e w8 ⟨rfl, hb8⟩
                have HB8 := Lib.hid hb8
                clear hb8
                go_wp2_with fail
                rw [HE.out]
                go_ret2
                exact ⟨_, rfl, by rw [HLL.out]; exact Nds.nil _, below_hop HB7.out HB8.out⟩
end Go.Proofs.Ythopdfikikdcbaa
/- Walk of the law TermJoins. -/
namespace Go.Proofs.Ythopdfikikdcbaa
open Go.RowKit Go.Maps Wd
set_option linter.unusedVariables false
set_option linter.unusedSimpArgs false
set_option maxRecDepth 100000 in
set_option maxHeartbeats 1000000 in
theorem wTermJoins (op width imm : Int) (pts : List (List Nd)) (pv : Value) (w : World) (hp : Ndss w pv pts) (hI : ∀ p ∈ pts, ∀ x ∈ p, 0 ≤ x.imm ∧ x.imm ≤ 4294967295) (ho : Sml op) (hw : Sml width) (him : 0 ≤ imm ∧ imm ≤ 4294967295) :
    Calls Try.prog 7 #[.agg #[.int .i64 op, .int .i64 width, .int .u32 imm], pv] w fun e w' => e = .returned (.bool true) ∧ Below w.heap.size w w' := by
  have HP := Lib.hid hp
  have HI := Lib.hid hI
  have HO := Lib.hid ho
  have HW := Lib.hid hw
  have HIM := Lib.hid him
  obtain ⟨pa, pc, rfl, hp1, hp2⟩ := hp.shape
  clear hp hI ho hw him
  have KN := Lib.hid known7
  cases hl : decide (10 < (pts.length : Int))
  rotate_left
  · go_enter Try.func7, Try.ntmps7
    go_wp2_with fail
    refine (KN.out _).mono ?_
    rintro e w8 ⟨rfl, hb8⟩
    go_wp2_with fail
    go_ret
    exact ⟨rfl, ((Below.refl _ _).alloc (Nat.le_refl _) _).trans (hb8.mono (by simp))⟩
  have h10 : pts.length ≤ 10 := by have := of_decide_eq_false hl; omega
  go_enter Try.func7, Try.ntmps7
  go_wp2_with fail
  go_loopw [5] (fun iv wx => ∃ j : Nat, iv = .int .i64 j ∧ j ≤ pts.length ∧ Below (w.alloc (.cells #[.int .i64 op, .int .i64 width, .int .u32 imm] 70)).heap.size (w.alloc (.cells #[.int .i64 op, .int .i64 width, .int .u32 imm] 70)) wx) (fun iv _ => pts.length - (intOf iv).toNat)
  case atStart => exact ⟨0, rfl, Nat.zero_le _, Below.refl _ _⟩
  case round =>
    obtain ⟨j, rfl, hj, hb⟩ := hrel
    have HBW := Lib.hid (((Below.refl w.heap.size w).alloc (Nat.le_refl _) (.cells #[.int .i64 op, .int .i64 width, .int .u32 imm] 70)).trans (hb.mono (by simp)))
    have hbs := hb.size
    simp only [World.size_alloc] at hbs
    have r0 := below_cell hb (b := w.heap.size) (o := 0) (v := .int .i64 op) (by simp) (by simp [go_sem])
    have r1 := below_cell hb (b := w.heap.size) (o := 1) (v := .int .i64 width) (by simp) (by simp [go_sem])
    have r2 := below_cell hb (b := w.heap.size) (o := 2) (v := .int .u32 imm) (by simp) (by simp [go_sem])
    have HB := Lib.hid hb
    clear hb
    by_cases hlt : j < pts.length
    · obtain ⟨b, q, c', u, e', hbq, d0, hN⟩ := HP.out.at HBW.out hlt
      cases e'
      have HN := Lib.hid (hN.stays HBW.out)
      obtain ⟨ua, uc, rfl, hu1, hu2⟩ := hN.shape
      clear hN
      generalize pts.getD j [] = p at *
      cases hlp : longB p
      · go_wp2_with fail
        refine (long_any p _ _ HN.out).mono ?_
        rintro e w' ⟨rfl, rfl⟩
        rw [hlp]
        go_wp2_with fail
        go_roundw
        case rel => exact ⟨j + 1, by go_num, by omega, HB.out⟩
        case measure => simp [intOf] <;> omega
      · go_wp2_with fail
        refine (long_any p _ _ HN.out).mono ?_
        rintro e w' ⟨rfl, rfl⟩
        rw [hlp]
        go_wp2_with fail
        refine (KN.out _).mono ?_
        rintro e w8 ⟨rfl, hb8⟩
        go_wp2_with fail
        go_ret
        exact ⟨rfl, below_hop HBW.out hb8⟩
    · obtain rfl : j = pts.length := by omega
      have HJ1 := Lib.hid (pJoin op width imm pts (.slice pa pts.length pc) wr (HP.out.stays HBW.out) HI.out h10 HO.out HW.out HIM.out)
      go_wp2_with fail
      refine HJ1.out.mono ?_
      rintro e w3 ⟨v3, rfl, hv3, hb3⟩
      obtain ⟨a3, c3, rfl, _⟩ := hv3.shape
      have HB3 := Lib.hid (below_hop HBW.out hb3)
      have HV3 := Lib.hid hv3
      have hb3s := hb3.size
      have r0' := below_cell hb3 (by omega) r0
      have r1' := below_cell hb3 (by omega) r1
      have r2' := below_cell hb3 (by omega) r2
      have HJ2 := Lib.hid (rJoin op width imm pts (.slice pa pts.length pc) w3 (HP.out.stays HB3.out) HI.out h10 HIM.out)
      clear hb3 hv3 r0 r1 r2
      go_wp2_with fail
      refine HJ2.out.mono ?_
      rintro e w4 ⟨v4, rfl, hv4, hb4⟩
      obtain ⟨a4, c4, rfl, _⟩ := hv4.shape
      have HB4 := Lib.hid (below_hop HB3.out hb4)
      have HV4 := Lib.hid hv4
      have HV34 := Lib.hid (HV3.out.stays hb4)
      clear hb4 hv4 r0' r1' r2'
      generalize joinE op width imm pts = je at *
      generalize joinL op width imm pts = jl at *
      go_wp2_with fail
      refine (rSameNodes jl jl _ _ _ HV34.out HV4.out).mono ?_
      rintro e w5 ⟨rfl, hb5⟩
      have HB5 := Lib.hid (below_hop HB4.out hb5)
      clear hb5
      rw [decide_eq_true (rfl : jl = jl)]
      go_wp2_with fail
      refine (KN.out _).mono ?_
      rintro e w8 ⟨rfl, hb8⟩
      go_wp2_with fail
      go_ret
      exact ⟨rfl, below_hop HB5.out hb8⟩
end Go.Proofs.Ythopdfikikdcbaa
/- How a law's statement follows from its walk: it returned true, and what was there is as it was. -/
namespace Go.Proofs.Ythopdfikikdcbaa
open Go.RowKit Go.WideShapes Go.ChangeShapes
section
variable {H : Type} {enc : TypeId × Value → H} {P : Program}
theorem trodAll_stays (hl : laidOutB P = true) {W W' : World} (hb : Below W.heap.size W W') (sp : Nat → Bool) : ∀ (ts : List TypeId) (vs : List Value) (ds : List (DataW H)) (ps : List MemPlace),
    (∀ t ∈ ts, P.readableRec t = true ∧ t < P.types.size) → DataW.TrodAll enc P W 0 (fun _ => true) true ts vs ds ps → (∀ x ∈ ps, x.block < W.heap.size) → (∀ p ∈ ps, sp p.block = true) → DataW.TrodAll enc P W' 0 sp true ts vs ds ps
  | [], vs, ds, ps, _, h, _, _ => by
    obtain ⟨rfl, rfl, rfl⟩ := trodAll_nil h
    exact trodAll_mk0
  | t :: ts, vs, ds, ps, ht, h, hlt, hsp => by
    obtain ⟨v, vs', d, ds', p, q, rfl, rfl, rfl, h1, h2⟩ := trodAll_cons h
    have h3 := ht t (List.mem_cons_self ..)
    exact trodAll_cons_mk (WideElems.Trod_stays hl h3.1 h3.2 h1 (fun x hx => hb.same (hlt x (List.mem_append.2 (.inl hx)))) (fun x hx => hsp x (List.mem_append.2 (.inl hx))))
      (trodAll_stays hl hb sp ts vs' ds' q (fun t' h' => ht t' (List.mem_cons_of_mem _ h')) h2 (fun x hx => hlt x (List.mem_append.2 (.inr hx))) (fun x hx => hsp x (List.mem_append.2 (.inr hx))))
theorem post_below {f : Func} {s : ChangeSpec} {apart fresh handsOn again : Bool} {W W' : World} {args : Array Value} {v : Value} {ds gs : List (DataW H)} {before pa pv : List MemPlace}
    (hW : DataW.Whole enc P f.params.toList s.vars apart W args.toList ds gs before)
    (hres : ∀ (b : Nat) (sp : Nat → Bool) (hd : Bool), DataW.TrodAll enc P W' b sp hd f.resultTypes.toList (v.resultList f.resultTypes.size) (s.fn H (ds ++ gs)).results [])
    (hargs : ∀ sp : Nat → Bool, (∀ p ∈ before, sp p.block = true) → DataW.TrodAll enc P W' 0 sp true f.params.toList args.toList (s.fn H (ds ++ gs)).args pa)
    (hvars : ∀ sp : Nat → Bool, (∀ p ∈ before, sp p.block = true) → DataW.TrodVars enc P W' sp s.vars (s.fn H (ds ++ gs)).vars pv)
    (hps : before = pa ++ pv) (hb : Below W.heap.size W W')
    (hok : ∀ (j : Nat) (t : TypeId) (r : Value), f.resultTypes[j]? = some t → (v.resultList f.resultTypes.size)[j]? = some r → Value.okWide P W' .any 0 t r) :
    s.post enc P f apart fresh handsOn again W args v W' := by
  have hlt : ∀ p ∈ before, p.block < W.heap.size := fun p hp => hW.lt p hp
  have hold : ∀ p ∈ before, (fun b => decide (b < W.heap.size)) p.block = true := fun p hp => by simpa using hlt p hp
  refine ⟨ds, gs, before, [], pa, pv, hW, hres _ _ _, hargs _ hold, hvars _ hold, World.keptBut_mono (fun p hp => ⟨hp, ?_⟩) (hb.frame (· ∈ before)), fun _ => ?_⟩
  · rw [hps, List.mem_append] at hp
    exact Or.inr hp
  · obtain ⟨_, _, _, _, _, hz, hn⟩ := hW
    refine ⟨hok, _, _, ([] ++ pa) ++ pv, ⟨[] ++ pa, pv, trodAll_append (hargs _ (fun _ _ => rfl)) (hres _ _ _), hvars _ (fun _ _ => rfl), rfl, ?_, ?_⟩, ?_⟩
    · intro b off hp
      have hin : MemPlace.cell b off ∈ before := by rw [hps]; simpa using hp
      rw [hb.frozen (hlt _ hin)]
      exact hz b off hin
    · intro ha
      have := hn ha
      rw [hps] at this
      simpa using this
    · intro p hp _
      rw [hps]
      simpa using hp
/-- A law that returned true and left alone what it found. -/
theorem post_law {f : Func} {s : ChangeSpec} {apart fresh handsOn again : Bool} {W W' : World} {args : Array Value} {ds gs : List (DataW H)} {before : List MemPlace} {tb : TypeId}
    (hl : laidOutB P = true) (hts : ∀ t ∈ f.params.toList, P.readableRec t = true ∧ t < P.types.size) (hres : f.resultTypes = #[tb]) (htb : P.underlying tb = some .bool) (hv : s.vars = [])
    (hW : DataW.Whole enc P f.params.toList s.vars apart W args.toList ds gs before) (hfn : s.fn H (ds ++ gs) = { results := [.lit (.bool true)], args := ds }) (hb : Below W.heap.size W W') :
    s.post enc P f apart fresh handsOn again W args (.bool true) W' := by
  have hW2 := hW
  obtain ⟨p, q, hA, hV, rfl, _, _⟩ := hW2
  rw [hv] at hV
  obtain ⟨rfl, rfl⟩ := trodVars_none hV
  refine post_below (pa := p) (pv := []) hW (fun b sp hd => ?_) (fun sp hsp => ?_) (fun sp _ => ?_) rfl hb (ok_one hres rfl (okWide_bool_mk htb _))
  · rw [hfn, hres]
    exact trodAll_mk1 (shut_bool htb _)
  · rw [hfn]
    exact trodAll_stays hl hb sp _ _ _ _ hts hA (fun x hx => hW.lt x (List.mem_append.2 (.inl hx))) (fun x hx => hsp x (List.mem_append.2 (.inl hx)))
  · rw [hfn, hv]
    trivial
end
end Go.Proofs.Ythopdfikikdcbaa
/- What the reading of an argument gives: a slice of integers, a list of nodes. -/
namespace Go.Proofs.Ythopdfikikdcbaa
open Go.RowKit Go.WideShapes Go.ChangeShapes Go.Deep
set_option linter.unusedVariables false
set_option linter.unusedSimpArgs false
section
variable {H : Type} {enc : TypeId × Value → H} {P : Program} {W : World} {base : Nat} {held : Bool}
/-- An integer's value fits its kind. -/
def FitsK (k : IntKind) (x : Int) : Prop := (Lit.int k x).wf = true
theorem weights_len {t e : TypeId} {elems spare : List (DataW H)} (ht : P.underlying t = some (.slice e)) (hb : 1 ≤ P.bytesOf e) (hw : ∀ n ∈ (DataW.slice elems spare).weights P t, n ≤ reachBytes) : elems.length + spare.length ≤ 140737488351232 := by
  have h := hw ((elems.length + spare.length) * P.bytesOf e) (by simp [DataW.weights, ht])
  have h2 : elems.length + spare.length ≤ (elems.length + spare.length) * P.bytesOf e := Nat.le_mul_of_pos_right _ hb
  unfold reachBytes at h
  omega
theorem readI {t e : TypeId} {k : IntKind} {fuel : Nat} {cs : List Value} {d : DataW H} {ps : List MemPlace} (ht : P.underlying t = some (.slice e)) (he : P.underlying e = some (.int k)) (hc : P.cellsOf e = 1) (hby : 1 ≤ P.bytesOf e)
    (h : DataW.trod enc P W base (fun _ => true) held fuel t cs = some (d, ps)) (hw : ∀ n ∈ d.weights P t, n ≤ reachBytes) : ∃ v xs, cs = [v] ∧ Ints k W v xs ∧ ∀ x ∈ xs, FitsK k x := by
  rcases open_ints ht he hc h with ⟨rfl, hx⟩ | ⟨a, len, cap, zs, rfl, hb, hl, hm, hz, hx, hcell, hwf⟩
  · exact ⟨_, [], rfl, ⟨none, 0, rfl, Nat.le_refl _, ⟨by simp, by omega⟩, fun _ => rfl, fun i hi => absurd hi (by simp)⟩, fun x hx => by cases hx⟩
  · simp only [if_true] at hz
    simp only [Prod.mk.injEq] at hx
    have hcap : cap ≤ 140737488351232 := by
      rw [hx.1] at hw
      have := weights_len ht hby hw
      simp [lits] at this
      omega
    have hlen : (zs.take len).length = len := by rw [List.length_take]; omega
    refine ⟨_, zs.take len, rfl, ⟨some a, cap, by rw [hlen], by omega, ⟨by omega, by unfold maxLen at hm; omega⟩, (fun hh => by cases hh), fun i hi => ?_⟩, fun x hx => hwf x (List.mem_of_mem_take hx)⟩
    rw [hlen] at hi
    have hc0 := hcell i (by omega)
    have hs := World.cell?_spot hc0
    obtain ⟨b, o, s⟩ := a
    have hsp : s = none := by
      by_cases e0 : i = 0
      · subst e0; exact World.cell?_spot (hcell 0 (by omega))
      · exact World.cell?_spot (hcell 0 (by omega))
    subst hsp
    have e1 : (⟨b, o, none⟩ : Addr).add i = ⟨b, o + i, none⟩ := by
      unfold Addr.add
      by_cases e0 : i = 0
      · rw [if_pos e0, e0]; rfl
      · rw [if_neg e0]
    rw [e1] at hc0
    refine ⟨b, o, rfl, cell_lt hc0, ?_⟩
    show W.cell? ⟨b, o + i * 1, none⟩ = _
    rw [Nat.mul_one, hc0, List.getD_eq_getElem?_getD, List.getD_eq_getElem?_getD, List.getElem?_take, if_pos hi]
theorem add_add (b o i j : Nat) : ((⟨b, o, none⟩ : Addr).add i).add j = ⟨b, o + i + j, none⟩ := by
  have e : ∀ (o i : Nat), (⟨b, o, none⟩ : Addr).add i = ⟨b, o + i, none⟩ := by
    intro o i
    unfold Addr.add
    by_cases e0 : i = 0
    · rw [if_pos e0, e0]; rfl
    · rw [if_neg e0]
  rw [e, e]
theorem weights_mem {fs : Array Field} {t : TypeId} {parts : List (DataW H)} (ht : P.underlying t = some (.struct fs)) {i : Nat} {f : Field} {d : DataW H} (hf : fs[i]? = some f) (hd : parts[i]? = some d) {n : Nat} (hn : n ∈ d.weights P f.type) : n ∈ (DataW.agg parts).weights P t := by
  have h1 : (fs.toList.map (·.type))[i]? = some f.type := by rw [List.getElem?_map]; simp [hf]
  have := DataW.weights_mem_each h1 hd n hn
  simpa [DataW.weights, ht] using this
theorem weightsAll_mem {e : TypeId} : ∀ {l : List (DataW H)} {d : DataW H}, d ∈ l → ∀ n ∈ d.weights P e, n ∈ DataW.weightsAll P e l
  | x :: l, d, h, n, hn => by
    simp only [DataW.weightsAll, List.mem_append]
    rcases List.mem_cons.1 h with rfl | h
    · exact Or.inl hn
    · exact Or.inr (weightsAll_mem h n hn)
/-- The types of a node, told once. -/
structure NodeTy (P : Program) (e ei : TypeId) (f0 f1 f2 f3 f4 : Field) : Prop where
  st : P.underlying e = some (.struct #[f0, f1, f2, f3, f4])
  o : f0.offset = 0 ∧ f1.offset = 1 ∧ f2.offset = 2 ∧ f3.offset = 3 ∧ f4.offset = 4
  u0 : P.underlying f0.type = some (.int .i64)
  u1 : P.underlying f1.type = some (.int .i64)
  u2 : P.underlying f2.type = some (.int .i64)
  u3 : P.underlying f3.type = some (.slice ei)
  u4 : P.underlying f4.type = some (.int .u32)
  ui : P.underlying ei = some (.int .i64)
  c : P.cellsOf f0.type = 1 ∧ P.cellsOf f1.type = 1 ∧ P.cellsOf f2.type = 1 ∧ P.cellsOf f3.type = 1 ∧ P.cellsOf f4.type = 1 ∧ P.cellsOf ei = 1 ∧ P.cellsOf e = 5
  b : 1 ≤ P.bytesOf ei
theorem readN1 {e ei : TypeId} {f0 f1 f2 f3 f4 : Field} (T : NodeTy P e ei f0 f1 f2 f3 f4) {fuel b o : Nat} {cs : List Value} {d : DataW H} {ps : List MemPlace}
    (hcs : ∀ i, i < 5 → W.cell? ⟨b, o + i, none⟩ = cs[i]?) (hl : cs.length = 5) (h : DataW.trod enc P W base (fun _ => true) held fuel e cs = some (d, ps)) (hw : ∀ n ∈ d.weights P e, n ≤ reachBytes) :
    ∃ x : Nd, NdAt W b o x ∧ FitsK .u32 x.imm ∧ FitsK .i64 x.op ∧ FitsK .i64 x.width ∧ FitsK .i64 x.flags ∧ ∀ a ∈ x.args, FitsK .i64 a := by
  obtain ⟨xs, n, _, hx, _, hn, hf⟩ := DataW.trod_struct T.st h
  obtain ⟨o0, o1, o2, o3, o4⟩ := T.o
  obtain ⟨k0, k1, k2, k3, k4, ki, ke⟩ := T.c
  simp only [Prod.mk.injEq] at hx
  match cs, hl with
  | [v0, v1, v2, v3, v4], _ =>
  match xs, hn with
  | [y0, y1, y2, y3, y4], _ =>
  have g0 := hf 0 f0 rfl
  have g1 := hf 1 f1 rfl
  have g2 := hf 2 f2 rfl
  have g3 := hf 3 f3 rfl
  have g4 := hf 4 f4 rfl
  rw [o0, k0] at g0
  rw [o1, k1] at g1
  rw [o2, k2] at g2
  rw [o3, k3] at g3
  rw [o4, k4] at g4
  obtain ⟨n0, a0, _, w0⟩ := DataW.trod_int T.u0 (show DataW.trod enc P W base (fun _ => true) held n f0.type [v0] = some y0 from g0)
  obtain ⟨n1, a1, _, w1⟩ := DataW.trod_int T.u1 (show DataW.trod enc P W base (fun _ => true) held n f1.type [v1] = some y1 from g1)
  obtain ⟨n2, a2, _, w2⟩ := DataW.trod_int T.u2 (show DataW.trod enc P W base (fun _ => true) held n f2.type [v2] = some y2 from g2)
  obtain ⟨n4, a4, _, w4⟩ := DataW.trod_int T.u4 (show DataW.trod enc P W base (fun _ => true) held n f4.type [v4] = some y4 from g4)
  obtain ⟨d3, p3⟩ := y3
  obtain ⟨v, zs, a3, hz, wz⟩ := readI T.u3 T.ui ki T.b (show DataW.trod enc P W base (fun _ => true) held n f3.type [v3] = some (d3, p3) from g3) (fun m hm => by
    refine hw m ?_
    rw [hx.1]
    exact weights_mem T.st (i := 3) (f := f3) rfl rfl hm)
  cases a0; cases a1; cases a2; cases a3; cases a4
  exact ⟨⟨n0, n1, n2, zs, n4⟩, ⟨hcs 0 (by omega), hcs 1 (by omega), hcs 2 (by omega), ⟨v3, hcs 3 (by omega), hz⟩, hcs 4 (by omega)⟩, w4, w0, w1, w2, wz⟩
theorem readN {t e ei : TypeId} {f0 f1 f2 f3 f4 : Field} (ht : P.underlying t = some (.slice e)) (T : NodeTy P e ei f0 f1 f2 f3 f4) (hby : 1 ≤ P.bytesOf e) {fuel : Nat} {cs : List Value} {d : DataW H} {ps : List MemPlace}
    (h : DataW.trod enc P W base (fun _ => true) held fuel t cs = some (d, ps)) (hw : ∀ n ∈ d.weights P t, n ≤ reachBytes) :
    ∃ v ts, cs = [v] ∧ Nds W v ts ∧ ∀ x ∈ ts, FitsK .u32 x.imm ∧ FitsK .i64 x.op ∧ FitsK .i64 x.width ∧ FitsK .i64 x.flags ∧ ∀ a ∈ x.args, FitsK .i64 a := by
  rcases open_slice ht h with ⟨rfl, hx⟩ | ⟨a, len, cap, m, n, D, Pl, rfl, hb, hl, hm, hmm, hx, hel⟩
  · exact ⟨_, [], rfl, ⟨none, 0, rfl, Nat.le_refl _, ⟨by simp, by omega⟩, fun _ => rfl, fun i hi => absurd hi (by simp)⟩, fun x hx => by cases hx⟩
  · simp only [if_true] at hmm
    subst hmm
    simp only [Prod.mk.injEq] at hx
    obtain ⟨hd, _⟩ := hx
    have hcap : m ≤ 140737488351232 := by
      rw [hd] at hw
      have := weights_len ht hby hw
      simp at this
      omega
    obtain ⟨_, _, _, _, _, _, ke⟩ := T.c
    by_cases hz : len = 0
    · subst hz
      exact ⟨_, [], rfl, ⟨some a, m, rfl, by omega, ⟨by simp, by omega⟩, (fun hh => by cases hh), fun i hi => absurd hi (by simp)⟩, fun x hx => by cases hx⟩
    have hsp : a.spot = none := by
      obtain ⟨cs', h1, _⟩ := hel 0 (by omega)
      rw [ke] at h1
      obtain ⟨_, hl5, hg⟩ := World.cells?_some h1
      have h0 := hg 0 (by omega)
      have e0 : (a.add (0 * 5)).add 0 = a := by simp [Addr.add]
      rw [e0, List.getElem?_eq_getElem (by omega)] at h0
      exact World.cell?_spot h0
    obtain ⟨b, o, s⟩ := a
    simp only at hsp
    subst hsp
    obtain ⟨V, hV⟩ := choose_lt (α := Nd) (n := len) (p := fun i x => NdAt W b (o + i * 5) x ∧ FitsK .u32 x.imm ∧ FitsK .i64 x.op ∧ FitsK .i64 x.width ∧ FitsK .i64 x.flags ∧ ∀ a ∈ x.args, FitsK .i64 a) (fun i hi => by
      obtain ⟨cs', h1, h2⟩ := hel i (by omega)
      rw [ke] at h1
      obtain ⟨_, hl5, hg⟩ := World.cells?_some h1
      exact readN1 T (fun j hj => by rw [← add_add b o (i * 5) j]; exact hg j hj) hl5 h2 (fun k hk => by
        refine hw k ?_
        rw [hd]
        simp only [DataW.weights, ht, List.mem_cons, List.mem_append]
        exact Or.inr (Or.inl (weightsAll_mem (List.mem_map.2 ⟨i, List.mem_range.2 hi, rfl⟩) k hk))))
    have hlen : ((List.range len).map V).length = len := by simp
    have hget : ∀ i, i < len → ((List.range len).map V).getD i default = V i := fun i hi => by
      rw [List.getD_eq_getElem?_getD, List.getElem?_map, List.getElem?_range hi]; rfl
    refine ⟨_, (List.range len).map V, rfl, ⟨some ⟨b, o, none⟩, m, by rw [hlen], by omega, ⟨by omega, by omega⟩, (fun hh => by cases hh), fun i hi => ?_⟩, fun x hx => ?_⟩
    · rw [hlen] at hi
      refine ⟨b, o, rfl, cell_lt (hV i hi).1.1, ?_⟩
      show NdAt W b (o + i * 5) _
      rw [hget i hi]
      exact (hV i hi).1
    · obtain ⟨i, hi, rfl⟩ := List.mem_map.1 hx
      exact (hV i (List.mem_range.1 hi)).2
theorem fits_u32 {x : Int} (h : FitsK .u32 x) : 0 ≤ x ∧ x ≤ 4294967295 := by simpa [FitsK, Lit.wf, IntKind.min, IntKind.max, IntKind.signed, IntKind.bits] using h
theorem fits_i64 {x : Int} (h : FitsK .i64 x) : -9223372036854775808 ≤ x ∧ x ≤ 9223372036854775807 := by simpa [FitsK, Lit.wf, IntKind.min, IntKind.max, IntKind.signed, IntKind.bits] using h
end
end Go.Proofs.Ythopdfikikdcbaa
/- What the reading of a list of lists of nodes gives. -/
namespace Go.Proofs.Ythopdfikikdcbaa
open Go.RowKit Go.WideShapes Go.ChangeShapes Go.Deep
set_option linter.unusedVariables false
set_option linter.unusedSimpArgs false
section
variable {H : Type} {enc : TypeId × Value → H} {P : Program} {W : World} {base : Nat} {held : Bool}
theorem readNN {tt t e ei : TypeId} {f0 f1 f2 f3 f4 : Field} (htt : P.underlying tt = some (.slice t)) (ht : P.underlying t = some (.slice e)) (T : NodeTy P e ei f0 f1 f2 f3 f4) (hc : P.cellsOf t = 1) (hby2 : 1 ≤ P.bytesOf t) (hby : 1 ≤ P.bytesOf e) {fuel : Nat} {cs : List Value} {d : DataW H} {ps : List MemPlace}
    (h : DataW.trod enc P W base (fun _ => true) held fuel tt cs = some (d, ps)) (hw : ∀ n ∈ d.weights P tt, n ≤ reachBytes) :
    ∃ v pts, cs = [v] ∧ Ndss W v pts ∧ ∀ p ∈ pts, ∀ x ∈ p, FitsK .u32 x.imm ∧ FitsK .i64 x.op ∧ FitsK .i64 x.width ∧ FitsK .i64 x.flags ∧ ∀ a ∈ x.args, FitsK .i64 a := by
  rcases open_slice htt h with ⟨rfl, hx⟩ | ⟨a, len, cap, m, n, D, Pl, rfl, hb, hl, hm, hmm, hx, hel⟩
  · exact ⟨_, [], rfl, ⟨none, 0, rfl, Nat.le_refl _, ⟨by simp, by omega⟩, fun _ => rfl, fun i hi => absurd hi (by simp)⟩, fun x hx => by cases hx⟩
  · simp only [if_true] at hmm
    subst hmm
    simp only [Prod.mk.injEq] at hx
    obtain ⟨hd, _⟩ := hx
    have hcap : m ≤ 140737488351232 := by
      rw [hd] at hw
      have := weights_len htt hby2 hw
      simp at this
      omega
    by_cases hz : len = 0
    · subst hz
      exact ⟨_, [], rfl, ⟨some a, m, rfl, by omega, ⟨by simp, by omega⟩, (fun hh => by cases hh), fun i hi => absurd hi (by simp)⟩, fun x hx => by cases hx⟩
    have hsp : a.spot = none := by
      obtain ⟨cs', h1, _⟩ := hel 0 (by omega)
      rw [hc] at h1
      obtain ⟨_, hl5, hg⟩ := World.cells?_some h1
      have h0 := hg 0 (by omega)
      have e0 : (a.add (0 * 1)).add 0 = a := by simp [Addr.add]
      rw [e0, List.getElem?_eq_getElem (by omega)] at h0
      exact World.cell?_spot h0
    obtain ⟨b, o, s⟩ := a
    simp only at hsp
    subst hsp
    obtain ⟨V, hV⟩ := choose_lt (α := List Nd) (n := len) (p := fun i x => b < W.heap.size ∧ (∃ u, W.cell? ⟨b, o + i * 1, none⟩ = some u ∧ Nds W u x) ∧ ∀ y ∈ x, FitsK .u32 y.imm ∧ FitsK .i64 y.op ∧ FitsK .i64 y.width ∧ FitsK .i64 y.flags ∧ ∀ a ∈ y.args, FitsK .i64 a) (fun i hi => by
      obtain ⟨cs', h1, h2⟩ := hel i (by omega)
      rw [hc] at h1
      obtain ⟨_, hl5, hg⟩ := World.cells?_some h1
      obtain ⟨u, ts, hcs, hN, hwf⟩ := readN ht T hby h2 (fun k hk => by
        refine hw k ?_
        rw [hd]
        simp only [DataW.weights, htt, List.mem_cons, List.mem_append]
        exact Or.inr (Or.inl (weightsAll_mem (List.mem_map.2 ⟨i, List.mem_range.2 hi, rfl⟩) k hk)))
      have h0 := hg 0 (by omega)
      rw [add_add b o (i * 1) 0, hcs] at h0
      have h0' : W.cell? ⟨b, o + i * 1, none⟩ = some u := h0
      exact ⟨ts, cell_lt h0', ⟨u, h0', hN⟩, hwf⟩)
    have hlen : ((List.range len).map V).length = len := by simp
    have hget : ∀ i, i < len → ((List.range len).map V).getD i [] = V i := fun i hi => by
      rw [List.getD_eq_getElem?_getD, List.getElem?_map, List.getElem?_range hi]; rfl
    refine ⟨_, (List.range len).map V, rfl, ⟨some ⟨b, o, none⟩, m, by rw [hlen], by omega, ⟨by omega, by omega⟩, (fun hh => by cases hh), fun i hi => ?_⟩, fun x hx => ?_⟩
    · rw [hlen] at hi
      refine ⟨b, o, rfl, (hV i hi).1, ?_⟩
      show ∃ u, W.cell? ⟨b, o + i * 1, none⟩ = some u ∧ Nds W u _
      rw [hget i hi]
      exact (hV i hi).2.1
    · obtain ⟨i, hi, rfl⟩ := List.mem_map.1 hx
      exact (hV i (List.mem_range.1 hi)).2.2
end
end Go.Proofs.Ythopdfikikdcbaa
