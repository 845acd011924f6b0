/- Contracts of Share and Part, of the program and of the answer. -/
import Derived.Test.YthopdfikikdcbaaRs
import Derived.Test.YthopdfikikdcbaaShv
import Derived.Test.YthopdfikikdcbaaTq
namespace Go.Proofs.Ythopdfikikdcbaa
open Go.RowKit Go.Maps Wd
set_option linter.unusedVariables false
set_option linter.unusedSimpArgs false
theorem ndV_of {ts : List Nd} (h : valE ts = 0) (hI : ∀ x ∈ ts, 0 ≤ x.imm ∧ x.imm ≤ 4294967295) : ∀ k, k < ts.length → NdV (nd ts k) := fun k hk => by
  have ho := nodeOk h hk
  obtain ⟨_, _, hS, _, _⟩ := valid_facts h
  have hs := shaped_facts (okS_at hS hk)
  have hc := arV_cases (nd ts k).op
  have h1 := ho.len
  have h2 := ho.ar
  have h3 := ho.wid
  change ((nd ts k).args.length : Int) = arV (nd ts k).op at h1
  change arV (nd ts k).op ≠ -1 at h2
  change 1 ≤ (nd ts k).width ∧ (nd ts k).width ≤ 32 at h3
  exact { op := ⟨by omega, by omega⟩, width := ⟨by omega, by omega⟩, flags := hs.2.2.2.1, len := by omega, imm := hI _ (mem_getD hk) }
theorem args_le {ts : List Nd} (h : valE ts = 0) (hI : ∀ x ∈ ts, 0 ≤ x.imm ∧ x.imm ≤ 4294967295) : ∀ k, k < ts.length → (nd ts k).args.length ≤ 1000 := fun k hk => by
  have := (ndV_of h hI k hk).len
  omega
theorem ShrIs.hop {w w1 w2 : World} {v : Value} {o : List Nd} (hb : Below w.heap.size w w1) (h : ShrIs w1 w2 v o) : ShrIs w w2 v o := by
  obtain ⟨bb, W, R, fv, avs, h1, h2, h3⟩ := h
  have := hb.size
  exact ⟨bb, W, R, fv, avs, h1, fun b hb => by have := h2 b hb; omega, below_hop hb h3⟩
theorem ShrIs.bel {w w2 : World} {v : Value} {o : List Nd} (h : ShrIs w w2 v o) : Below w.heap.size w w2 := by
  obtain ⟨bb, W, R, fv, avs, h1, h2, h3⟩ := h
  exact h3
theorem ShrIs.nds {w w2 : World} {v : Value} {o : List Nd} (h : ShrIs w w2 v o) (hl : o.length ≤ 100000) : Nds w2 v o := by
  obtain ⟨bb, W, R, fv, avs, h1, h2, h3⟩ := h
  exact h1.nds hl
def shrL (ts : List Nd) : List Nd := if valE ts = 0 then shr ts (ts.length - 1) else []
def prtE (ts : List Nd) (k : Int) : Int := if valE ts = 0 then (if k < 0 ∨ (ts.length : Int) ≤ k then 4 else 0) else valE ts
def prtL (ts : List Nd) (k : Int) : List Nd := if prtE ts k = 0 then shr ts k.toNat else []
theorem Nds.nil (w : World) : Nds w (.slice none 0 0) [] := ⟨none, 0, rfl, Nat.le_refl _, ⟨by simp, by omega⟩, fun _ => rfl, fun i hi => absurd hi (by simp)⟩
section
variable {ts : List Nd} {tv : Value} {w : World}
theorem share_last (h : valE ts = 0) (hI : ∀ x ∈ ts, 0 ≤ x.imm ∧ x.imm ≤ 4294967295) (hts : Nds w tv ts) :
    Calls Try.prog 53 #[tv, .int .i64 ((ts.length : Int) - 1)] w fun e w' => ∃ v, e = .returned v ∧ ShrIs w w' v (shr ts (ts.length - 1)) := by
  obtain ⟨h1, h2, _⟩ := valid_facts h
  have hc := share_any ts tv w (ts.length - 1) hts (valid_down h) (ndV_of h hI) (by omega) (by omega)
  rwa [show ((ts.length - 1 : Nat) : Int) = (ts.length : Int) - 1 by omega] at hc
theorem rShared_last (h : valE ts = 0) (hI : ∀ x ∈ ts, 0 ≤ x.imm ∧ x.imm ≤ 4294967295) (hts : Nds w tv ts) :
    Calls Try.prog 54 #[tv, .int .i64 ((ts.length : Int) - 1)] w fun e w' => ∃ v, e = .returned v ∧ Nds w' v (shr ts (ts.length - 1)) ∧ Below w.heap.size w w' := by
  obtain ⟨h1, h2, _⟩ := valid_facts h
  have hc := rShared ts tv w (ts.length - 1) hts (valid_down h) (by omega) (by omega) (args_le h hI)
  rwa [show ((ts.length - 1 : Nat) : Int) = (ts.length : Int) - 1 by omega] at hc
end
set_option maxRecDepth 100000 in
set_option maxHeartbeats 1000000 in
theorem pShare_ok (ts : List Nd) (tv : Value) (w : World) (h : valE ts = 0) (hI : ∀ x ∈ ts, 0 ≤ x.imm ∧ x.imm ≤ 4294967295) (hts : Nds w tv ts) :
    Calls Try.prog 26 #[tv] w fun e w' => ∃ v, e = .returned (.tuple #[v, .int .i64 0]) ∧ ShrIs w w' v (shr ts (ts.length - 1)) := by
  obtain ⟨h1, h2, _⟩ := valid_facts h
  have HT := Lib.hid hts
  have HE := Lib.hid h
  have HS := Lib.hid (fun W (hb : Below w.heap.size w W) => share_last h hI (hts.stays hb))
  have HP := Lib.hid (pValidate ts tv w hts hI)
  obtain ⟨ta, tc, rfl, ht1, ht2⟩ := hts.shape
  clear hts h hI
  go_enter Try.func26, Try.ntmps26
  go_wp2_with fail
  refine (HP.out).mono ?_
  rintro e w1 ⟨rfl, hb1⟩
  rw [HE.out]
  have HB1 := Lib.hid hb1
  clear hb1
  go_wp2_with fail
  refine (HS.out _ HB1.out).mono ?_
  rintro e w2 ⟨v, rfl, hs⟩
  have HSS := Lib.hid hs
  clear hs
  go_wp2_with fail
  go_ret2
  exact ⟨v, rfl, HSS.out.hop HB1.out⟩
set_option maxRecDepth 100000 in
set_option maxHeartbeats 1000000 in
theorem pShare_no (ts : List Nd) (tv : Value) (w : World) (h : valE ts ≠ 0) (hI : ∀ x ∈ ts, 0 ≤ x.imm ∧ x.imm ≤ 4294967295) (hts : Nds w tv ts) :
    Calls Try.prog 26 #[tv] w fun e w' => e = .returned (.tuple #[.slice none 0 0, .int .i64 (valE ts)]) ∧ Below w.heap.size w w' := by
  have HP := Lib.hid (pValidate ts tv w hts hI)
  clear hts hI
  have hne : (valE ts != 0) = true := by simpa using h
  clear h
  go_enter Try.func26, Try.ntmps26
  go_wp2_with fail
  refine (HP.out).mono ?_
  rintro e w1 ⟨rfl, hb1⟩
  have HB1 := Lib.hid hb1
  clear hb1
  go_wp2_with fail
  go_ret2
  exact ⟨rfl, HB1.out⟩
set_option maxRecDepth 100000 in
set_option maxHeartbeats 1000000 in
theorem rShare (ts : List Nd) (tv : Value) (w : World) (hI : ∀ x ∈ ts, 0 ≤ x.imm ∧ x.imm ≤ 4294967295) (hts : Nds w tv ts) :
    Calls Try.prog 27 #[tv] w fun e w' => ∃ v, e = .returned (.tuple #[v, .int .i64 (valE ts)]) ∧ Nds w' v (shrL ts) ∧ Below w.heap.size w w' := by
  have HT := Lib.hid hts
  have HP := Lib.hid (rValidate ts tv w hts hI)
  by_cases h : valE ts = 0
  · obtain ⟨h1, h2, _⟩ := valid_facts h
    have HE := Lib.hid h
    have HL : Hid (shrL ts = shr ts (ts.length - 1)) := if_pos h
    rw [HE.out]
    have HS := Lib.hid (fun W (hb : Below w.heap.size w W) => rShared_last h hI (hts.stays hb))
    obtain ⟨ta, tc, rfl, ht1, ht2⟩ := hts.shape
    clear hts h hI
    go_enter Try.func27, Try.ntmps27
    go_wp2_with fail
    refine (HP.out).mono ?_
    rintro e w1 ⟨rfl, hb1⟩
    rw [HE.out]
    have HB1 := Lib.hid hb1
    clear hb1
    go_wp2_with fail
    refine (HS.out _ HB1.out).mono ?_
    rintro e w2 ⟨v, rfl, hs, hb2⟩
    have HSS := Lib.hid hs
    have HB2 := Lib.hid hb2
    clear hs hb2
    go_wp2_with fail
    go_ret2
    exact ⟨v, rfl, by rw [HL.out]; exact HSS.out, below_hop HB1.out HB2.out⟩
  · have HL : Hid (shrL ts = []) := if_neg h
    have hne : (valE ts != 0) = true := by simpa using h
    clear h hts hI
    go_enter Try.func27, Try.ntmps27
    go_wp2_with fail
    refine (HP.out).mono ?_
    rintro e w1 ⟨rfl, hb1⟩
    have HB1 := Lib.hid hb1
    clear hb1
    go_wp2_with fail
    go_ret2
    exact ⟨_, rfl, by rw [HL.out]; exact Nds.nil _, HB1.out⟩
-- Part.
set_option maxRecDepth 100000 in
set_option maxHeartbeats 1000000 in
theorem pPart (ts : List Nd) (tv : Value) (k : Int) (w : World) (hI : ∀ x ∈ ts, 0 ≤ x.imm ∧ x.imm ≤ 4294967295) (hts : Nds w tv ts) :
    Calls Try.prog 28 #[tv, .int .i64 k] w fun e w' => ∃ v, e = .returned (.tuple #[v, .int .i64 (prtE ts k)]) ∧ Nds w' v (prtL ts k) ∧ Below w.heap.size w w' := by
  have HT := Lib.hid hts
  have HP := Lib.hid (pValidate ts tv w hts hI)
  by_cases h : valE ts = 0
  · obtain ⟨h1, h2, _⟩ := valid_facts h
    have HE := Lib.hid h
    by_cases hk : k < 0 ∨ (ts.length : Int) ≤ k
    · have HPE : Hid (prtE ts k = 4) := by show _ = _; unfold prtE; rw [if_pos h, if_pos hk]
      have HL : Hid (prtL ts k = []) := by show _ = _; unfold prtL; rw [HPE.out]; rfl
      rw [HPE.out]
      obtain ⟨ta, tc, rfl, ht1, ht2⟩ := hts.shape
      clear hts h hI
      rcases hk with hk | hk
      · have hk1 : decide (k < 0) = true := decide_eq_true hk
        go_enter Try.func28, Try.ntmps28
        go_wp2_with fail
        refine (HP.out).mono ?_
        rintro e w1 ⟨rfl, hb1⟩
        rw [HE.out]
        have HB1 := Lib.hid hb1
        clear hb1
        go_wp2_with fail
        go_ret2
        exact ⟨_, rfl, by rw [HL.out]; exact Nds.nil _, HB1.out⟩
      · have hk1 : decide (k < 0) = false := decide_eq_false (by omega)
        have hk2 : decide ((ts.length : Int) ≤ k) = true := decide_eq_true hk
        go_enter Try.func28, Try.ntmps28
        go_wp2_with fail
        refine (HP.out).mono ?_
        rintro e w1 ⟨rfl, hb1⟩
        rw [HE.out]
        have HB1 := Lib.hid hb1
        clear hb1
        go_wp2_with fail
        go_ret2
        exact ⟨_, rfl, by rw [HL.out]; exact Nds.nil _, HB1.out⟩
    · have HPE : Hid (prtE ts k = 0) := by show _ = _; unfold prtE; rw [if_pos h, if_neg hk]
      have HL : Hid (prtL ts k = shr ts k.toNat) := by show _ = _; unfold prtL; rw [HPE.out]; rfl
      rw [HPE.out]
      obtain ⟨j, rfl⟩ := Int.eq_ofNat_of_zero_le (show 0 ≤ k by omega)
      have hj : j < ts.length := by omega
      have HS := Lib.hid (fun W (hb : Below w.heap.size w W) => share_any ts tv W j (hts.stays hb) (valid_down h) (ndV_of h hI) hj (by omega))
      have HSL := Lib.hid (shr_len (valid_down h) hj)
      obtain ⟨ta, tc, rfl, ht1, ht2⟩ := hts.shape
      have hk1 : decide ((j : Int) < 0) = false := decide_eq_false (by omega)
      have hk2 : decide ((ts.length : Int) ≤ j) = false := decide_eq_false (by omega)
      clear hts h hI hk
      go_enter Try.func28, Try.ntmps28
      go_wp2_with fail
      refine (HP.out).mono ?_
      rintro e w1 ⟨rfl, hb1⟩
      rw [HE.out]
      have HB1 := Lib.hid hb1
      clear hb1
      go_wp2_with fail
      refine (HS.out _ HB1.out).mono ?_
      rintro e w2 ⟨v, rfl, hs⟩
      have HSS := Lib.hid hs
      skip
      clear hs
      go_wp2_with fail
      go_ret2
      exact ⟨v, rfl, by rw [HL.out, Int.toNat_natCast]; exact HSS.out.nds (by have := HSL.out; omega), below_hop HB1.out HSS.out.bel⟩
  · have HPE : Hid (prtE ts k = valE ts) := if_neg h
    have HL : Hid (prtL ts k = []) := by show _ = _; unfold prtL; rw [HPE.out, if_neg h]
    rw [HPE.out]
    have hne : (valE ts != 0) = true := by simpa using h
    clear h hts hI
    go_enter Try.func28, Try.ntmps28
    go_wp2_with fail
    refine (HP.out).mono ?_
    rintro e w1 ⟨rfl, hb1⟩
    have HB1 := Lib.hid hb1
    clear hb1
    go_wp2_with fail
    go_ret2
    exact ⟨_, rfl, by rw [HL.out]; exact Nds.nil _, HB1.out⟩
-- Part.
set_option maxRecDepth 100000 in
set_option maxHeartbeats 1000000 in
theorem rPart (ts : List Nd) (tv : Value) (k : Int) (w : World) (hI : ∀ x ∈ ts, 0 ≤ x.imm ∧ x.imm ≤ 4294967295) (hts : Nds w tv ts) :
    Calls Try.prog 29 #[tv, .int .i64 k] w fun e w' => ∃ v, e = .returned (.tuple #[v, .int .i64 (prtE ts k)]) ∧ Nds w' v (prtL ts k) ∧ Below w.heap.size w w' := by
  have HT := Lib.hid hts
  have HP := Lib.hid (rValidate ts tv w hts hI)
  by_cases h : valE ts = 0
  · obtain ⟨h1, h2, _⟩ := valid_facts h
    have HE := Lib.hid h
    by_cases hk : k < 0 ∨ (ts.length : Int) ≤ k
    · have HPE : Hid (prtE ts k = 4) := by show _ = _; unfold prtE; rw [if_pos h, if_pos hk]
      have HL : Hid (prtL ts k = []) := by show _ = _; unfold prtL; rw [HPE.out]; rfl
      rw [HPE.out]
      obtain ⟨ta, tc, rfl, ht1, ht2⟩ := hts.shape
      clear hts h hI
      rcases hk with hk | hk
      · have hk1 : decide (k < 0) = true := decide_eq_true hk
        go_enter Try.func29, Try.ntmps29
        go_wp2_with fail
        refine (HP.out).mono ?_
        rintro e w1 ⟨rfl, hb1⟩
        rw [HE.out]
        have HB1 := Lib.hid hb1
        clear hb1
        go_wp2_with fail
        go_ret2
        exact ⟨_, rfl, by rw [HL.out]; exact Nds.nil _, HB1.out⟩
      · have hk1 : decide (k < 0) = false := decide_eq_false (by omega)
        have hk2 : decide ((ts.length : Int) ≤ k) = true := decide_eq_true hk
        go_enter Try.func29, Try.ntmps29
        go_wp2_with fail
        refine (HP.out).mono ?_
        rintro e w1 ⟨rfl, hb1⟩
        rw [HE.out]
        have HB1 := Lib.hid hb1
        clear hb1
        go_wp2_with fail
        go_ret2
        exact ⟨_, rfl, by rw [HL.out]; exact Nds.nil _, HB1.out⟩
    · have HPE : Hid (prtE ts k = 0) := by show _ = _; unfold prtE; rw [if_pos h, if_neg hk]
      have HL : Hid (prtL ts k = shr ts k.toNat) := by show _ = _; unfold prtL; rw [HPE.out]; rfl
      rw [HPE.out]
      obtain ⟨j, rfl⟩ := Int.eq_ofNat_of_zero_le (show 0 ≤ k by omega)
      have hj : j < ts.length := by omega
      have HS := Lib.hid (fun W (hb : Below w.heap.size w W) => rShared ts tv W j (hts.stays hb) (valid_down h) hj (by omega) (args_le h hI))
      skip
      obtain ⟨ta, tc, rfl, ht1, ht2⟩ := hts.shape
      have hk1 : decide ((j : Int) < 0) = false := decide_eq_false (by omega)
      have hk2 : decide ((ts.length : Int) ≤ j) = false := decide_eq_false (by omega)
      clear hts h hI hk
      go_enter Try.func29, Try.ntmps29
      go_wp2_with fail
      refine (HP.out).mono ?_
      rintro e w1 ⟨rfl, hb1⟩
      rw [HE.out]
      have HB1 := Lib.hid hb1
      clear hb1
      go_wp2_with fail
      refine (HS.out _ HB1.out).mono ?_
      rintro e w2 ⟨v, rfl, hs, hb2⟩
      have HSS := Lib.hid hs
      have HB2 := Lib.hid hb2; clear hb2
      clear hs
      go_wp2_with fail
      go_ret2
      exact ⟨v, rfl, by rw [HL.out, Int.toNat_natCast]; exact HSS.out, below_hop HB1.out HB2.out⟩
  · have HPE : Hid (prtE ts k = valE ts) := if_neg h
    have HL : Hid (prtL ts k = []) := by show _ = _; unfold prtL; rw [HPE.out, if_neg h]
    rw [HPE.out]
    have hne : (valE ts != 0) = true := by simpa using h
    clear h hts hI
    go_enter Try.func29, Try.ntmps29
    go_wp2_with fail
    refine (HP.out).mono ?_
    rintro e w1 ⟨rfl, hb1⟩
    have HB1 := Lib.hid hb1
    clear hb1
    go_wp2_with fail
    go_ret2
    exact ⟨_, rfl, by rw [HL.out]; exact Nds.nil _, HB1.out⟩
end Go.Proofs.Ythopdfikikdcbaa
