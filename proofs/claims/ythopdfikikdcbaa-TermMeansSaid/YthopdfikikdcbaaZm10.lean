/- Walk of Put of the answer. -/
import Derived.BigQuiet
import Derived.Deep.QuietTactic
import Derived.IntWalk
import Derived.Deep.DeepMust
import Derived.Test.YthopdfikikdcbaaRows
import Derived.WalkKit
import Derived.ProofKit
import Derived.OpenShut
import Derived.Below
import Derived.ChangeSame
import Derived.Lib.SmallJoins
import Derived.Deep.Slices
import Derived.SizedLaws
import Derived.DataReads
import Derived.ChangeSlices
import Derived.Test.YthopdfikikdcbaaZm1
import Derived.Test.YthopdfikikdcbaaZm8
import Derived.Test.YthopdfikikdcbaaZm9
namespace Go.Proofs.Ythopdfikikdcbaa
open Go.RowKit Go.Maps Wd
set_option linter.unusedVariables false
set_option linter.unusedSimpArgs false
section
variable {ts us : List Nd} {ta ua : Option Addr} {tc uc : Nat} {w : World}
set_option maxRecDepth 100000 in
set_option maxHeartbeats 2000000 in
theorem rPut_t (hts : Nds w (.slice ta ts.length tc) ts) (hus : Nds w (.slice ua us.length uc) us) (hi : ∀ x ∈ ts, 0 ≤ x.imm ∧ x.imm ≤ 4294967295) (hi' : ∀ x ∈ us, 0 ≤ x.imm ∧ x.imm ≤ 4294967295) (v : Int) (h : valE ts ≠ 0) :
    Calls Try.prog 42 #[.slice ta ts.length tc, .int .i64 v, .slice ua us.length uc] w fun e w' => e = .returned (.tuple #[.slice none 0 0, .int .i64 (valE ts)]) ∧ Below w.heap.size w w' := by
  have hne : (valE ts != 0) = true := by simpa using h
  clear h
  have HW := Lib.hid (rValidate ts (.slice ta ts.length tc) w hts hi)
  have HTS := Lib.hid hts
  have HUS := Lib.hid hus
  have HI := Lib.hid hi
  have HI' := Lib.hid hi'
  obtain ⟨_, _, _, _, ht2⟩ := hts.shape
  obtain ⟨_, _, _, _, hu2⟩ := hus.shape
  clear hts hus hi hi'
  go_enter Try.func42, Try.ntmps42
  go_wp2_with fail
  refine HW.out.mono ?_
  rintro e w1 ⟨rfl, hb1⟩
  have HB1 := Lib.hid hb1
  clear hb1
  go_wp2_with fail
  go_ret2
  exact ⟨rfl, HB1.out⟩
set_option maxRecDepth 100000 in
set_option maxHeartbeats 2000000 in
theorem rPut_u (hts : Nds w (.slice ta ts.length tc) ts) (hus : Nds w (.slice ua us.length uc) us) (hi : ∀ x ∈ ts, 0 ≤ x.imm ∧ x.imm ≤ 4294967295) (hi' : ∀ x ∈ us, 0 ≤ x.imm ∧ x.imm ≤ 4294967295) (v : Int) (h : valE ts = 0) (hu : valE us ≠ 0) :
    Calls Try.prog 42 #[.slice ta ts.length tc, .int .i64 v, .slice ua us.length uc] w fun e w' => e = .returned (.tuple #[.slice none 0 0, .int .i64 (valE us)]) ∧ Below w.heap.size w w' := by
  have HV0 := Lib.hid h
  have hne : (valE us != 0) = true := by simpa using hu
  clear h hu
  have HW := Lib.hid (rValidate ts (.slice ta ts.length tc) w hts hi)
  have HTS := Lib.hid hts
  have HUS := Lib.hid hus
  have HI := Lib.hid hi
  have HI' := Lib.hid hi'
  obtain ⟨_, _, _, _, ht2⟩ := hts.shape
  obtain ⟨_, _, _, _, hu2⟩ := hus.shape
  clear hts hus hi hi'
  go_enter Try.func42, Try.ntmps42
  go_wp2_with fail
  refine HW.out.mono ?_
  rintro e w1 ⟨rfl, hb1⟩
  rw [HV0.out]
  have HB1 := Lib.hid hb1
  clear hb1
  have HVU := Lib.hid (rValidate us (.slice ua us.length uc) w1 (HUS.out.stays HB1.out) HI'.out)
  go_wp2_with fail
  refine HVU.out.mono ?_
  rintro e w2 ⟨rfl, hb3⟩
  have HB3 := Lib.hid (below_hop HB1.out hb3)
  clear hb3
  go_wp2_with fail
  go_ret2
  exact ⟨rfl, HB3.out⟩
set_option maxRecDepth 100000 in
set_option maxHeartbeats 2000000 in
theorem rPut_v1 (hts : Nds w (.slice ta ts.length tc) ts) (hus : Nds w (.slice ua us.length uc) us) (hi : ∀ x ∈ ts, 0 ≤ x.imm ∧ x.imm ≤ 4294967295) (hi' : ∀ x ∈ us, 0 ≤ x.imm ∧ x.imm ≤ 4294967295) (v : Int) (h : valE ts = 0) (hu : valE us = 0) (hv : v < 0) :
    Calls Try.prog 42 #[.slice ta ts.length tc, .int .i64 v, .slice ua us.length uc] w fun e w' => e = .returned (.tuple #[.slice none 0 0, .int .i64 1]) ∧ Below w.heap.size w w' := by
  have HV0 := Lib.hid h
  have HVU0 := Lib.hid hu
  have hv1 : decide (v < 0) = true := decide_eq_true hv
  clear h hu hv
  have HW := Lib.hid (rValidate ts (.slice ta ts.length tc) w hts hi)
  have HTS := Lib.hid hts
  have HUS := Lib.hid hus
  have HI := Lib.hid hi
  have HI' := Lib.hid hi'
  obtain ⟨_, _, _, _, ht2⟩ := hts.shape
  obtain ⟨_, _, _, _, hu2⟩ := hus.shape
  clear hts hus hi hi'
  go_enter Try.func42, Try.ntmps42
  go_wp2_with fail
  refine HW.out.mono ?_
  rintro e w1 ⟨rfl, hb1⟩
  rw [HV0.out]
  have HB1 := Lib.hid hb1
  clear hb1
  have HVU := Lib.hid (rValidate us (.slice ua us.length uc) w1 (HUS.out.stays HB1.out) HI'.out)
  go_wp2_with fail
  refine HVU.out.mono ?_
  rintro e w2 ⟨rfl, hb3⟩
  rw [HVU0.out]
  have HB3 := Lib.hid (below_hop HB1.out hb3)
  clear hb3
  go_wp2_with fail
  go_ret2
  exact ⟨rfl, HB3.out⟩
set_option maxRecDepth 100000 in
set_option maxHeartbeats 2000000 in
theorem rPut_v2 (hts : Nds w (.slice ta ts.length tc) ts) (hus : Nds w (.slice ua us.length uc) us) (hi : ∀ x ∈ ts, 0 ≤ x.imm ∧ x.imm ≤ 4294967295) (hi' : ∀ x ∈ us, 0 ≤ x.imm ∧ x.imm ≤ 4294967295) (v : Int) (h : valE ts = 0) (hu : valE us = 0) (hv : 4 ≤ v) :
    Calls Try.prog 42 #[.slice ta ts.length tc, .int .i64 v, .slice ua us.length uc] w fun e w' => e = .returned (.tuple #[.slice none 0 0, .int .i64 1]) ∧ Below w.heap.size w w' := by
  have HV0 := Lib.hid h
  have HVU0 := Lib.hid hu
  have hv1 : decide (v < 0) = false := decide_eq_false (by omega)
  have hv2 : decide (4 ≤ v) = true := decide_eq_true hv
  clear h hu hv
  have HW := Lib.hid (rValidate ts (.slice ta ts.length tc) w hts hi)
  have HTS := Lib.hid hts
  have HUS := Lib.hid hus
  have HI := Lib.hid hi
  have HI' := Lib.hid hi'
  obtain ⟨_, _, _, _, ht2⟩ := hts.shape
  obtain ⟨_, _, _, _, hu2⟩ := hus.shape
  clear hts hus hi hi'
  go_enter Try.func42, Try.ntmps42
  go_wp2_with fail
  refine HW.out.mono ?_
  rintro e w1 ⟨rfl, hb1⟩
  rw [HV0.out]
  have HB1 := Lib.hid hb1
  clear hb1
  have HVU := Lib.hid (rValidate us (.slice ua us.length uc) w1 (HUS.out.stays HB1.out) HI'.out)
  go_wp2_with fail
  refine HVU.out.mono ?_
  rintro e w2 ⟨rfl, hb3⟩
  rw [HVU0.out]
  have HB3 := Lib.hid (below_hop HB1.out hb3)
  clear hb3
  go_wp2_with fail
  go_ret2
  exact ⟨rfl, HB3.out⟩
set_option maxRecDepth 100000 in
set_option maxHeartbeats 2000000 in
theorem rPut_0 (hts : Nds w (.slice ta ts.length tc) ts) (hus : Nds w (.slice ua us.length uc) us) (hi : ∀ x ∈ ts, 0 ≤ x.imm ∧ x.imm ≤ 4294967295) (hi' : ∀ x ∈ us, 0 ≤ x.imm ∧ x.imm ≤ 4294967295) (v : Nat) (h : valE ts = 0) (hu : valE us = 0) (hv4 : v < 4) (hw : (widL ts).getD v 0 = 0) :
    Calls Try.prog 42 #[.slice ta ts.length tc, .int .i64 (v : Int), .slice ua us.length uc] w fun e w' => e = .returned (.tuple #[.slice none 0 0, .int .i64 4]) ∧ Below w.heap.size w w' := by
  have HV0 := Lib.hid h
  have HVU0 := Lib.hid hu
  have hv1 : decide ((v : Int) < 0) = false := decide_eq_false (by omega)
  have hv2 : decide (4 ≤ (v : Int)) = false := decide_eq_false (by omega)
  have HW0 := Lib.hid hw
  clear h hu hw
  have HW := Lib.hid (rValidate ts (.slice ta ts.length tc) w hts hi)
  have HTS := Lib.hid hts
  have HUS := Lib.hid hus
  have HI := Lib.hid hi
  have HI' := Lib.hid hi'
  obtain ⟨_, _, _, _, ht2⟩ := hts.shape
  obtain ⟨_, _, _, _, hu2⟩ := hus.shape
  clear hts hus hi hi'
  go_enter Try.func42, Try.ntmps42
  go_wp2_with fail
  refine HW.out.mono ?_
  rintro e w1 ⟨rfl, hb1⟩
  rw [HV0.out]
  have HB1 := Lib.hid hb1
  clear hb1
  have HVU := Lib.hid (rValidate us (.slice ua us.length uc) w1 (HUS.out.stays HB1.out) HI'.out)
  go_wp2_with fail
  refine HVU.out.mono ?_
  rintro e w2 ⟨rfl, hb3⟩
  rw [HVU0.out]
  have HB3 := Lib.hid (below_hop HB1.out hb3)
  clear hb3
  have HWD := Lib.hid (rwidths_any ts (.slice ta ts.length tc) w2 (HTS.out.stays HB3.out) (fun x hx => ⟨(HI.out x hx).1, fun h33 => by
    obtain ⟨_, _, hS, _, _⟩ := valid_facts HV0.out
    obtain ⟨i, hi, rfl⟩ := List.getElem_of_mem hx
    have hs := shaped_facts (okS_at hS hi)
    rw [List.getD_eq_getElem?_getD, List.getElem?_eq_getElem hi] at hs
    exact hs.2.2.2.2.2.1 h33⟩))
  rw [rwl_wmap (widL_ok HV0.out).1] at HWD
  go_wp2_with fail
  refine HWD.out.mono ?_
  rintro e w3 ⟨wv, rfl, hwv, hb4⟩
  have HB4 := Lib.hid (below_hop HB3.out hb4)
  clear hb4
  have hwl := (widL_ok HV0.out).2
  obtain ⟨wa, wc, rfl, _⟩ := hwv.shape
  obtain ⟨wb, wo, rfl, hwb, hwc⟩ := hwv.row (by omega)
  have d0 := hwc v (by omega)
  clear hwv hwc
  rw [hwl]
  clear hwl
  rw [HW0.out] at d0
  go_wp2_with fail
  go_ret2
  exact ⟨rfl, HB4.out⟩
set_option maxRecDepth 100000 in
set_option maxHeartbeats 2000000 in
theorem rPut_w (hts : Nds w (.slice ta ts.length tc) ts) (hus : Nds w (.slice ua us.length uc) us) (hi : ∀ x ∈ ts, 0 ≤ x.imm ∧ x.imm ≤ 4294967295) (hi' : ∀ x ∈ us, 0 ≤ x.imm ∧ x.imm ≤ 4294967295) (v : Nat) (h : valE ts = 0) (hu : valE us = 0) (hv4 : v < 4) (hw : (widL ts).getD v 0 ≠ 0) (hr : (nd us (us.length - 1)).width ≠ (widL ts).getD v 0) :
    Calls Try.prog 42 #[.slice ta ts.length tc, .int .i64 (v : Int), .slice ua us.length uc] w fun e w' => e = .returned (.tuple #[.slice none 0 0, .int .i64 6]) ∧ Below w.heap.size w w' := by
  have HV0 := Lib.hid h
  have HVU0 := Lib.hid hu
  have hv1 : decide ((v : Int) < 0) = false := decide_eq_false (by omega)
  have hv2 : decide (4 ≤ (v : Int)) = false := decide_eq_false (by omega)
  obtain ⟨ww, HWE⟩ : ∃ ww, Hid ((widL ts).getD v 0 = ww) := ⟨_, rfl⟩
  rw [HWE.out] at hw hr
  have hw0 : (ww == 0) = false := by simpa using hw
  have hr0 : ((nd us (us.length - 1)).width != ww) = true := by simpa using hr
  clear h hu hw hr
  have HW := Lib.hid (rValidate ts (.slice ta ts.length tc) w hts hi)
  have HTS := Lib.hid hts
  have HUS := Lib.hid hus
  have HI := Lib.hid hi
  have HI' := Lib.hid hi'
  obtain ⟨_, _, _, _, ht2⟩ := hts.shape
  obtain ⟨_, _, _, _, hu2⟩ := hus.shape
  clear hts hus hi hi'
  go_enter Try.func42, Try.ntmps42
  go_wp2_with fail
  refine HW.out.mono ?_
  rintro e w1 ⟨rfl, hb1⟩
  rw [HV0.out]
  have HB1 := Lib.hid hb1
  clear hb1
  have HVU := Lib.hid (rValidate us (.slice ua us.length uc) w1 (HUS.out.stays HB1.out) HI'.out)
  go_wp2_with fail
  refine HVU.out.mono ?_
  rintro e w2 ⟨rfl, hb3⟩
  rw [HVU0.out]
  have HB3 := Lib.hid (below_hop HB1.out hb3)
  clear hb3
  have HWD := Lib.hid (rwidths_any ts (.slice ta ts.length tc) w2 (HTS.out.stays HB3.out) (fun x hx => ⟨(HI.out x hx).1, fun h33 => by
    obtain ⟨_, _, hS, _, _⟩ := valid_facts HV0.out
    obtain ⟨i, hi, rfl⟩ := List.getElem_of_mem hx
    have hs := shaped_facts (okS_at hS hi)
    rw [List.getD_eq_getElem?_getD, List.getElem?_eq_getElem hi] at hs
    exact hs.2.2.2.2.2.1 h33⟩))
  rw [rwl_wmap (widL_ok HV0.out).1] at HWD
  go_wp2_with fail
  refine HWD.out.mono ?_
  rintro e w3 ⟨wv, rfl, hwv, hb4⟩
  have HB4 := Lib.hid (below_hop HB3.out hb4)
  clear hb4
  have hwl := (widL_ok HV0.out).2
  obtain ⟨wa, wc, rfl, _⟩ := hwv.shape
  obtain ⟨wb, wo, rfl, hwb, hwc⟩ := hwv.row (by omega)
  have d0 := hwc v (by omega)
  clear hwv hwc
  rw [hwl]
  clear hwl
  obtain ⟨u1, u2, _⟩ := valid_facts HVU0.out
  obtain ⟨ub, uq, ucc, uav, e', _, hub, _, _, g1, _⟩ := (HUS.out.stays HB4.out).at2 (Below.refl _ _) (show us.length - 1 < us.length by omega)
  cases e'
  change _ = some (Value.int .i64 (nd us (us.length - 1)).width) at g1
  rw [HWE.out] at d0
  generalize (nd us (us.length - 1)).width = uw at *
  go_wp2_with fail
  go_ret2
  exact ⟨rfl, HB4.out⟩
set_option maxRecDepth 100000 in
set_option maxHeartbeats 2000000 in
theorem rPut_f (hts : Nds w (.slice ta ts.length tc) ts) (hus : Nds w (.slice ua us.length uc) us) (hi : ∀ x ∈ ts, 0 ≤ x.imm ∧ x.imm ≤ 4294967295) (hi' : ∀ x ∈ us, 0 ≤ x.imm ∧ x.imm ≤ 4294967295) (v : Nat) (h : valE ts = 0) (hu : valE us = 0) (hv4 : v < 4) (hw : (widL ts).getD v 0 ≠ 0) (hr : (nd us (us.length - 1)).width = (widL ts).getD v 0) :
    Calls Try.prog 42 #[.slice ta ts.length tc, .int .i64 (v : Int), .slice ua us.length uc] w fun e w' => ∃ x, e = .returned (.tuple #[x, .int .i64 (putF (v : Int) ts us)]) ∧ Nds w' x (putFL (v : Int) ts us) ∧ Below w.heap.size w w' := by
  have HV0 := Lib.hid h
  have HVU0 := Lib.hid hu
  have hv1 : decide ((v : Int) < 0) = false := decide_eq_false (by omega)
  have hv2 : decide (4 ≤ (v : Int)) = false := decide_eq_false (by omega)
  have HOV := Lib.hid (outP_var h hu hi hi' hr)
  have HOSH := Lib.hid (outP_shaped (v := v) h hu hi hr)
  have HOL := Lib.hid (outP_len (v : Int) h hu)
  obtain ⟨ww, HWE⟩ : ∃ ww, Hid ((widL ts).getD v 0 = ww) := ⟨_, rfl⟩
  rw [HWE.out] at hw hr
  have hw0 : (ww == 0) = false := by simpa using hw
  have hr0 : ((nd us (us.length - 1)).width != ww) = false := by simpa using hr
  clear h hu hw hr
  have HW := Lib.hid (rValidate ts (.slice ta ts.length tc) w hts hi)
  have HTS := Lib.hid hts
  have HUS := Lib.hid hus
  have HI := Lib.hid hi
  have HI' := Lib.hid hi'
  obtain ⟨_, _, _, _, ht2⟩ := hts.shape
  obtain ⟨_, _, _, _, hu2⟩ := hus.shape
  clear hts hus hi hi'
  go_enter Try.func42, Try.ntmps42
  go_wp2_with fail
  refine HW.out.mono ?_
  rintro e w1 ⟨rfl, hb1⟩
  rw [HV0.out]
  have HB1 := Lib.hid hb1
  clear hb1
  have HVU := Lib.hid (rValidate us (.slice ua us.length uc) w1 (HUS.out.stays HB1.out) HI'.out)
  go_wp2_with fail
  refine HVU.out.mono ?_
  rintro e w2 ⟨rfl, hb3⟩
  rw [HVU0.out]
  have HB3 := Lib.hid (below_hop HB1.out hb3)
  clear hb3
  have HWD := Lib.hid (rwidths_any ts (.slice ta ts.length tc) w2 (HTS.out.stays HB3.out) (fun x hx => ⟨(HI.out x hx).1, fun h33 => by
    obtain ⟨_, _, hS, _, _⟩ := valid_facts HV0.out
    obtain ⟨i, hi, rfl⟩ := List.getElem_of_mem hx
    have hs := shaped_facts (okS_at hS hi)
    rw [List.getD_eq_getElem?_getD, List.getElem?_eq_getElem hi] at hs
    exact hs.2.2.2.2.2.1 h33⟩))
  rw [rwl_wmap (widL_ok HV0.out).1] at HWD
  go_wp2_with fail
  refine HWD.out.mono ?_
  rintro e w3 ⟨wv, rfl, hwv, hb4⟩
  have HB4 := Lib.hid (below_hop HB3.out hb4)
  clear hb4
  have hwl := (widL_ok HV0.out).2
  obtain ⟨wa, wc, rfl, _⟩ := hwv.shape
  obtain ⟨wb, wo, rfl, hwb, hwc⟩ := hwv.row (by omega)
  have d0 := hwc v (by omega)
  clear hwv hwc
  rw [hwl]
  clear hwl
  obtain ⟨u1, u2, _⟩ := valid_facts HVU0.out
  obtain ⟨ub, uq, ucc, uav, e', _, hub, _, _, g1, _⟩ := (HUS.out.stays HB4.out).at2 (Below.refl _ _) (show us.length - 1 < us.length by omega)
  cases e'
  change _ = some (Value.int .i64 (nd us (us.length - 1)).width) at g1
  rw [HWE.out] at d0
  generalize (nd us (us.length - 1)).width = uw at *
  obtain ⟨t1, t2, _⟩ := valid_facts HV0.out
  have HPT := Lib.hid (rput ts us (v : Int) (.slice ta ts.length tc) _ w3 (HTS.out.stays HB4.out) (HUS.out.stays HB4.out) (valid_down HV0.out) (valid_down HVU0.out) (by omega) (by omega) (by omega) (by omega) (args_le HV0.out HI.out) (args_le HVU0.out HI'.out) HI.out)
  have hol : (outP (v : Int) ts us).length ≤ 600 := HOL.out
  obtain ⟨os, HOE⟩ : ∃ os, Hid (outP (v : Int) ts us = os) := ⟨_, rfl⟩
  rw [HOE.out] at HPT hol
  go_wp2_with fail
  refine HPT.out.mono ?_
  rintro e w5 ⟨ov, rfl, hov, hb5⟩
  have HN := Lib.hid hov
  have HB5 := Lib.hid (below_hop HB4.out hb5)
  obtain ⟨oa, oc, rfl, _⟩ := hov.shape
  clear hov hb5 d0 g1 HPT
  go_wp2_with fail
  go_loopw [12] (fun i wr => ∃ j : Nat, j ≤ os.length ∧ i = .int .i64 j ∧ Hid (∀ k, k < j → ∀ i, i < k → clash (os.getD i default) (os.getD k default) = false) ∧ Below w5.heap.size w5 wr) (fun i _ => os.length - (intOf i).toNat)
  case atStart => exact ⟨0, Nat.zero_le _, rfl, (fun i hi => absurd hi (by omega)), Below.refl _ _⟩
  case round =>
    obtain ⟨k, hk, rfl, hcalm, hb⟩ := hrel
    by_cases hlt : k < os.length
    · obtain ⟨wq, rfl⟩ : ∃ wq : World, wq = wr := ⟨_, rfl⟩
      have HBX := Lib.hid hb
      clear hb
      go_wp2_with fail
      go_loopw [13] (fun i wr => ∃ i' : Nat, i' ≤ k ∧ i = .int .i64 i' ∧ Hid (∀ i, i < i' → clash (os.getD i default) (os.getD k default) = false) ∧ Below w5.heap.size w5 wr) (fun i _ => k - (intOf i).toNat)
      case atStart => exact ⟨0, Nat.zero_le _, rfl, (fun i hi => absurd hi (by omega)), HBX.out⟩
      case round =>
        obtain ⟨i, hik, rfl, hcalm2, hb⟩ := hrel
        by_cases hli : i < k
        · have hlti : i < os.length := by omega
          have HTT := HN.out.stays hb
          obtain ⟨b, q, c', e', _, _, hbq, x0, x1, x2, ⟨xv, x3, _⟩, x4⟩ := HTT.at hlti
          cases e'
          obtain ⟨b2, q2, c2, e', _, _, _, y0, y1, y2, ⟨yv, y3, _⟩, y4⟩ := HTT.at hlt
          cases e'
          clear HTT HBX
          have HBX := Lib.hid hb
          clear hb
          generalize hxa : os.getD i default = xa at *
          have HXA := Lib.hid hxa
          clear hxa
          generalize hxb : os.getD k default = xb at *
          have HXB := Lib.hid hxb
          clear hxb
          obtain ⟨opa, widtha, flagsa, argsa, imma⟩ := xa
          obtain ⟨opb, widthb, flagsb, argsb, immb⟩ := xb
          simp only at x0 x1 x2 x3 x4 y0 y1 y2 y3 y4
          cases c1 : (opa == 33)
          · have hcl : clash ⟨opa, widtha, flagsa, argsa, imma⟩ ⟨opb, widthb, flagsb, argsb, immb⟩ = false := by simp only [clash, c1]; try rfl
            have HC := Lib.hid hcl
            clear hcl
            go_wp2_with fail
            go_quiet (fail)
            go_wp2_with fail
            go_roundw
            case rel => exact ⟨i + 1, by omega, by go_num, (fun i' hi' => by
              by_cases e : i' = i
              · rw [e, HXA.out]; exact HC.out
              · exact hcalm2.out i' (by omega)), below_drewN HBX.out _⟩
            case measure => simp [intOf]; omega
          · cases c2 : (opb == 33)
            · have hcl : clash ⟨opa, widtha, flagsa, argsa, imma⟩ ⟨opb, widthb, flagsb, argsb, immb⟩ = false := by simp only [clash, c1, c2]; try rfl
              have HC := Lib.hid hcl
              clear hcl
              go_wp2_with fail
              go_quiet (fail)
              go_wp2_with fail
              go_roundw
              case rel => exact ⟨i + 1, by omega, by go_num, (fun i' hi' => by
                by_cases e : i' = i
                · rw [e, HXA.out]; exact HC.out
                · exact hcalm2.out i' (by omega)), below_drewN HBX.out _⟩
              case measure => simp [intOf]; omega
            · cases c3 : (imma == immb)
              · have hcl : clash ⟨opa, widtha, flagsa, argsa, imma⟩ ⟨opb, widthb, flagsb, argsb, immb⟩ = false := by simp only [clash, c1, c2, c3]; try rfl
                have HC := Lib.hid hcl
                clear hcl
                go_wp2_with fail
                go_quiet (fail)
                go_wp2_with fail
                go_roundw
                case rel => exact ⟨i + 1, by omega, by go_num, (fun i' hi' => by
                  by_cases e : i' = i
                  · rw [e, HXA.out]; exact HC.out
                  · exact hcalm2.out i' (by omega)), below_drewN HBX.out _⟩
                case measure => simp [intOf]; omega
              · cases c4 : (widtha != widthb)
                · have hcl : clash ⟨opa, widtha, flagsa, argsa, imma⟩ ⟨opb, widthb, flagsb, argsb, immb⟩ = false := by simp only [clash, c1, c2, c3, c4]; try rfl
                  have HC := Lib.hid hcl
                  clear hcl
                  go_wp2_with fail
                  go_quiet (fail)
                  go_wp2_with fail
                  go_roundw
                  case rel => exact ⟨i + 1, by omega, by go_num, (fun i' hi' => by
                    by_cases e : i' = i
                    · rw [e, HXA.out]; exact HC.out
                    · exact hcalm2.out i' (by omega)), below_drewN HBX.out _⟩
                  case measure => simp [intOf]; omega
                · have hcl : clash ⟨opa, widtha, flagsa, argsa, imma⟩ ⟨opb, widthb, flagsb, argsb, immb⟩ = true := by simp only [clash, c1, c2, c3, c4]; try rfl
                  have HC := Lib.hid hcl
                  clear hcl
                  have HPF : Hid (putF (v : Int) ts us = 7) := if_pos (wmap_clash (fun x hx => (HOV.out x hx).1) HOSH.out (by rw [HOE.out]; exact hlt) hli (by rw [HOE.out]; rw [HXA.out, HXB.out]; exact HC.out))
                  go_wp2_with fail
                  go_quiet (fail)
                  go_wp2_with fail
                  rw [HPF.out]
                  go_ret2
                  exact ⟨_, rfl, by rw [putFL_no (by rw [HPF.out]; simp)]; exact Nds.nil _, below_hop HB5.out (below_drewN HBX.out _)⟩
        · obtain rfl : i = k := by omega
          have HBY := Lib.hid hb
          clear hb
          go_wp2_with fail
          go_roundw
          case rel => exact ⟨i + 1, by omega, by go_num, (fun k' hk' => by
            by_cases e : k' = i
            · rw [e]; exact hcalm2.out
            · exact hcalm.out k' (by omega)), HBY.out⟩
          case measure => simp [intOf]; omega
    · obtain rfl : k = os.length := by omega
      have HNN : Hid (wmap (outP (v : Int) ts us) ≠ none) := wmap_calm (fun x hx => (HOV.out x hx).1) HOSH.out (by rw [HOE.out]; exact hcalm.out)
      have HBY := Lib.hid hb
      clear hb
      by_cases h300 : 300 < os.length
      · have HPF : Hid (putF (v : Int) ts us = 3) := by show _ = _; unfold putF; rw [if_neg HNN.out, HOE.out, if_pos h300]
        have h300i : (300 : Int) < os.length := by omega
        go_wp2_with fail
        rw [HPF.out]
        go_ret2
        exact ⟨_, rfl, by rw [putFL_no (by rw [HPF.out]; simp)]; exact Nds.nil _, below_hop HB5.out HBY.out⟩
      · have HPF : Hid (putF (v : Int) ts us = 0) := by show _ = _; unfold putF; rw [if_neg HNN.out, HOE.out, if_neg h300]
        have h300i : ¬ (300 : Int) < os.length := by omega
        go_wp2_with fail
        rw [HPF.out]
        go_ret2
        exact ⟨_, rfl, by rw [putFL_ok HPF.out, HOE.out]; exact HN.out.stays HBY.out, below_hop HB5.out HBY.out⟩
end
end Go.Proofs.Ythopdfikikdcbaa
/- Contracts of Put; walk of the law TermPuts. -/
namespace Go.Proofs.Ythopdfikikdcbaa
open Go.RowKit Go.Maps Wd
set_option linter.unusedVariables false
set_option linter.unusedSimpArgs false
section
variable {ts us : List Nd} {ta ua : Option Addr} {tc uc : Nat} {w : World}
/-- The seven ways of Put. -/
theorem put_ways (ts us : List Nd) (v : Int) (Q : Prop) (h1 : valE ts ≠ 0 → Q) (h2 : valE ts = 0 → valE us ≠ 0 → Q) (h3 : valE ts = 0 → valE us = 0 → v < 0 → Q) (h4 : valE ts = 0 → valE us = 0 → 4 ≤ v → Q)
    (h5 : ∀ k : Nat, v = k → valE ts = 0 → valE us = 0 → k < 4 → (widL ts).getD k 0 = 0 → Q) (h6 : ∀ k : Nat, v = k → valE ts = 0 → valE us = 0 → k < 4 → (widL ts).getD k 0 ≠ 0 → (nd us (us.length - 1)).width ≠ (widL ts).getD k 0 → Q)
    (h7 : ∀ k : Nat, v = k → valE ts = 0 → valE us = 0 → k < 4 → (widL ts).getD k 0 ≠ 0 → (nd us (us.length - 1)).width = (widL ts).getD k 0 → Q) : Q := by
  by_cases a : valE ts = 0
  · by_cases b : valE us = 0
    · by_cases c : v < 0
      · exact h3 a b c
      · by_cases d : 4 ≤ v
        · exact h4 a b d
        · obtain ⟨k, rfl⟩ := Int.eq_ofNat_of_zero_le (show 0 ≤ v by omega)
          by_cases e : (widL ts).getD k 0 = 0
          · exact h5 k rfl a b (by omega) e
          · by_cases f : (nd us (us.length - 1)).width = (widL ts).getD k 0
            · exact h7 k rfl a b (by omega) e f
            · exact h6 k rfl a b (by omega) e f
    · exact h2 a b
  · exact h1 a
theorem pPut (v : Int) (hts : Nds w (.slice ta ts.length tc) ts) (hus : Nds w (.slice ua us.length uc) us) (hi : ∀ x ∈ ts, 0 ≤ x.imm ∧ x.imm ≤ 4294967295) (hi' : ∀ x ∈ us, 0 ≤ x.imm ∧ x.imm ≤ 4294967295) :
    Calls Try.prog 41 #[.slice ta ts.length tc, .int .i64 v, .slice ua us.length uc] w fun e w' => ∃ x, e = .returned (.tuple #[x, .int .i64 (putE v ts us)]) ∧ Nds w' x (putO v ts us) ∧ Below w.heap.size w w' := by
  refine put_ways ts us v _ (fun h => ?_) (fun h hu => ?_) (fun h hu hv => ?_) (fun h hu hv => ?_) (fun k e h hu hv hw => ?_) (fun k e h hu hv hw hr => ?_) (fun k e h hu hv hw hr => ?_)
  · have he := putE_t (v := v) (us := us) h
    exact (pPut_t hts hus hi hi' v h).mono fun e w' ⟨h1, h2⟩ => ⟨.slice none 0 0, by rw [he]; exact h1, by rw [putO_no (by rw [he]; exact h)]; exact Nds.nil _, h2⟩
  · have he := putE_u (v := v) h hu
    exact (pPut_u hts hus hi hi' v h hu).mono fun e w' ⟨h1, h2⟩ => ⟨.slice none 0 0, by rw [he]; exact h1, by rw [putO_no (by rw [he]; exact hu)]; exact Nds.nil _, h2⟩
  · have he := putE_v (v := v) h hu (.inl hv)
    exact (pPut_v1 hts hus hi hi' v h hu hv).mono fun e w' ⟨h1, h2⟩ => ⟨.slice none 0 0, by rw [he]; exact h1, by rw [putO_no (by rw [he]; simp)]; exact Nds.nil _, h2⟩
  · have he := putE_v (v := v) h hu (.inr hv)
    exact (pPut_v2 hts hus hi hi' v h hu hv).mono fun e w' ⟨h1, h2⟩ => ⟨.slice none 0 0, by rw [he]; exact h1, by rw [putO_no (by rw [he]; simp)]; exact Nds.nil _, h2⟩
  · subst e
    have he := putE_0 (v := k) h hu hv hw
    exact (pPut_0 hts hus hi hi' k h hu hv hw).mono fun e w' ⟨h1, h2⟩ => ⟨.slice none 0 0, by rw [he]; exact h1, by rw [putO_no (by rw [he]; simp)]; exact Nds.nil _, h2⟩
  · subst e
    have he := putE_w (v := k) h hu hv hw hr
    exact (pPut_w hts hus hi hi' k h hu hv hw hr).mono fun e w' ⟨h1, h2⟩ => ⟨.slice none 0 0, by rw [he]; exact h1, by rw [putO_no (by rw [he]; simp)]; exact Nds.nil _, h2⟩
  · subst e
    have he := putE_f (v := k) h hu hv hw hr
    exact (pPut_f hts hus hi hi' k h hu hv hw hr).mono fun e w' ⟨x, h1, h3, h2⟩ => ⟨x, by rw [he]; exact h1, by unfold putO; rw [he]; exact h3, h2⟩
theorem rPut (v : Int) (hts : Nds w (.slice ta ts.length tc) ts) (hus : Nds w (.slice ua us.length uc) us) (hi : ∀ x ∈ ts, 0 ≤ x.imm ∧ x.imm ≤ 4294967295) (hi' : ∀ x ∈ us, 0 ≤ x.imm ∧ x.imm ≤ 4294967295) :
    Calls Try.prog 42 #[.slice ta ts.length tc, .int .i64 v, .slice ua us.length uc] w fun e w' => ∃ x, e = .returned (.tuple #[x, .int .i64 (putE v ts us)]) ∧ Nds w' x (putO v ts us) ∧ Below w.heap.size w w' := by
  refine put_ways ts us v _ (fun h => ?_) (fun h hu => ?_) (fun h hu hv => ?_) (fun h hu hv => ?_) (fun k e h hu hv hw => ?_) (fun k e h hu hv hw hr => ?_) (fun k e h hu hv hw hr => ?_)
  · have he := putE_t (v := v) (us := us) h
    exact (rPut_t hts hus hi hi' v h).mono fun e w' ⟨h1, h2⟩ => ⟨.slice none 0 0, by rw [he]; exact h1, by rw [putO_no (by rw [he]; exact h)]; exact Nds.nil _, h2⟩
  · have he := putE_u (v := v) h hu
    exact (rPut_u hts hus hi hi' v h hu).mono fun e w' ⟨h1, h2⟩ => ⟨.slice none 0 0, by rw [he]; exact h1, by rw [putO_no (by rw [he]; exact hu)]; exact Nds.nil _, h2⟩
  · have he := putE_v (v := v) h hu (.inl hv)
    exact (rPut_v1 hts hus hi hi' v h hu hv).mono fun e w' ⟨h1, h2⟩ => ⟨.slice none 0 0, by rw [he]; exact h1, by rw [putO_no (by rw [he]; simp)]; exact Nds.nil _, h2⟩
  · have he := putE_v (v := v) h hu (.inr hv)
    exact (rPut_v2 hts hus hi hi' v h hu hv).mono fun e w' ⟨h1, h2⟩ => ⟨.slice none 0 0, by rw [he]; exact h1, by rw [putO_no (by rw [he]; simp)]; exact Nds.nil _, h2⟩
  · subst e
    have he := putE_0 (v := k) h hu hv hw
    exact (rPut_0 hts hus hi hi' k h hu hv hw).mono fun e w' ⟨h1, h2⟩ => ⟨.slice none 0 0, by rw [he]; exact h1, by rw [putO_no (by rw [he]; simp)]; exact Nds.nil _, h2⟩
  · subst e
    have he := putE_w (v := k) h hu hv hw hr
    exact (rPut_w hts hus hi hi' k h hu hv hw hr).mono fun e w' ⟨h1, h2⟩ => ⟨.slice none 0 0, by rw [he]; exact h1, by rw [putO_no (by rw [he]; simp)]; exact Nds.nil _, h2⟩
  · subst e
    have he := putE_f (v := k) h hu hv hw hr
    exact (rPut_f hts hus hi hi' k h hu hv hw hr).mono fun e w' ⟨x, h1, h3, h2⟩ => ⟨x, by rw [he]; exact h1, by unfold putO; rw [he]; exact h3, h2⟩
end
set_option maxRecDepth 100000 in
set_option maxHeartbeats 1000000 in
theorem wTermPuts (ts us : List Nd) (v : Int) (tv uv : Value) (w : World) (hts : Nds w tv ts) (hus : Nds w uv us) (hi : ∀ x ∈ ts, 0 ≤ x.imm ∧ x.imm ≤ 4294967295) (hi' : ∀ x ∈ us, 0 ≤ x.imm ∧ x.imm ≤ 4294967295) :
    Calls Try.prog 8 #[tv, .agg #[.int .i64 v, uv]] w fun e w' => e = .returned (.bool true) ∧ Below w.heap.size w w' := by
  have HT := Lib.hid hts
  have HU := Lib.hid hus
  have HI := Lib.hid hi
  have HI' := Lib.hid hi'
  obtain ⟨ta, tc, rfl, ht1, ht2⟩ := hts.shape
  obtain ⟨ua, uc, rfl, hu1, hu2⟩ := hus.shape
  clear hi hi' hts hus
  have KN := Lib.hid known7
  have HBX : Hid (Below w.heap.size w (w.alloc (.cells #[.int .i64 v, .slice ua us.length uc] 75))) := (Below.refl _ _).alloc (Nat.le_refl _) _
  have HTX := Lib.hid (HT.out.stays HBX.out)
  have HUX := Lib.hid (HU.out.stays HBX.out)
  cases hl : longB ts
  rotate_left
  · go_enter Try.func8, Try.ntmps8
    go_wp2_with fail
    refine (long_any ts _ _ HTX.out).mono ?_
    rintro e w' ⟨rfl, rfl⟩
    rw [hl]
    go_wp2_with fail
    refine (KN.out _).mono ?_
    rintro e w8 ⟨rfl, hb8⟩
    go_wp2_with fail
    go_ret
    exact ⟨rfl, below_hop HBX.out hb8⟩
  cases hl2 : longB us
  rotate_left
  · go_enter Try.func8, Try.ntmps8
    go_wp2_with fail
    refine (long_any ts _ _ HTX.out).mono ?_
    rintro e w' ⟨rfl, rfl⟩
    rw [hl]
    go_wp2_with fail
    refine (long_any us _ _ HUX.out).mono ?_
    rintro e w' ⟨rfl, rfl⟩
    rw [hl2]
    go_wp2_with fail
    refine (KN.out _).mono ?_
    rintro e w8 ⟨rfl, hb8⟩
    go_wp2_with fail
    go_ret
    exact ⟨rfl, below_hop HBX.out hb8⟩
  have HP1 := Lib.hid (pPut v HTX.out HUX.out HI.out HI'.out)
  go_enter Try.func8, Try.ntmps8
  go_wp2_with fail
  refine (long_any ts _ _ HTX.out).mono ?_
  rintro e w' ⟨rfl, rfl⟩
  rw [hl]
  go_wp2_with fail
  refine (long_any us _ _ HUX.out).mono ?_
  rintro e w' ⟨rfl, rfl⟩
  rw [hl2]
  go_wp2_with fail
  refine HP1.out.mono ?_
  rintro e w3 ⟨v3, rfl, hv3, hb3⟩
  have r0 := below_cell hb3 (b := w.heap.size) (o := 0) (v := .int .i64 v) (by simp) (by simp [go_sem])
  have r1 := below_cell hb3 (b := w.heap.size) (o := 1) (v := .slice ua us.length uc) (by simp) (by simp [go_sem])
  have hbs := hb3.size
  simp only [World.size_alloc] at hbs
  have HB3 := Lib.hid (below_hop HBX.out hb3)
  have HV3 := Lib.hid hv3
  have HP2 := Lib.hid (rPut v (HTX.out.stays hb3) (HUX.out.stays hb3) HI.out HI'.out)
  obtain ⟨a3, c3, rfl, _⟩ := hv3.shape
  clear hb3 hv3
  go_wp2_with fail
  refine HP2.out.mono ?_
  rintro e w4 ⟨v4, rfl, hv4, hb4⟩
  obtain ⟨a4, c4, rfl, _⟩ := hv4.shape
  have HB4 := Lib.hid (below_hop HB3.out hb4)
  have HV4 := Lib.hid hv4
  have HV34 := Lib.hid (HV3.out.stays hb4)
  clear hb4 hv4 r0 r1
  generalize putE v ts us = je at *
  generalize putO v ts us = jl at *
  go_wp2_with fail
  refine (rSameNodes jl jl _ _ _ HV34.out HV4.out).mono ?_
  rintro e w5 ⟨rfl, hb5⟩
  have HB5 := Lib.hid (below_hop HB4.out hb5)
  clear hb5
  rw [decide_eq_true (rfl : jl = jl)]
  go_wp2_with fail
  refine (KN.out _).mono ?_
  rintro e w8 ⟨rfl, hb8⟩
  go_wp2_with fail
  go_ret
  exact ⟨rfl, below_hop HB5.out hb8⟩
end Go.Proofs.Ythopdfikikdcbaa
/- The value of a tree: a valid term's value is that of its root's tree; and that of a term with another one in the place of a variable. Plain. -/
namespace Go.Proofs.Ythopdfikikdcbaa
open Go.RowKit Wd
set_option linter.unusedVariables false
set_option linter.unusedSimpArgs false
def vT (op w i : Int) (env ws xs : List Int) : Int :=
  if op = 0 then i else if op = 33 then env.getD i.toNat 0 else
  if op = 14 then (if coX i (ws.getD 0 0) (xs.getD 0 0) (xs.getD 1 0) = true then 1 else 0) else
  if op = 15 then xs.getD (2 - xs.getD 0 0).toNat 0 else
  if 16 ≤ op then exX op (ws.getD 0 0) w (xs.getD 0 0) else toX op w (xs.getD 0 0) (xs.getD 1 0)
mutual
/-- The value of a tree. -/
def evalT (env : List Int) : Tr → Int
  | .mk op w f l i => vT op w i env (l.map Tr.w) (evalL env l)
def evalL (env : List Int) : List Tr → List Int
  | [] => []
  | t :: l => evalT env t :: evalL env l
end
theorem evalL_eq (env : List Int) : ∀ l, evalL env l = l.map (evalT env)
  | [] => by rw [evalL]; rfl
  | t :: l => by rw [evalL, evalL_eq env l]; rfl
theorem evalT_mk (env : List Int) (op w f : Int) (l : List Tr) (i : Int) : evalT env (.mk op w f l i) = vT op w i env (l.map Tr.w) (l.map (evalT env)) := by rw [evalT, evalL_eq]
theorem valsF_app (ts : List Nd) (env : List Int) (us vs : List Nd) : ∃ m, valsF ts env (us ++ vs) = valsF ts env us ++ m := by
  have key : ∀ (vs : List Nd) (acc : List Int), ∃ m, vs.foldl (fun acc x => acc ++ [vNode ts env acc x]) acc = acc ++ m := by
    intro vs
    induction vs with
    | nil => intro acc; exact ⟨[], by simp⟩
    | cons x vs ih =>
      intro acc
      obtain ⟨m, hm⟩ := ih (acc ++ [vNode ts env acc x])
      exact ⟨[vNode ts env acc x] ++ m, by rw [List.foldl_cons, hm, List.append_assoc]⟩
  unfold valsF
  rw [List.foldl_append]
  exact key vs _
theorem vals_take {ts : List Nd} {env : List Int} {j a : Nat} (hj : j ≤ ts.length) (ha : a < j) : (valsF ts env (ts.take j)).getD a 0 = (vals ts env).getD a 0 := by
  obtain ⟨m, hm⟩ := valsF_app ts env (ts.take j) (ts.drop j)
  rw [List.take_append_drop] at hm
  unfold vals
  rw [hm, getD_app_l (by rw [valsF_take_len hj]; exact ha)]
theorem vals_at {ts : List Nd} {env : List Int} {j : Nat} (hj : j < ts.length) : (vals ts env).getD j 0 = vNode ts env (valsF ts env (ts.take j)) (nd ts j) := by
  rw [← vals_take (j := j + 1) (by omega) (by omega), vals_snoc ts env j hj, getD_app_r (by rw [valsF_take_len (by omega)]; exact Nat.le_refl _), valsF_take_len (by omega), Nat.sub_self]
  rfl
/-- The value of a node is that of its tree. -/
theorem vals_tree {ts : List Nd} {env : List Int} (h : valE ts = 0) (hI : ∀ x ∈ ts, 0 ≤ x.imm ∧ x.imm ≤ 4294967295) (he : EnvOk ts env) : ∀ j, j < ts.length → (vals ts env).getD j 0 = evalT env (tree ts j) := by
  have hd := valid_down h
  intro j
  induction j using Nat.strongRecOn with
  | _ j ih =>
    intro hj
    have hw := vals_words h hI he j (by omega)
    have hx : NodeOk ts j (nd ts j) := nodeOk h hj
    have hdj := hd j hj
    have hvw := fun i hi => vArg_word hx hw (i := i) hi
    have ha : ∀ i, i < (nd ts j).args.length → vArg (valsF ts env (ts.take j)) (nd ts j) i = (((nd ts j).args.map fun a => tree ts a.toNat).map (evalT env)).getD i 0 := by
      intro i hi
      have h1 := hdj _ (mem_getD (l := (nd ts j).args) hi)
      change 0 ≤ (nd ts j).args.getD i 0 ∧ (nd ts j).args.getD i 0 < (j : Int) at h1
      unfold vArg
      rw [vals_take (by omega) (by omega), ih _ (by omega) (by omega), List.map_map, List.getD_eq_getElem?_getD (l := List.map _ _), List.getElem?_map, List.getElem?_eq_getElem hi, List.getD_eq_getElem?_getD, List.getElem?_eq_getElem hi]
      rfl
    have hws : ∀ i, i < (nd ts j).args.length → wdt ts (nd ts j).args i = (((nd ts j).args.map fun a => tree ts a.toNat).map Tr.w).getD i 0 := by
      intro i hi
      rw [kids_w hd hj, wdt_get hi]
    rw [vals_at hj, tree_eq hd hj, evalT_mk]
    have hlen := hx.len
    unfold vNode vT
    rcases arV_cases (nd ts j).op with ⟨c | c, e0⟩ | ⟨⟨c1, c2⟩, e0⟩ | ⟨c, e0⟩ | ⟨⟨c1, c2⟩, e0⟩ | ⟨c, e0⟩
    · rw [if_pos c, if_pos c]
    · have o0 : ¬ (nd ts j).op = 0 := by omega
      rw [if_neg o0, if_neg o0, if_pos c, if_pos c]
    · have o0 : ¬ (nd ts j).op = 0 := by omega
      have o33 : ¬ (nd ts j).op = 33 := by omega
      have o15 : ¬ (nd ts j).op = 15 := by omega
      have o16 : ¬ 16 ≤ (nd ts j).op := by omega
      rw [if_neg o0, if_neg o0, if_neg o33, if_neg o33, hws 0 (by omega), ha 0 (by omega), ha 1 (by omega)]
      by_cases h14 : (nd ts j).op = 14
      · rw [if_pos h14, if_pos h14]
      · rw [if_neg h14, if_neg h14, if_neg o15, if_neg o15, if_neg o16]
    · have o0 : ¬ (nd ts j).op = 0 := by omega
      have o33 : ¬ (nd ts j).op = 33 := by omega
      have o14 : ¬ (nd ts j).op = 14 := by omega
      rw [if_neg o0, if_neg o0, if_neg o33, if_neg o33, if_neg o14, if_neg o14, if_pos c, if_pos c]
      have hl3 : (nd ts j).args.length = 3 := by omega
      obtain ⟨t0, t1, t2⟩ := typed_sel hx.typ c
      have w0 := hvw 0 (by omega)
      rw [t0, show pw 1 = 2 from rfl] at w0
      have hk : (2 - vArg (valsF ts env (ts.take j)) (nd ts j) 0).toNat = 1 ∨ (2 - vArg (valsF ts env (ts.take j)) (nd ts j) 0).toNat = 2 := by omega
      rw [← ha 0 (by omega)]
      rcases hk with hk | hk
      · rw [hk, ha 1 (by omega)]
      · rw [hk, ha 2 (by omega)]
    · have o0 : ¬ (nd ts j).op = 0 := by omega
      have o33 : ¬ (nd ts j).op = 33 := by omega
      have o14 : ¬ (nd ts j).op = 14 := by omega
      have o15 : ¬ (nd ts j).op = 15 := by omega
      rw [if_neg o0, if_neg o0, if_neg o33, if_neg o33, if_neg o14, if_neg o14, if_neg o15, if_neg o15, if_pos c1, if_pos c1, hws 0 (by omega), ha 0 (by omega)]
    · exact absurd e0 hx.ar
theorem evV_tree {ts : List Nd} {env : List Int} (h : vaE ts env = 0) (hI : ∀ x ∈ ts, 0 ≤ x.imm ∧ x.imm ≤ 4294967295) (hE : ∀ x ∈ env, 0 ≤ x ∧ x ≤ 4294967295) : evV ts env = evalT env (tree ts (ts.length - 1)) := by
  obtain ⟨h1, h2⟩ := vaE_zero h
  have := (valid_facts h1).1
  unfold evV
  rw [if_pos h]
  exact vals_tree h1 hI (envOk_of hE h2) _ (by omega)
theorem sub_w {v : Int} {U : Tr} {t : Tr} (hv : t.All (fun op w f i => (op = 33 → i = v → w = U.w) ∧ 0 ≤ i)) : (subT v U t).w = t.w := by
  cases hv with
  | mk v1 v2 =>
    rw [subT_mk]
    split
    · rename_i hc; exact (v1.1 hc.1 hc.2).symm
    · rfl
/-- The value of a tree with another one in the place of a variable. -/
theorem sub_eval {v : Nat} {U : Tr} {env : List Int} (hl : v < env.length) (t : Tr) : t.All (fun op w f i => (op = 33 → i = (v : Int) → w = U.w) ∧ 0 ≤ i) → evalT env (subT (v : Int) U t) = evalT (env.set v (evalT env U)) t := by
  induction t using Tr.ind with
  | _ op w f l i ih =>
    intro hv
    cases hv with
    | mk v1 v2 =>
      rw [subT_mk, evalT_mk]
      by_cases hc : op = 33 ∧ i = (v : Int)
      · rw [if_pos hc]
        obtain ⟨rfl, rfl⟩ := hc
        show _ = vT 33 w (v : Int) _ _ _
        unfold vT
        rw [if_neg (by omega), if_pos rfl, Int.toNat_natCast, List.getD_eq_getElem?_getD, List.getElem?_set_self hl]; rfl
      · rw [if_neg hc, evalT_mk]
        have e1 : (l.map (subT (v : Int) U)).map Tr.w = l.map Tr.w := by
          rw [List.map_map]
          exact List.map_congr_left fun t ht => sub_w (v2 t ht)
        have e2 : (l.map (subT (v : Int) U)).map (evalT env) = l.map (evalT (env.set v (evalT env U))) := by
          rw [List.map_map]
          exact List.map_congr_left fun t ht => ih t ht (v2 t ht)
        rw [e1, e2]
        unfold vT
        by_cases h33 : op = 33
        · have hne : v ≠ i.toNat := fun e => hc ⟨h33, by have := v1.2; omega⟩
          have o0 : ¬ op = 0 := by omega
          rw [if_neg o0, if_neg o0, if_pos h33, if_pos h33, List.getD_eq_getElem?_getD, List.getD_eq_getElem?_getD, List.getElem?_set_ne hne]
        · rw [if_neg h33, if_neg h33]
theorem outP_tree (v : Int) {ts us : List Nd} (h : valE ts = 0) (hu : valE us = 0) : tree (outP v ts us) ((outP v ts us).length - 1) = putT v ts us := by
  obtain ⟨t1, t2, _⟩ := valid_facts h
  obtain ⟨u1, u2, _⟩ := valid_facts hu
  have hp := put1 (putT v ts us) [] Good.nil
  obtain ⟨h1, h2, h3, h4, h5⟩ := put_share (v := v) (valid_down h) (valid_down hu) (by omega) (by omega) rfl
  have htr := (gvis_ok (valid_down h) (gjP (v := v) (valid_down h) (valid_down hu) (by omega)) (ts.length - 1 + 1) (ts.length - 1) (([], List.replicate us.length (-1)), List.replicate ts.length (-1)) (by omega) (by omega) (jp_start v us ts))
  have h6 := htr.1.j.tr _ htr.2
  rw [← h4, shr_tree h1 h3]
  exact h6
/-- What TermMeans states. -/
theorem means_plain {ts us : List Nd} {v : Nat} {env : List Int} (hI : ∀ x ∈ ts, 0 ≤ x.imm ∧ x.imm ≤ 4294967295) (hI' : ∀ x ∈ us, 0 ≤ x.imm ∧ x.imm ≤ 4294967295) (hE : ∀ x ∈ env, 0 ≤ x ∧ x ≤ 4294967295) (hl : env.length = 4) (hv : v < 4)
    (hp : putE (v : Int) ts us = 0) (hu : vaE us env = 0) (ha : vaE (putO (v : Int) ts us) env = 0) (hm : vaE ts (env.set v (evV us env)) = 0) (hE2 : ∀ x ∈ env.set v (evV us env), 0 ≤ x ∧ x ≤ 4294967295) :
    evV (putO (v : Int) ts us) env = evV ts (env.set v (evV us env)) := by
  have h1 : valE ts = 0 := (vaE_zero hm).1
  have h2 : valE us = 0 := (vaE_zero hu).1
  have hw0 : (widL ts).getD v 0 ≠ 0 := fun e => by rw [putE_0 h1 h2 hv e] at hp; omega
  have hw : (nd us (us.length - 1)).width = (widL ts).getD v 0 := by
    by_cases e : (nd us (us.length - 1)).width = (widL ts).getD v 0
    · exact e
    · rw [putE_w h1 h2 hv hw0 e] at hp; omega
  have ho : putO (v : Int) ts us = outP (v : Int) ts us := if_pos hp
  rw [ho] at ha ⊢
  obtain ⟨t1, t2, _⟩ := valid_facts h1
  obtain ⟨u1, u2, _⟩ := valid_facts h2
  rw [evV_tree ha (outP_imm (v : Int) h1 h2 hI hI') hE, evV_tree hm hI hE2, evV_tree hu hI' hE, outP_tree (v : Int) h1 h2]
  unfold putT
  refine sub_eval (by omega) _ (tree_all (valid_down h1) (fun x hx => ⟨fun h33 hiv => ?_, (hI x hx).1⟩) _ (by omega))
  rw [tree_w (valid_down h2) (by omega), hw, ← var_w h1 hI x hx h33, hiv]
  rfl
end Go.Proofs.Ythopdfikikdcbaa
/- Walk of the law TermMeans. -/
namespace Go.Proofs.Ythopdfikikdcbaa
open Go.RowKit Go.Maps Wd
set_option linter.unusedVariables false
set_option linter.unusedSimpArgs false
/-- The cells of a slice of integers, as an append asks for them. -/
theorem Ints.newsK {k : IntKind} {w : World} {ad : Addr} {n c : Nat} {xs : List Int} (h : Ints k w (.slice (some ad) n c) xs) : ∀ (j : Nat) (u : Value), (xs.map (Value.int k))[j]? = some u → w.cell? (ad.add j) = some u := by
  intro j u hu
  rw [List.getElem?_map] at hu
  cases e : xs[j]? with
  | none => rw [e] at hu; cases hu
  | some y =>
    rw [e] at hu
    cases hu
    have hj : j < xs.length := by
      rcases Nat.lt_or_ge j xs.length with h | h
      · exact h
      · rw [List.getElem?_eq_none h] at e; cases e
    obtain ⟨a, c', e', _, _, _, h4⟩ := h
    cases e'
    obtain ⟨b', o', e', h5, h6⟩ := h4 j hj
    cases e'
    rw [Nat.mul_one, List.getD_eq_getElem?_getD, e] at h6
    by_cases hj0 : j = 0
    · subst hj0; exact h6
    · simpa [Addr.add, hj0] using h6
theorem RowI.set {w : World} {base : Nat} {e : TypeId} {k : IntKind} {g n cap i : Nat} {xs : List Int} (h : RowI w base e k (.slice (some ⟨g, 0, none⟩) n cap) xs) (hl : xs.length ≤ 140737488351232) (hi : i < xs.length) (x : Int) :
    w.cell? ⟨g, i, none⟩ = some (.int k (xs.getD i 0)) ∧ w.frozen? ⟨g, i, none⟩ = false ∧ Ints k (w.setCell ⟨g, i, none⟩ (.int k x)) (.slice (some ⟨g, 0, none⟩) n cap) (xs.set i x) := by
  have hI := h.ints hl
  obtain ⟨a, c', e', h1, h2, h3, h4⟩ := hI
  cases e'
  have hc : ∀ j, j < xs.length → w.cell? ⟨g, j, none⟩ = some (.int k (xs.getD j 0)) ∧ g < w.heap.size := fun j hj => by
    obtain ⟨b', o', e', h5, h6⟩ := h4 j hj
    cases e'
    rw [Nat.mul_one, Nat.zero_add] at h6
    exact ⟨h6, h5⟩
  refine ⟨(hc i hi).1, ?_, ⟨some ⟨g, 0, none⟩, cap, by simp, by simpa using h1, by simpa using h2, (fun h => by cases h), fun j hj => ?_⟩⟩
  · obtain ⟨_, ⟨e9, _⟩ | ⟨g9, cap9, cur9, e9, _, hg9, _⟩⟩ := h
    · simp at e9
    · cases e9
      simp [World.frozen?, hg9]
  · rw [List.length_set] at hj
    refine ⟨g, 0, rfl, by simpa using (hc i hi).2, ?_⟩
    rw [Nat.mul_one, Nat.zero_add]
    show World.cell? _ _ = some (Value.int k (List.getD _ j 0))
    by_cases hij : i = j
    · subst hij
      rw [World.cell?_setCell_same _ _ _ (hc i hi).1, List.getD_eq_getElem?_getD, List.getElem?_set_self hi]; rfl
    · rw [World.cell?_setCell_other _ _ _ _ (by intro e; have := congrArg Addr.off e; simp only at this; omega), (hc j hj).1, List.getD_eq_getElem?_getD, List.getD_eq_getElem?_getD, List.getElem?_set_ne hij]
set_option maxRecDepth 100000 in
set_option maxHeartbeats 2000000 in
theorem wTermMeans (ts us : List Nd) (env : List Int) (v : Int) (tv uv ev : Value) (w : World) (hts : Nds w tv ts) (hus : Nds w uv us) (hev : Ints .u32 w ev env) (hi : ∀ x ∈ ts, 0 ≤ x.imm ∧ x.imm ≤ 4294967295) (hi' : ∀ x ∈ us, 0 ≤ x.imm ∧ x.imm ≤ 4294967295) (hE : ∀ x ∈ env, 0 ≤ x ∧ x ≤ 4294967295) :
    Calls Try.prog 9 #[tv, .agg #[.int .i64 v, uv], ev] w fun e w' => e = .returned (.bool true) ∧ Below w.heap.size w w' := by
  have HT := Lib.hid hts
  have HU := Lib.hid hus
  have HEV := Lib.hid hev
  have HI := Lib.hid hi
  have HI' := Lib.hid hi'
  have HEE := Lib.hid hE
  obtain ⟨ta, tc, rfl, ht1, ht2⟩ := hts.shape
  obtain ⟨ua, uc, rfl, hu1, hu2⟩ := hus.shape
  obtain ⟨ea, ec, rfl, he1, he2⟩ := hev.shape
  clear hi hi' hts hus hev hE
  have KN := Lib.hid known7
  have HBX : Hid (Below w.heap.size w (w.alloc (.cells #[.int .i64 v, .slice ua us.length uc] 75))) := (Below.refl _ _).alloc (Nat.le_refl _) _
  have HTX := Lib.hid (HT.out.stays HBX.out)
  have HUX := Lib.hid (HU.out.stays HBX.out)
  have HEX := Lib.hid (HEV.out.stays HBX.out)
  cases hl : longB ts
  rotate_left
  · go_enter Try.func9, Try.ntmps9
    go_wp2_with fail
    refine (long_any ts _ _ HTX.out).mono ?_
    rintro e w' ⟨rfl, rfl⟩
    rw [hl]
    go_wp2_with fail
    refine (KN.out _).mono ?_
    rintro e w8 ⟨rfl, hb8⟩
    go_wp2_with fail
    go_ret
    exact ⟨rfl, below_hop HBX.out hb8⟩
  cases hl2 : longB us
  rotate_left
  · go_enter Try.func9, Try.ntmps9
    go_wp2_with fail
    refine (long_any ts _ _ HTX.out).mono ?_
    rintro e w' ⟨rfl, rfl⟩
    rw [hl]
    go_wp2_with fail
    refine (long_any us _ _ HUX.out).mono ?_
    rintro e w' ⟨rfl, rfl⟩
    rw [hl2]
    go_wp2_with fail
    refine (KN.out _).mono ?_
    rintro e w8 ⟨rfl, hb8⟩
    go_wp2_with fail
    go_ret
    exact ⟨rfl, below_hop HBX.out hb8⟩
  by_cases hl4 : env.length = 4
  rotate_left
  · have h4 : ((env.length : Int) != 4) = true := by
      simp only [bne_iff_ne, ne_eq]; omega
    clear hl4
    go_enter Try.func9, Try.ntmps9
    go_wp2_with fail
    refine (long_any ts _ _ HTX.out).mono ?_
    rintro e w' ⟨rfl, rfl⟩
    rw [hl]
    go_wp2_with fail
    refine (long_any us _ _ HUX.out).mono ?_
    rintro e w' ⟨rfl, rfl⟩
    rw [hl2]
    go_wp2_with fail
    refine (KN.out _).mono ?_
    rintro e w8 ⟨rfl, hb8⟩
    go_wp2_with fail
    go_ret
    exact ⟨rfl, below_hop HBX.out hb8⟩
  obtain ⟨eb, eq, rfl, heb, _⟩ := HEV.out.row (by omega)
  rw [hl4] at he1 he2 HEV HEX ⊢
  have HL4 := Lib.hid hl4
  clear hl4
  have HP1 := Lib.hid (pPut v HTX.out HUX.out HI.out HI'.out)
  have HPI : Hid (∀ x ∈ putO v ts us, 0 ≤ x.imm ∧ x.imm ≤ 4294967295) := by
    unfold putO
    by_cases h : putE v ts us = 0
    · rw [if_pos h]
      have h1 : valE ts = 0 := by
        by_cases a : valE ts = 0
        · exact a
        · rw [putE_t a] at h; exact absurd h a
      have h2 : valE us = 0 := by
        by_cases a : valE us = 0
        · exact a
        · rw [putE_u h1 a] at h; exact absurd h a
      exact outP_imm v h1 h2 HI.out HI'.out
    · rw [if_neg h]; exact fun x hx => by cases hx
  go_enter Try.func9, Try.ntmps9
  go_wp2_with fail
  refine (long_any ts _ _ HTX.out).mono ?_
  rintro e w' ⟨rfl, rfl⟩
  rw [hl]
  go_wp2_with fail
  refine (long_any us _ _ HUX.out).mono ?_
  rintro e w' ⟨rfl, rfl⟩
  rw [hl2]
  go_wp2_with fail
  refine HP1.out.mono ?_
  rintro e w3 ⟨v3, rfl, hv3, hb3⟩
  have r0 := below_cell hb3 (b := w.heap.size) (o := 0) (v := .int .i64 v) (by simp) (by simp [go_sem])
  have r1 := below_cell hb3 (b := w.heap.size) (o := 1) (v := .slice ua us.length uc) (by simp) (by simp [go_sem])
  have hbs := hb3.size
  simp only [World.size_alloc] at hbs
  have HB3 := Lib.hid (below_hop HBX.out hb3)
  have HB3b : Hid (∀ W, Below w3.heap.size w3 W → Below (w.alloc (.cells #[.int .i64 v, .slice ua us.length uc] 75)).heap.size (w.alloc (.cells #[.int .i64 v, .slice ua us.length uc] 75)) W) := fun W h => below_hop hb3 h
  have HV3 := Lib.hid hv3
  have HEU := Lib.hid (pEval us env _ _ w3 (HUX.out.stays hb3) (HEX.out.stays hb3) HI'.out HEE.out)
  obtain ⟨a3, c3, rfl, _⟩ := hv3.shape
  clear hb3 hv3
  go_wp2_with fail
  refine HEU.out.mono ?_
  rintro e w4 ⟨rfl, hb4⟩
  have HB4 := Lib.hid hb4
  have s0 := below_cell hb4 (by omega) r0
  have hb4s := hb4.size
  clear hb4 r0 r1
  by_cases hp : putE v ts us = 0
  rotate_left
  · have hp1 : (putE v ts us != 0) = true := by simpa using hp
    clear hp
    go_wp2_with fail
    refine (KN.out _).mono ?_
    rintro e w8 ⟨rfl, hb8⟩
    go_wp2_with fail
    go_ret
    exact ⟨rfl, below_hop (below_hop HB3.out HB4.out) hb8⟩
  by_cases hq : vaE us env = 0
  rotate_left
  · have hq1 : (vaE us env != 0) = true := by simpa using hq
    rw [hp]
    clear hq hp
    go_wp2_with fail
    refine (KN.out _).mono ?_
    rintro e w8 ⟨rfl, hb8⟩
    go_wp2_with fail
    go_ret
    exact ⟨rfl, below_hop (below_hop HB3.out HB4.out) hb8⟩
  have hv4 : 0 ≤ v ∧ v < 4 := by
    by_cases c : v < 0 ∨ 4 ≤ v
    · have h1 : valE ts = 0 := by
        by_cases a : valE ts = 0
        · exact a
        · rw [putE_t a] at hp; exact absurd hp a
      have h2 : valE us = 0 := by
        by_cases a : valE us = 0
        · exact a
        · rw [putE_u h1 a] at hp; exact absurd hp a
      rw [putE_v h1 h2 c] at hp; omega
    · omega
  obtain ⟨k, rfl⟩ := Int.eq_ofNat_of_zero_le hv4.1
  have hk4 : k < 4 := by omega
  have hk1 : decide ((k : Int) < 0) = false := decide_eq_false (by omega)
  have hk2 : decide (4 ≤ (k : Int)) = false := decide_eq_false (by omega)
  have hk3 : (k : Int) < 4 := by omega
  rw [hp, hq]
  have HPZ := Lib.hid hp
  have HQZ := Lib.hid hq
  have HE5 := Lib.hid (pEval (putO (k : Int) ts us) env _ _ w4 (HV3.out.stays HB4.out) (HEX.out.stays (HB3b.out w4 HB4.out)) HPI.out HEE.out)
  have HEVM : Hid (vaE (putO (k : Int) ts us) env = 0 → vaE ts (env.set k (evV us env)) = 0 → (∀ x ∈ env.set k (evV us env), 0 ≤ x ∧ x ≤ 4294967295) → evV (putO (k : Int) ts us) env = evV ts (env.set k (evV us env))) := fun a b c => means_plain HI.out HI'.out HEE.out HL4.out hk4 HPZ.out HQZ.out a b c
  have HYB : Hid (0 ≤ evV us env ∧ evV us env ≤ 4294967295) := by
    obtain ⟨h1, h2⟩ := vaE_zero HQZ.out
    have h3 := vals_words h1 HI'.out (envOk_of HEE.out h2) us.length (Nat.le_refl _)
    rw [List.take_length] at h3
    have h4 := (valid_facts h1).1
    have h5 := h3 (us.length - 1) (by omega)
    have h6 : evV us env = (valsF us env us).getD (us.length - 1) 0 := by unfold evV; rw [if_pos HQZ.out]; rfl
    rw [h6]
    exact ⟨h5.1, word_le ((nodeOk h1 (show us.length - 1 < us.length by omega)).wid.2) h5.2⟩
  have HSE : Hid (∀ x ∈ env.set k (evV us env), 0 ≤ x ∧ x ≤ 4294967295) := fun x hx => by
    rcases List.mem_or_eq_of_mem_set hx with h | h
    · exact HEE.out x h
    · rw [h]; exact HYB.out
  clear hp hq hv4
  generalize evV us env = y at *
  go_wp2_with fail
  refine HE5.out.mono ?_
  rintro e w5 ⟨rfl, hb5⟩
  have HB5 := Lib.hid (below_hop HB4.out hb5)
  have t0 := below_cell hb5 (by omega) s0
  have hb5s := hb5.size
  obtain ⟨i0, hi0, hz0, hz1, hz2⟩ := info_parts info_u32
  have HEM : Hid ((w5.alloc (.cells #[] 34)).ownsRow w5.heap.size 34 1 (.slice (some ⟨w5.heap.size, 0, none⟩) 0 0) 0 []) := ownsRow_empty w5 w5.heap.size (Nat.le_refl _) 34
  have HE6 := Lib.hid (HEX.out.stays (HB3b.out w5 HB5.out))
  have HE7 : Hid (Ints .u32 (w5.alloc (.cells #[] 34)) (.slice (some ⟨eb, eq, none⟩) 4 ec) env) := HE6.out.stays ((Below.refl _ _).alloc (Nat.le_refl _) _)
  have HNW := Lib.hid HE7.out.newsK
  have HNL : Hid ((env.map (Value.int .u32)).length = 4 * 1) := by show _ = _; rw [List.length_map, HL4.out]
  clear hb5 s0
  go_wp2_with (at_builtin; go_must (refine wpList_append_own_at _ rfl _ _ 33 rfl w5.heap.size 34 i0 (.int .u32 0) 1 4 Try.underlying33 hi0 hz0 hz1 hz2 rfl (by decide) _ _ _ rfl HEM.out ⟨eb, eq, none⟩ 4 ec (env.map (Value.int .u32)) rfl HNL.out HNW.out ?e2 ?e3 ?e4 ?e5 ?_))
  try case e2 => intro u hu; obtain ⟨z, _, rfl⟩ := List.mem_map.1 hu; rfl
  try case e3 => unfold maxLen; omega
  try case e4 => omega
  try case e5 => first | omega | (simp; done) | (simp; omega)
  intro ov w6 hown6 hgrow6 _ hat6
  have hrow : RowI w6 w5.heap.size 34 .u32 ov env := by
    unfold RowI
    rw [HL4.out]
    simpa using hown6
  obtain ⟨_, ⟨hov, h0⟩ | ⟨g, cap, cur, rfl, hg1, _⟩⟩ := id hrow
  · exact absurd HL4.out (by omega)
  rw [HL4.out]
  have hc56 : Below w5.heap.size w5 w6 := (Chg.of_below (T := fun b => b = w5.heap.size) ((Below.refl _ _).alloc (Nat.le_refl _) (.cells #[] 34))).trans (Chg.of_grown hgrow6 (fun k hk => by cases hk; rfl)) (fun _ _ h => h) |>.below (Nat.le_refl _) (fun k hk => by omega)
  obtain ⟨d1, d2, d3⟩ := hrow.set (by rw [HL4.out]; omega) (i := k) (by rw [HL4.out]; exact hk4) y
  have HB6 := Lib.hid (below_hop HB5.out hc56)
  have HW6 := Lib.hid (below_at hc56 hg1 k (.int .u32 y))
  have t1 := below_cell hc56 (by omega) t0
  rw [HL4.out] at d3
  have HD3 := Lib.hid d3
  have HE8 := Lib.hid (pEval ts (env.set k y) (.slice ta ts.length tc) (.slice (some ⟨g, 0, none⟩) 4 cap) (w6.setCell ⟨g, k, none⟩ (.int .u32 y)) (HTX.out.stays (HB3b.out _ (below_hop HB5.out HW6.out))) HD3.out HI.out HSE.out)
  have HB7 := Lib.hid (below_hop HB5.out HW6.out)
  clear hown6 hgrow6 hat6 hrow hc56 d3 hg1 t0
  generalize env.getD k 0 = z0 at *
  go_wp2_with fail
  refine HE8.out.mono ?_
  rintro e w8 ⟨rfl, hb8⟩
  have HB8 := Lib.hid (below_hop HB3.out (below_hop HB7.out hb8))
  clear hb8 t1 d1 d2
  by_cases h1 : vaE (putO (k : Int) ts us) env = 0
  rotate_left
  · have h1b : (vaE (putO (k : Int) ts us) env != 0) = true := by simpa using h1
    clear h1
    go_wp2_with fail
    refine (KN.out _).mono ?_
    rintro e w9 ⟨rfl, hb9⟩
    go_wp2_with fail
    go_ret
    exact ⟨rfl, below_hop HB8.out hb9⟩
  by_cases h2 : vaE ts (env.set k y) = 0
  rotate_left
  · have h2b : (vaE ts (env.set k y) != 0) = true := by simpa using h2
    rw [h1]
    clear h1 h2
    go_wp2_with fail
    refine (KN.out _).mono ?_
    rintro e w9 ⟨rfl, hb9⟩
    go_wp2_with fail
    go_ret
    exact ⟨rfl, below_hop HB8.out hb9⟩
  rw [HEVM.out h1 h2 HSE.out, h1, h2]
  clear h1 h2
  generalize evV ts (env.set k y) = n at *
  go_wp2_with fail
  refine (KN.out _).mono ?_
  rintro e w9 ⟨rfl, hb9⟩
  go_wp2_with fail
  go_ret
  exact ⟨rfl, below_hop HB8.out hb9⟩
end Go.Proofs.Ythopdfikikdcbaa
/- How a law's statement follows from its walk: it returned true, and what was there is as it was. -/
namespace Go.Proofs.Ythopdfikikdcbaa
open Go.RowKit Go.WideShapes Go.ChangeShapes
section
variable {H : Type} {enc : TypeId × Value → H} {P : Program}
theorem trodAll_stays (hl : laidOutB P = true) {W W' : World} (hb : Below W.heap.size W W') (sp : Nat → Bool) : ∀ (ts : List TypeId) (vs : List Value) (ds : List (DataW H)) (ps : List MemPlace),
    (∀ t ∈ ts, P.readableRec t = true ∧ t < P.types.size) → DataW.TrodAll enc P W 0 (fun _ => true) true ts vs ds ps → (∀ x ∈ ps, x.block < W.heap.size) → (∀ p ∈ ps, sp p.block = true) → DataW.TrodAll enc P W' 0 sp true ts vs ds ps
  | [], vs, ds, ps, _, h, _, _ => by
    obtain ⟨rfl, rfl, rfl⟩ := trodAll_nil h
    exact trodAll_mk0
  | t :: ts, vs, ds, ps, ht, h, hlt, hsp => by
    obtain ⟨v, vs', d, ds', p, q, rfl, rfl, rfl, h1, h2⟩ := trodAll_cons h
    have h3 := ht t (List.mem_cons_self ..)
    exact trodAll_cons_mk (WideElems.Trod_stays hl h3.1 h3.2 h1 (fun x hx => hb.same (hlt x (List.mem_append.2 (.inl hx)))) (fun x hx => hsp x (List.mem_append.2 (.inl hx))))
      (trodAll_stays hl hb sp ts vs' ds' q (fun t' h' => ht t' (List.mem_cons_of_mem _ h')) h2 (fun x hx => hlt x (List.mem_append.2 (.inr hx))) (fun x hx => hsp x (List.mem_append.2 (.inr hx))))
theorem post_below {f : Func} {s : ChangeSpec} {apart fresh handsOn again : Bool} {W W' : World} {args : Array Value} {v : Value} {ds gs : List (DataW H)} {before pa pv : List MemPlace}
    (hW : DataW.Whole enc P f.params.toList s.vars apart W args.toList ds gs before)
    (hres : ∀ (b : Nat) (sp : Nat → Bool) (hd : Bool), DataW.TrodAll enc P W' b sp hd f.resultTypes.toList (v.resultList f.resultTypes.size) (s.fn H (ds ++ gs)).results [])
    (hargs : ∀ sp : Nat → Bool, (∀ p ∈ before, sp p.block = true) → DataW.TrodAll enc P W' 0 sp true f.params.toList args.toList (s.fn H (ds ++ gs)).args pa)
    (hvars : ∀ sp : Nat → Bool, (∀ p ∈ before, sp p.block = true) → DataW.TrodVars enc P W' sp s.vars (s.fn H (ds ++ gs)).vars pv)
    (hps : before = pa ++ pv) (hb : Below W.heap.size W W')
    (hok : ∀ (j : Nat) (t : TypeId) (r : Value), f.resultTypes[j]? = some t → (v.resultList f.resultTypes.size)[j]? = some r → Value.okWide P W' .any 0 t r) :
    s.post enc P f apart fresh handsOn again W args v W' := by
  have hlt : ∀ p ∈ before, p.block < W.heap.size := fun p hp => hW.lt p hp
  have hold : ∀ p ∈ before, (fun b => decide (b < W.heap.size)) p.block = true := fun p hp => by simpa using hlt p hp
  refine ⟨ds, gs, before, [], pa, pv, hW, hres _ _ _, hargs _ hold, hvars _ hold, World.keptBut_mono (fun p hp => ⟨hp, ?_⟩) (hb.frame (· ∈ before)), fun _ => ?_⟩
  · rw [hps, List.mem_append] at hp
    exact Or.inr hp
  · obtain ⟨_, _, _, _, _, hz, hn⟩ := hW
    refine ⟨hok, _, _, ([] ++ pa) ++ pv, ⟨[] ++ pa, pv, trodAll_append (hargs _ (fun _ _ => rfl)) (hres _ _ _), hvars _ (fun _ _ => rfl), rfl, ?_, ?_⟩, ?_⟩
    · intro b off hp
      have hin : MemPlace.cell b off ∈ before := by rw [hps]; simpa using hp
      rw [hb.frozen (hlt _ hin)]
      exact hz b off hin
    · intro ha
      have := hn ha
      rw [hps] at this
      simpa using this
    · intro p hp _
      rw [hps]
      simpa using hp
/-- A law that returned true and left alone what it found. -/
theorem post_law {f : Func} {s : ChangeSpec} {apart fresh handsOn again : Bool} {W W' : World} {args : Array Value} {ds gs : List (DataW H)} {before : List MemPlace} {tb : TypeId}
    (hl : laidOutB P = true) (hts : ∀ t ∈ f.params.toList, P.readableRec t = true ∧ t < P.types.size) (hres : f.resultTypes = #[tb]) (htb : P.underlying tb = some .bool) (hv : s.vars = [])
    (hW : DataW.Whole enc P f.params.toList s.vars apart W args.toList ds gs before) (hfn : s.fn H (ds ++ gs) = { results := [.lit (.bool true)], args := ds }) (hb : Below W.heap.size W W') :
    s.post enc P f apart fresh handsOn again W args (.bool true) W' := by
  have hW2 := hW
  obtain ⟨p, q, hA, hV, rfl, _, _⟩ := hW2
  rw [hv] at hV
  obtain ⟨rfl, rfl⟩ := trodVars_none hV
  refine post_below (pa := p) (pv := []) hW (fun b sp hd => ?_) (fun sp hsp => ?_) (fun sp _ => ?_) rfl hb (ok_one hres rfl (okWide_bool_mk htb _))
  · rw [hfn, hres]
    exact trodAll_mk1 (shut_bool htb _)
  · rw [hfn]
    exact trodAll_stays hl hb sp _ _ _ _ hts hA (fun x hx => hW.lt x (List.mem_append.2 (.inl hx))) (fun x hx => hsp x (List.mem_append.2 (.inl hx)))
  · rw [hfn, hv]
    trivial
end
end Go.Proofs.Ythopdfikikdcbaa
/- What the reading of an argument gives: a slice of integers, a list of nodes. -/
namespace Go.Proofs.Ythopdfikikdcbaa
open Go.RowKit Go.WideShapes Go.ChangeShapes Go.Deep
set_option linter.unusedVariables false
set_option linter.unusedSimpArgs false
section
variable {H : Type} {enc : TypeId × Value → H} {P : Program} {W : World} {base : Nat} {held : Bool}
/-- An integer's value fits its kind. -/
def FitsK (k : IntKind) (x : Int) : Prop := (Lit.int k x).wf = true
theorem weights_len {t e : TypeId} {elems spare : List (DataW H)} (ht : P.underlying t = some (.slice e)) (hb : 1 ≤ P.bytesOf e) (hw : ∀ n ∈ (DataW.slice elems spare).weights P t, n ≤ reachBytes) : elems.length + spare.length ≤ 140737488351232 := by
  have h := hw ((elems.length + spare.length) * P.bytesOf e) (by simp [DataW.weights, ht])
  have h2 : elems.length + spare.length ≤ (elems.length + spare.length) * P.bytesOf e := Nat.le_mul_of_pos_right _ hb
  unfold reachBytes at h
  omega
theorem readI {t e : TypeId} {k : IntKind} {fuel : Nat} {cs : List Value} {d : DataW H} {ps : List MemPlace} (ht : P.underlying t = some (.slice e)) (he : P.underlying e = some (.int k)) (hc : P.cellsOf e = 1) (hby : 1 ≤ P.bytesOf e)
    (h : DataW.trod enc P W base (fun _ => true) held fuel t cs = some (d, ps)) (hw : ∀ n ∈ d.weights P t, n ≤ reachBytes) : ∃ v xs, cs = [v] ∧ Ints k W v xs ∧ ∀ x ∈ xs, FitsK k x := by
  rcases open_ints ht he hc h with ⟨rfl, hx⟩ | ⟨a, len, cap, zs, rfl, hb, hl, hm, hz, hx, hcell, hwf⟩
  · exact ⟨_, [], rfl, ⟨none, 0, rfl, Nat.le_refl _, ⟨by simp, by omega⟩, fun _ => rfl, fun i hi => absurd hi (by simp)⟩, fun x hx => by cases hx⟩
  · simp only [if_true] at hz
    simp only [Prod.mk.injEq] at hx
    have hcap : cap ≤ 140737488351232 := by
      rw [hx.1] at hw
      have := weights_len ht hby hw
      simp [lits] at this
      omega
    have hlen : (zs.take len).length = len := by rw [List.length_take]; omega
    refine ⟨_, zs.take len, rfl, ⟨some a, cap, by rw [hlen], by omega, ⟨by omega, by unfold maxLen at hm; omega⟩, (fun hh => by cases hh), fun i hi => ?_⟩, fun x hx => hwf x (List.mem_of_mem_take hx)⟩
    rw [hlen] at hi
    have hc0 := hcell i (by omega)
    have hs := World.cell?_spot hc0
    obtain ⟨b, o, s⟩ := a
    have hsp : s = none := by
      by_cases e0 : i = 0
      · subst e0; exact World.cell?_spot (hcell 0 (by omega))
      · exact World.cell?_spot (hcell 0 (by omega))
    subst hsp
    have e1 : (⟨b, o, none⟩ : Addr).add i = ⟨b, o + i, none⟩ := by
      unfold Addr.add
      by_cases e0 : i = 0
      · rw [if_pos e0, e0]; rfl
      · rw [if_neg e0]
    rw [e1] at hc0
    refine ⟨b, o, rfl, cell_lt hc0, ?_⟩
    show W.cell? ⟨b, o + i * 1, none⟩ = _
    rw [Nat.mul_one, hc0, List.getD_eq_getElem?_getD, List.getD_eq_getElem?_getD, List.getElem?_take, if_pos hi]
theorem add_add (b o i j : Nat) : ((⟨b, o, none⟩ : Addr).add i).add j = ⟨b, o + i + j, none⟩ := by
  have e : ∀ (o i : Nat), (⟨b, o, none⟩ : Addr).add i = ⟨b, o + i, none⟩ := by
    intro o i
    unfold Addr.add
    by_cases e0 : i = 0
    · rw [if_pos e0, e0]; rfl
    · rw [if_neg e0]
  rw [e, e]
theorem weights_mem {fs : Array Field} {t : TypeId} {parts : List (DataW H)} (ht : P.underlying t = some (.struct fs)) {i : Nat} {f : Field} {d : DataW H} (hf : fs[i]? = some f) (hd : parts[i]? = some d) {n : Nat} (hn : n ∈ d.weights P f.type) : n ∈ (DataW.agg parts).weights P t := by
  have h1 : (fs.toList.map (·.type))[i]? = some f.type := by rw [List.getElem?_map]; simp [hf]
  have := DataW.weights_mem_each h1 hd n hn
  simpa [DataW.weights, ht] using this
theorem weightsAll_mem {e : TypeId} : ∀ {l : List (DataW H)} {d : DataW H}, d ∈ l → ∀ n ∈ d.weights P e, n ∈ DataW.weightsAll P e l
  | x :: l, d, h, n, hn => by
    simp only [DataW.weightsAll, List.mem_append]
    rcases List.mem_cons.1 h with rfl | h
    · exact Or.inl hn
    · exact Or.inr (weightsAll_mem h n hn)
/-- The types of a node, told once. -/
structure NodeTy (P : Program) (e ei : TypeId) (f0 f1 f2 f3 f4 : Field) : Prop where
  st : P.underlying e = some (.struct #[f0, f1, f2, f3, f4])
  o : f0.offset = 0 ∧ f1.offset = 1 ∧ f2.offset = 2 ∧ f3.offset = 3 ∧ f4.offset = 4
  u0 : P.underlying f0.type = some (.int .i64)
  u1 : P.underlying f1.type = some (.int .i64)
  u2 : P.underlying f2.type = some (.int .i64)
  u3 : P.underlying f3.type = some (.slice ei)
  u4 : P.underlying f4.type = some (.int .u32)
  ui : P.underlying ei = some (.int .i64)
  c : P.cellsOf f0.type = 1 ∧ P.cellsOf f1.type = 1 ∧ P.cellsOf f2.type = 1 ∧ P.cellsOf f3.type = 1 ∧ P.cellsOf f4.type = 1 ∧ P.cellsOf ei = 1 ∧ P.cellsOf e = 5
  b : 1 ≤ P.bytesOf ei
theorem readN1 {e ei : TypeId} {f0 f1 f2 f3 f4 : Field} (T : NodeTy P e ei f0 f1 f2 f3 f4) {fuel b o : Nat} {cs : List Value} {d : DataW H} {ps : List MemPlace}
    (hcs : ∀ i, i < 5 → W.cell? ⟨b, o + i, none⟩ = cs[i]?) (hl : cs.length = 5) (h : DataW.trod enc P W base (fun _ => true) held fuel e cs = some (d, ps)) (hw : ∀ n ∈ d.weights P e, n ≤ reachBytes) :
    ∃ x : Nd, NdAt W b o x ∧ FitsK .u32 x.imm ∧ FitsK .i64 x.op ∧ FitsK .i64 x.width ∧ FitsK .i64 x.flags ∧ ∀ a ∈ x.args, FitsK .i64 a := by
  obtain ⟨xs, n, _, hx, _, hn, hf⟩ := DataW.trod_struct T.st h
  obtain ⟨o0, o1, o2, o3, o4⟩ := T.o
  obtain ⟨k0, k1, k2, k3, k4, ki, ke⟩ := T.c
  simp only [Prod.mk.injEq] at hx
  match cs, hl with
  | [v0, v1, v2, v3, v4], _ =>
  match xs, hn with
  | [y0, y1, y2, y3, y4], _ =>
  have g0 := hf 0 f0 rfl
  have g1 := hf 1 f1 rfl
  have g2 := hf 2 f2 rfl
  have g3 := hf 3 f3 rfl
  have g4 := hf 4 f4 rfl
  rw [o0, k0] at g0
  rw [o1, k1] at g1
  rw [o2, k2] at g2
  rw [o3, k3] at g3
  rw [o4, k4] at g4
  obtain ⟨n0, a0, _, w0⟩ := DataW.trod_int T.u0 (show DataW.trod enc P W base (fun _ => true) held n f0.type [v0] = some y0 from g0)
  obtain ⟨n1, a1, _, w1⟩ := DataW.trod_int T.u1 (show DataW.trod enc P W base (fun _ => true) held n f1.type [v1] = some y1 from g1)
  obtain ⟨n2, a2, _, w2⟩ := DataW.trod_int T.u2 (show DataW.trod enc P W base (fun _ => true) held n f2.type [v2] = some y2 from g2)
  obtain ⟨n4, a4, _, w4⟩ := DataW.trod_int T.u4 (show DataW.trod enc P W base (fun _ => true) held n f4.type [v4] = some y4 from g4)
  obtain ⟨d3, p3⟩ := y3
  obtain ⟨v, zs, a3, hz, wz⟩ := readI T.u3 T.ui ki T.b (show DataW.trod enc P W base (fun _ => true) held n f3.type [v3] = some (d3, p3) from g3) (fun m hm => by
    refine hw m ?_
    rw [hx.1]
    exact weights_mem T.st (i := 3) (f := f3) rfl rfl hm)
  cases a0; cases a1; cases a2; cases a3; cases a4
  exact ⟨⟨n0, n1, n2, zs, n4⟩, ⟨hcs 0 (by omega), hcs 1 (by omega), hcs 2 (by omega), ⟨v3, hcs 3 (by omega), hz⟩, hcs 4 (by omega)⟩, w4, w0, w1, w2, wz⟩
theorem readN {t e ei : TypeId} {f0 f1 f2 f3 f4 : Field} (ht : P.underlying t = some (.slice e)) (T : NodeTy P e ei f0 f1 f2 f3 f4) (hby : 1 ≤ P.bytesOf e) {fuel : Nat} {cs : List Value} {d : DataW H} {ps : List MemPlace}
    (h : DataW.trod enc P W base (fun _ => true) held fuel t cs = some (d, ps)) (hw : ∀ n ∈ d.weights P t, n ≤ reachBytes) :
    ∃ v ts, cs = [v] ∧ Nds W v ts ∧ ∀ x ∈ ts, FitsK .u32 x.imm ∧ FitsK .i64 x.op ∧ FitsK .i64 x.width ∧ FitsK .i64 x.flags ∧ ∀ a ∈ x.args, FitsK .i64 a := by
  rcases open_slice ht h with ⟨rfl, hx⟩ | ⟨a, len, cap, m, n, D, Pl, rfl, hb, hl, hm, hmm, hx, hel⟩
  · exact ⟨_, [], rfl, ⟨none, 0, rfl, Nat.le_refl _, ⟨by simp, by omega⟩, fun _ => rfl, fun i hi => absurd hi (by simp)⟩, fun x hx => by cases hx⟩
  · simp only [if_true] at hmm
    subst hmm
    simp only [Prod.mk.injEq] at hx
    obtain ⟨hd, _⟩ := hx
    have hcap : m ≤ 140737488351232 := by
      rw [hd] at hw
      have := weights_len ht hby hw
      simp at this
      omega
    obtain ⟨_, _, _, _, _, _, ke⟩ := T.c
    by_cases hz : len = 0
    · subst hz
      exact ⟨_, [], rfl, ⟨some a, m, rfl, by omega, ⟨by simp, by omega⟩, (fun hh => by cases hh), fun i hi => absurd hi (by simp)⟩, fun x hx => by cases hx⟩
    have hsp : a.spot = none := by
      obtain ⟨cs', h1, _⟩ := hel 0 (by omega)
      rw [ke] at h1
      obtain ⟨_, hl5, hg⟩ := World.cells?_some h1
      have h0 := hg 0 (by omega)
      have e0 : (a.add (0 * 5)).add 0 = a := by simp [Addr.add]
      rw [e0, List.getElem?_eq_getElem (by omega)] at h0
      exact World.cell?_spot h0
    obtain ⟨b, o, s⟩ := a
    simp only at hsp
    subst hsp
    obtain ⟨V, hV⟩ := choose_lt (α := Nd) (n := len) (p := fun i x => NdAt W b (o + i * 5) x ∧ FitsK .u32 x.imm ∧ FitsK .i64 x.op ∧ FitsK .i64 x.width ∧ FitsK .i64 x.flags ∧ ∀ a ∈ x.args, FitsK .i64 a) (fun i hi => by
      obtain ⟨cs', h1, h2⟩ := hel i (by omega)
      rw [ke] at h1
      obtain ⟨_, hl5, hg⟩ := World.cells?_some h1
      exact readN1 T (fun j hj => by rw [← add_add b o (i * 5) j]; exact hg j hj) hl5 h2 (fun k hk => by
        refine hw k ?_
        rw [hd]
        simp only [DataW.weights, ht, List.mem_cons, List.mem_append]
        exact Or.inr (Or.inl (weightsAll_mem (List.mem_map.2 ⟨i, List.mem_range.2 hi, rfl⟩) k hk))))
    have hlen : ((List.range len).map V).length = len := by simp
    have hget : ∀ i, i < len → ((List.range len).map V).getD i default = V i := fun i hi => by
      rw [List.getD_eq_getElem?_getD, List.getElem?_map, List.getElem?_range hi]; rfl
    refine ⟨_, (List.range len).map V, rfl, ⟨some ⟨b, o, none⟩, m, by rw [hlen], by omega, ⟨by omega, by omega⟩, (fun hh => by cases hh), fun i hi => ?_⟩, fun x hx => ?_⟩
    · rw [hlen] at hi
      refine ⟨b, o, rfl, cell_lt (hV i hi).1.1, ?_⟩
      show NdAt W b (o + i * 5) _
      rw [hget i hi]
      exact (hV i hi).1
    · obtain ⟨i, hi, rfl⟩ := List.mem_map.1 hx
      exact (hV i (List.mem_range.1 hi)).2
theorem fits_u32 {x : Int} (h : FitsK .u32 x) : 0 ≤ x ∧ x ≤ 4294967295 := by simpa [FitsK, Lit.wf, IntKind.min, IntKind.max, IntKind.signed, IntKind.bits] using h
theorem fits_i64 {x : Int} (h : FitsK .i64 x) : -9223372036854775808 ≤ x ∧ x ≤ 9223372036854775807 := by simpa [FitsK, Lit.wf, IntKind.min, IntKind.max, IntKind.signed, IntKind.bits] using h
end
end Go.Proofs.Ythopdfikikdcbaa
/- What the reading of a list of lists of nodes gives. -/
namespace Go.Proofs.Ythopdfikikdcbaa
open Go.RowKit Go.WideShapes Go.ChangeShapes Go.Deep
set_option linter.unusedVariables false
set_option linter.unusedSimpArgs false
section
variable {H : Type} {enc : TypeId × Value → H} {P : Program} {W : World} {base : Nat} {held : Bool}
theorem readNN {tt t e ei : TypeId} {f0 f1 f2 f3 f4 : Field} (htt : P.underlying tt = some (.slice t)) (ht : P.underlying t = some (.slice e)) (T : NodeTy P e ei f0 f1 f2 f3 f4) (hc : P.cellsOf t = 1) (hby2 : 1 ≤ P.bytesOf t) (hby : 1 ≤ P.bytesOf e) {fuel : Nat} {cs : List Value} {d : DataW H} {ps : List MemPlace}
    (h : DataW.trod enc P W base (fun _ => true) held fuel tt cs = some (d, ps)) (hw : ∀ n ∈ d.weights P tt, n ≤ reachBytes) :
    ∃ v pts, cs = [v] ∧ Ndss W v pts ∧ ∀ p ∈ pts, ∀ x ∈ p, FitsK .u32 x.imm ∧ FitsK .i64 x.op ∧ FitsK .i64 x.width ∧ FitsK .i64 x.flags ∧ ∀ a ∈ x.args, FitsK .i64 a := by
  rcases open_slice htt h with ⟨rfl, hx⟩ | ⟨a, len, cap, m, n, D, Pl, rfl, hb, hl, hm, hmm, hx, hel⟩
  · exact ⟨_, [], rfl, ⟨none, 0, rfl, Nat.le_refl _, ⟨by simp, by omega⟩, fun _ => rfl, fun i hi => absurd hi (by simp)⟩, fun x hx => by cases hx⟩
  · simp only [if_true] at hmm
    subst hmm
    simp only [Prod.mk.injEq] at hx
    obtain ⟨hd, _⟩ := hx
    have hcap : m ≤ 140737488351232 := by
      rw [hd] at hw
      have := weights_len htt hby2 hw
      simp at this
      omega
    by_cases hz : len = 0
    · subst hz
      exact ⟨_, [], rfl, ⟨some a, m, rfl, by omega, ⟨by simp, by omega⟩, (fun hh => by cases hh), fun i hi => absurd hi (by simp)⟩, fun x hx => by cases hx⟩
    have hsp : a.spot = none := by
      obtain ⟨cs', h1, _⟩ := hel 0 (by omega)
      rw [hc] at h1
      obtain ⟨_, hl5, hg⟩ := World.cells?_some h1
      have h0 := hg 0 (by omega)
      have e0 : (a.add (0 * 1)).add 0 = a := by simp [Addr.add]
      rw [e0, List.getElem?_eq_getElem (by omega)] at h0
      exact World.cell?_spot h0
    obtain ⟨b, o, s⟩ := a
    simp only at hsp
    subst hsp
    obtain ⟨V, hV⟩ := choose_lt (α := List Nd) (n := len) (p := fun i x => b < W.heap.size ∧ (∃ u, W.cell? ⟨b, o + i * 1, none⟩ = some u ∧ Nds W u x) ∧ ∀ y ∈ x, FitsK .u32 y.imm ∧ FitsK .i64 y.op ∧ FitsK .i64 y.width ∧ FitsK .i64 y.flags ∧ ∀ a ∈ y.args, FitsK .i64 a) (fun i hi => by
      obtain ⟨cs', h1, h2⟩ := hel i (by omega)
      rw [hc] at h1
      obtain ⟨_, hl5, hg⟩ := World.cells?_some h1
      obtain ⟨u, ts, hcs, hN, hwf⟩ := readN ht T hby h2 (fun k hk => by
        refine hw k ?_
        rw [hd]
        simp only [DataW.weights, htt, List.mem_cons, List.mem_append]
        exact Or.inr (Or.inl (weightsAll_mem (List.mem_map.2 ⟨i, List.mem_range.2 hi, rfl⟩) k hk)))
      have h0 := hg 0 (by omega)
      rw [add_add b o (i * 1) 0, hcs] at h0
      have h0' : W.cell? ⟨b, o + i * 1, none⟩ = some u := h0
      exact ⟨ts, cell_lt h0', ⟨u, h0', hN⟩, hwf⟩)
    have hlen : ((List.range len).map V).length = len := by simp
    have hget : ∀ i, i < len → ((List.range len).map V).getD i [] = V i := fun i hi => by
      rw [List.getD_eq_getElem?_getD, List.getElem?_map, List.getElem?_range hi]; rfl
    refine ⟨_, (List.range len).map V, rfl, ⟨some ⟨b, o, none⟩, m, by rw [hlen], by omega, ⟨by omega, by omega⟩, (fun hh => by cases hh), fun i hi => ?_⟩, fun x hx => ?_⟩
    · rw [hlen] at hi
      refine ⟨b, o, rfl, (hV i hi).1, ?_⟩
      show ∃ u, W.cell? ⟨b, o + i * 1, none⟩ = some u ∧ Nds W u _
      rw [hget i hi]
      exact (hV i hi).2.1
    · obtain ⟨i, hi, rfl⟩ := List.mem_map.1 hx
      exact (hV i (List.mem_range.1 hi)).2.2
end
end Go.Proofs.Ythopdfikikdcbaa
