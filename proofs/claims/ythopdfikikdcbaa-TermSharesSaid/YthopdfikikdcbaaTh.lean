/- Walks of backstayref07.Checked, Validate. -/
import Derived.Test.YthopdfikikdcbaaTg
namespace Go.Proofs.Ythopdfikikdcbaa
open Go.RowKit Wd
set_option linter.unusedVariables false
set_option linter.unusedSimpArgs false

set_option maxRecDepth 100000 in
set_option maxHeartbeats 8000000 in
theorem rChecked (ts : List Nd) (tv : Value) (w : World) (hts : Nds w tv ts) (hi : ∀ x ∈ ts, 0 ≤ x.imm ∧ x.imm ≤ 4294967295) : Calls Try.prog 48 #[tv, .bool true] w fun e w' => e = .returned (.int .i64 (valE ts)) ∧ Below w.heap.size w w' := by
  have HT := Lib.hid hts
  have HI := Lib.hid hi
  obtain ⟨ta, tc, rfl, ht1, ht2, _⟩ := hts
  clear hi
  by_cases g1 : ts.length < 1
  · have HV : Hid (valE ts = 3) := valE_3 (.inl g1)
    have q1 : decide ((ts.length : Int) < 1) = true := by simp; omega
    go_enter Try.func48, Try.ntmps48
    go_wp2_with fail
    go_ret
    exact ⟨ret_i HV.out.symm, Below.refl _ _⟩
  have q1 : decide ((ts.length : Int) < 1) = false := by simp; omega
  by_cases g2 : 300 < ts.length
  · have HV : Hid (valE ts = 3) := valE_3 (.inr g2)
    have q2 : decide (300 < (ts.length : Int)) = true := by simp; omega
    go_enter Try.func48, Try.ntmps48
    go_wp2_with fail
    go_ret
    exact ⟨ret_i HV.out.symm, Below.refl _ _⟩
  have q2 : decide (300 < (ts.length : Int)) = false := by simp; omega
  have G : Hid (¬ (ts.length < 1 ∨ 300 < ts.length)) := fun h => by omega
  go_enter Try.func48, Try.ntmps48
  go_wp2_with fail
  go_loopw [5] (fun i wr => ∃ j : Nat, j ≤ ts.length ∧ i = .int .i64 j ∧ Hid (∀ i, i < j → shaped i (ts.getD i default) = true) ∧ Below w.heap.size w wr) (fun i _ => ts.length - (intOf i).toNat)
  case atStart => exact ⟨0, Nat.zero_le _, rfl, (fun i hi => absurd hi (by omega)), Below.refl _ _⟩
  case round =>
    obtain ⟨j, hj, rfl, hno, hb⟩ := hrel
    by_cases hlt : j < ts.length
    · have HTT := Lib.hid (HT.out.stays hb)
      have him := Lib.hid (HI.out _ (mem_getD hlt))
      have hbs := hb.size
      have HB := Lib.hid hb
      clear hb
      cases hs : shaped j (ts.getD j default)
      · have HV : Hid (valE ts = 1) := valE_1 G.out (okS_bad hlt hs)
        have HS := Lib.hid hs
        clear hs
        go_wp2_with fail
        refine (rArg ts _ j _ HTT.out hlt him.out.1 him.out.2).mono ?_
        rintro e w' ⟨rfl, hb1⟩
        rw [HS.out]
        go_wp2_with fail
        go_ret
        exact ⟨ret_i HV.out.symm, below_next HB.out hbs hb1⟩
      · have HS := Lib.hid hs
        clear hs
        go_wp2_with fail
        refine (rArg ts _ j _ HTT.out hlt him.out.1 him.out.2).mono ?_
        rintro e w' ⟨rfl, hb1⟩
        rw [HS.out]
        go_wp2_with fail
        go_roundw
        case rel => exact ⟨j + 1, by omega, by go_num, (fun i hi => by
          by_cases e : i = j
          · rw [e]; exact HS.out
          · exact hno.out i (by omega)), below_next HB.out hbs hb1⟩
        case measure => simp [intOf]; omega
    · obtain rfl : j = ts.length := by omega
      have HS : Hid (okS ts = true) := okS_good hno.out
      obtain ⟨wo, rfl⟩ : ∃ wo : World, wo = wr := ⟨_, rfl⟩
      have HB := Lib.hid hb
      clear hb
      go_wp2_with fail
      go_loopw [6] (fun i wr => ∃ j : Nat, j ≤ ts.length ∧ i = .int .i64 j ∧ Hid (∀ i, i < j → typed ts (ts.getD i default) = true) ∧ Below w.heap.size w wr) (fun i _ => ts.length - (intOf i).toNat)
      case atStart => exact ⟨0, Nat.zero_le _, rfl, (fun i hi => absurd hi (by omega)), HB.out⟩
      case round =>
        obtain ⟨j, hj, rfl, hty, hb⟩ := hrel
        by_cases hlt : j < ts.length
        · have HTT := Lib.hid (HT.out.stays hb)
          obtain ⟨b, q, c', e', _, _, hbq, c0, c1, c2, ⟨av, c3, hav⟩, c4⟩ := HTT.out.at hlt
          cases e'
          have HF := Lib.hid (shaped_facts (hno.out j hlt))
          generalize hx : ts.getD j default = x at *
          have HX := Lib.hid hx
          clear hx
          obtain ⟨op, width, flags, args, imm⟩ := x
          simp only at c0 c1 c2 c3 c4 hav
          have HAV := Lib.hid hav
          obtain ⟨aa, ac, rfl, _⟩ := hav
          have hbs := hb.size
          have HBB := Lib.hid hb
          clear hb
          have HA : Hid (∀ a ∈ args, 0 ≤ a ∧ a < ts.length) := fun a ha => by have := HF.out.2.1 a ha; omega
          cases hs : typed ts ⟨op, width, flags, args, imm⟩
          · have HV : Hid (valE ts = 6) := valE_6 G.out HS.out (okT_bad hlt (by rw [HX.out]; exact hs))
            go_wp2_with fail
            refine (rTyped ts ⟨op, width, flags, args, imm⟩ _ _ _ HTT.out HAV.out HF.out.1 HA.out).mono ?_
            rintro e w' ⟨rfl, hb1⟩
            go_wp2_with fail
            go_ret
            exact ⟨ret_i HV.out.symm, below_next HBB.out hbs hb1⟩
          · have HTS := Lib.hid hs
            go_wp2_with fail
            refine (rTyped ts ⟨op, width, flags, args, imm⟩ _ _ _ HTT.out HAV.out HF.out.1 HA.out).mono ?_
            rintro e w' ⟨rfl, hb1⟩
            go_wp2_with fail
            go_roundw
            case rel => exact ⟨j + 1, by omega, by go_num, (fun i hi => by
              by_cases e : i = j
              · rw [e, HX.out]; exact HTS.out
              · exact hty.out i (by omega)), below_next HBB.out hbs hb1⟩
            case measure => simp [intOf]; omega
        · obtain rfl : j = ts.length := by omega
          have HTO : Hid (okT ts = true) := okT_good hty.out
          obtain ⟨wp, rfl⟩ : ∃ wp : World, wp = wr := ⟨_, rfl⟩
          have HBB := Lib.hid hb
          clear hb
          go_wp2_with fail
          go_loopw [7] (fun i wr => ∃ j : Nat, j ≤ ts.length ∧ i = .int .i64 j ∧ Hid (∀ k, k < j → ∀ i, i < k → clash (ts.getD i default) (ts.getD k default) = false) ∧ Below w.heap.size w wr) (fun i _ => ts.length - (intOf i).toNat)
          case atStart => exact ⟨0, Nat.zero_le _, rfl, (fun i hi => absurd hi (by omega)), HBB.out⟩
          case round =>
            obtain ⟨k, hk, rfl, hcalm, hb⟩ := hrel
            by_cases hlt : k < ts.length
            · obtain ⟨wq, rfl⟩ : ∃ wq : World, wq = wr := ⟨_, rfl⟩
              have HB3 := Lib.hid hb
              clear hb
              go_wp2_with fail
              go_loopw [8] (fun i wr => ∃ i' : Nat, i' ≤ k ∧ i = .int .i64 i' ∧ Hid (∀ i, i < i' → clash (ts.getD i default) (ts.getD k default) = false) ∧ Below w.heap.size w wr) (fun i _ => k - (intOf i).toNat)
              case atStart => exact ⟨0, Nat.zero_le _, rfl, (fun i hi => absurd hi (by omega)), HB3.out⟩
              case round =>
                obtain ⟨i, hik, rfl, hcalm2, hb⟩ := hrel
                by_cases hli : i < k
                · have hlti : i < ts.length := by omega
                  have HTT := HT.out.stays hb
                  obtain ⟨b, q, c', e', _, _, hbq, x0, x1, x2, ⟨xv, x3, _⟩, x4⟩ := HTT.at hlti
                  cases e'
                  obtain ⟨b2, q2, c2, e', _, _, _, y0, y1, y2, ⟨yv, y3, _⟩, y4⟩ := HTT.at hlt
                  cases e'
                  clear HTT HB3
                  have HB3 := Lib.hid hb
                  clear hb
                  generalize hxa : ts.getD i default = xa at *
                  have HXA := Lib.hid hxa
                  clear hxa
                  generalize hxb : ts.getD k default = xb at *
                  have HXB := Lib.hid hxb
                  clear hxb
                  obtain ⟨opa, widtha, flagsa, argsa, imma⟩ := xa
                  obtain ⟨opb, widthb, flagsb, argsb, immb⟩ := xb
                  simp only at x0 x1 x2 x3 x4 y0 y1 y2 y3 y4
                  cases c1 : (opa == 33)
                  · have hcl : clash ⟨opa, widtha, flagsa, argsa, imma⟩ ⟨opb, widthb, flagsb, argsb, immb⟩ = false := by simp only [clash, c1]; try rfl
                    have HC := Lib.hid hcl
                    clear hcl
                    go_wp2_with fail
                    go_quiet (fail)
                    go_wp2_with fail
                    go_roundw
                    case rel => exact ⟨i + 1, by omega, by go_num, (fun i' hi' => by
                      by_cases e : i' = i
                      · rw [e, HXA.out]; exact HC.out
                      · exact hcalm2.out i' (by omega)), below_drewN HB3.out _⟩
                    case measure => simp [intOf]; omega
                  · cases c2 : (opb == 33)
                    · have hcl : clash ⟨opa, widtha, flagsa, argsa, imma⟩ ⟨opb, widthb, flagsb, argsb, immb⟩ = false := by simp only [clash, c1, c2]; try rfl
                      have HC := Lib.hid hcl
                      clear hcl
                      go_wp2_with fail
                      go_quiet (fail)
                      go_wp2_with fail
                      go_roundw
                      case rel => exact ⟨i + 1, by omega, by go_num, (fun i' hi' => by
                        by_cases e : i' = i
                        · rw [e, HXA.out]; exact HC.out
                        · exact hcalm2.out i' (by omega)), below_drewN HB3.out _⟩
                      case measure => simp [intOf]; omega
                    · cases c3 : (imma == immb)
                      · have hcl : clash ⟨opa, widtha, flagsa, argsa, imma⟩ ⟨opb, widthb, flagsb, argsb, immb⟩ = false := by simp only [clash, c1, c2, c3]; try rfl
                        have HC := Lib.hid hcl
                        clear hcl
                        go_wp2_with fail
                        go_quiet (fail)
                        go_wp2_with fail
                        go_roundw
                        case rel => exact ⟨i + 1, by omega, by go_num, (fun i' hi' => by
                          by_cases e : i' = i
                          · rw [e, HXA.out]; exact HC.out
                          · exact hcalm2.out i' (by omega)), below_drewN HB3.out _⟩
                        case measure => simp [intOf]; omega
                      · cases c4 : (widtha != widthb)
                        · have hcl : clash ⟨opa, widtha, flagsa, argsa, imma⟩ ⟨opb, widthb, flagsb, argsb, immb⟩ = false := by simp only [clash, c1, c2, c3, c4]; try rfl
                          have HC := Lib.hid hcl
                          clear hcl
                          go_wp2_with fail
                          go_quiet (fail)
                          go_wp2_with fail
                          go_roundw
                          case rel => exact ⟨i + 1, by omega, by go_num, (fun i' hi' => by
                            by_cases e : i' = i
                            · rw [e, HXA.out]; exact HC.out
                            · exact hcalm2.out i' (by omega)), below_drewN HB3.out _⟩
                          case measure => simp [intOf]; omega
                        · have hcl : clash ⟨opa, widtha, flagsa, argsa, imma⟩ ⟨opb, widthb, flagsb, argsb, immb⟩ = true := by simp only [clash, c1, c2, c3, c4]; try rfl
                          have HC := Lib.hid hcl
                          clear hcl
                          have HV : Hid (valE ts = 7) := valE_7 G.out HS.out HTO.out (wmap_clash (fun x hx => (HI.out x hx).1) hno.out hlt hli (by rw [HXA.out, HXB.out]; exact HC.out))
                          go_wp2_with fail
                          go_quiet (fail)
                          go_wp2_with fail
                          go_ret
                          exact ⟨ret_i HV.out.symm, below_drewN HB3.out _⟩

                · obtain rfl : i = k := by omega
                  have HB4 := Lib.hid hb
                  clear hb
                  go_wp2_with fail
                  go_roundw
                  case rel => exact ⟨i + 1, by omega, by go_num, (fun k' hk' => by
                    by_cases e : k' = i
                    · rw [e]; exact hcalm2.out
                    · exact hcalm.out k' (by omega)), HB4.out⟩
                  case measure => simp [intOf]; omega
            · obtain rfl : k = ts.length := by omega
              have HV : Hid (valE ts = 0) := valE_0 G.out HS.out HTO.out (wmap_calm (fun x hx => (HI.out x hx).1) hno.out hcalm.out)
              have HB4 := Lib.hid hb
              clear hb
              go_wp2_with fail
              go_ret
              exact ⟨ret_i HV.out.symm, HB4.out⟩

set_option maxRecDepth 100000 in
theorem rValidate (ts : List Nd) (tv : Value) (w : World) (hts : Nds w tv ts) (hi : ∀ x ∈ ts, 0 ≤ x.imm ∧ x.imm ≤ 4294967295) : Calls Try.prog 18 #[tv] w fun e w' => e = .returned (.int .i64 (valE ts)) ∧ Below w.heap.size w w' := by
  have HT := Lib.hid hts
  have HI := Lib.hid hi
  obtain ⟨ta, tc, rfl, ht1, ht2, _⟩ := hts
  clear hi
  go_enter Try.func18, Try.ntmps18
  go_wp2_with fail
  refine (rChecked ts _ _ HT.out HI.out).mono ?_
  rintro e w' ⟨rfl, hb1⟩
  go_wp2_with fail
  go_ret
  exact ⟨rfl, hb1⟩

end Go.Proofs.Ythopdfikikdcbaa
