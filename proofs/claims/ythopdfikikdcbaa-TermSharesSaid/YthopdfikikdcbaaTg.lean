/- Which terms are valid: the plain law; and the walks of Validate, Checked. -/
import Derived.Test.YthopdfikikdcbaaTf
namespace Go.Proofs.Ythopdfikikdcbaa
open Go.RowKit Wd
set_option linter.unusedVariables false
set_option linter.unusedSimpArgs false
def okS (ts : List Nd) : Bool := (List.range ts.length).all fun k => shaped k (ts.getD k default)
def okT (ts : List Nd) : Bool := ts.all (typed ts)
/-- The error of a term. -/
def valE (ts : List Nd) : Int := if ts.length < 1 ∨ 300 < ts.length then 3 else if okS ts = false then 1 else if okT ts = false then 6 else if wmap ts = none then 7 else 0
theorem okS_bad {ts : List Nd} {j : Nat} (hj : j < ts.length) (h : shaped j (ts.getD j default) = false) : okS ts = false := by
  rw [Bool.eq_false_iff]
  intro ha
  have := List.all_eq_true.1 ha j (List.mem_range.2 hj)
  rw [h] at this; cases this
theorem okS_good {ts : List Nd} (h : ∀ i, i < ts.length → shaped i (ts.getD i default) = true) : okS ts = true :=
  List.all_eq_true.2 fun i hi => h i (List.mem_range.1 hi)
theorem okS_at {ts : List Nd} (h : okS ts = true) {i : Nat} (hi : i < ts.length) : shaped i (ts.getD i default) = true := List.all_eq_true.1 h i (List.mem_range.2 hi)
theorem okT_bad {ts : List Nd} {j : Nat} (hj : j < ts.length) (h : typed ts (ts.getD j default) = false) : okT ts = false := by
  rw [Bool.eq_false_iff]
  intro ha
  have := List.all_eq_true.1 ha _ (mem_getD hj)
  rw [h] at this; cases this
theorem okT_good {ts : List Nd} (h : ∀ i, i < ts.length → typed ts (ts.getD i default) = true) : okT ts = true :=
  List.all_eq_true.2 fun x hx => by
    obtain ⟨i, hi, rfl⟩ := List.getElem_of_mem hx
    have := h i hi
    rw [List.getD_eq_getElem?_getD, List.getElem?_eq_getElem hi] at this
    exact this
theorem okT_at {ts : List Nd} (h : okT ts = true) {i : Nat} (hi : i < ts.length) : typed ts (ts.getD i default) = true := List.all_eq_true.1 h _ (mem_getD hi)
theorem shaped_facts {k : Nat} {x : Nd} (h : shaped k x = true) : (x.args.length : Int) = arV x.op ∧ (∀ a ∈ x.args, 0 ≤ a ∧ a < k) ∧ (1 ≤ x.width ∧ x.width ≤ 32) ∧ x.flags = 0 ∧ immOk x = true ∧ (x.op = 33 → x.imm < 4) ∧ (x.op = 14 → x.width = 1) ∧ arV x.op ≠ -1 := by
  unfold shaped at h
  simp only [Bool.and_eq_true, Bool.not_eq_true', bne_iff_ne, ne_eq, decide_eq_false_iff_not, Bool.and_eq_false_imp, beq_iff_eq, bne_eq_false_iff_eq] at h
  obtain ⟨⟨⟨⟨⟨⟨⟨h1, h2⟩, h3⟩, h4⟩, h5⟩, h6⟩, h7⟩, h8⟩ := h
  refine ⟨h5, fun a ha => ?_, ⟨by omega, by omega⟩, h4, h6, fun h33 => ?_, h7, h1⟩
  · have := List.any_eq_false.1 h8 a ha
    simp only [bad, Bool.or_eq_true, decide_eq_true_eq, not_or] at this
    omega
  · unfold immOk at h6
    rw [if_neg (by omega), if_pos h33] at h6
    simpa using h6
/-- Two variables of one number and two widths. -/
def clash (x y : Nd) : Bool := (x.op == 33) && (y.op == 33) && (x.imm == y.imm) && (x.width != y.width)
theorem clash_iff (x y : Nd) : clash x y = true ↔ x.op = 33 ∧ y.op = 33 ∧ x.imm = y.imm ∧ x.width ≠ y.width := by
  simp [clash, and_assoc]
theorem getD_set_self {l : List Int} {k : Nat} {x : Int} (h : k < l.length) : (l.set k x).getD k 0 = x := by
  rw [List.getD_eq_getElem?_getD, List.getElem?_set_self h]; rfl
theorem getD_set_ne {l : List Int} {k j : Nat} {x : Int} (h : k ≠ j) : (l.set k x).getD j 0 = l.getD j 0 := by
  rw [List.getD_eq_getElem?_getD, List.getD_eq_getElem?_getD, List.getElem?_set_ne h]
theorem wmap_inv {ts : List Nd} (hI : ∀ x ∈ ts, 0 ≤ x.imm) (hS : ∀ i, i < ts.length → shaped i (ts.getD i default) = true) : ∀ (j : Nat) (l : List Int), j ≤ ts.length → wmap (ts.take j) = some l →
    (∀ i, i < j → (ts.getD i default).op = 33 → l.getD (ts.getD i default).imm.toNat 0 = (ts.getD i default).width) ∧
    (∀ v, l.getD v 0 ≠ 0 → ∃ i, i < j ∧ (ts.getD i default).op = 33 ∧ (ts.getD i default).imm = v ∧ (ts.getD i default).width = l.getD v 0)
  | 0, l, _, h => by
    refine ⟨fun i hi => absurd hi (by omega), fun v hv => ?_⟩
    rw [List.take_zero] at h
    cases h
    have : v = 0 ∨ v = 1 ∨ v = 2 ∨ v = 3 ∨ 4 ≤ v := by omega
    exfalso
    apply hv
    rcases this with rfl | rfl | rfl | rfl | h4
    · rfl
    · rfl
    · rfl
    · rfl
    · rw [List.getD_eq_getElem?_getD, List.getElem?_eq_none (by simpa using h4)]; rfl
  | j + 1, l, hj, h => by
    have hlt : j < ts.length := by omega
    rw [wmap_snoc ts j hlt] at h
    cases e : wmap (ts.take j) with
    | none => rw [e] at h; cases h
    | some l0 =>
      obtain ⟨i1, i2⟩ := wmap_inv hI hS j l0 (by omega) e
      have hl0 := wmap_len e
      rw [e] at h
      obtain ⟨s1, s2, s3, s4, s5, s6, s7, s8⟩ := shaped_facts (hS j hlt)
      have him := hI _ (mem_getD hlt)
      by_cases h33 : (ts.getD j default).op = 33
      · have hk : (ts.getD j default).imm.toNat < l0.length := by have := s6 h33; omega
        have hl : l = l0.set (ts.getD j default).imm.toNat (ts.getD j default).width ∧ ¬ (l0.getD (ts.getD j default).imm.toNat 0 ≠ 0 ∧ l0.getD (ts.getD j default).imm.toNat 0 ≠ (ts.getD j default).width) := by
          simp only [wstep, if_pos h33] at h
          by_cases c : l0.getD (ts.getD j default).imm.toNat 0 ≠ 0 ∧ l0.getD (ts.getD j default).imm.toNat 0 ≠ (ts.getD j default).width
          · rw [if_pos c] at h; cases h
          · rw [if_neg c] at h; cases h; exact ⟨rfl, c⟩
        obtain ⟨rfl, hc⟩ := hl
        refine ⟨fun i hi h3 => ?_, fun v hv => ?_⟩
        · by_cases e2 : i = j
          · subst e2; exact getD_set_self hk
          · have hi2 := i1 i (by omega) h3
            obtain ⟨_, _, t3, _⟩ := shaped_facts (hS i (by omega))
            by_cases e3 : (ts.getD i default).imm.toNat = (ts.getD j default).imm.toNat
            · rw [e3] at hi2 ⊢
              rw [getD_set_self hk]
              omega
            · rw [getD_set_ne (fun hh => e3 hh.symm)]; exact hi2
        · by_cases e3 : (ts.getD j default).imm.toNat = v
          · subst e3
            rw [getD_set_self hk] at hv ⊢
            exact ⟨j, by omega, h33, by omega, rfl⟩
          · rw [getD_set_ne e3] at hv ⊢
            obtain ⟨i, hi, r⟩ := i2 v hv
            exact ⟨i, by omega, r⟩
      · rw [wstep_other h33] at h
        cases h
        refine ⟨fun i hi h3 => ?_, fun v hv => ?_⟩
        · by_cases e2 : i = j
          · subst e2; exact absurd h3 h33
          · exact i1 i (by omega) h3
        · obtain ⟨i, hi, r⟩ := i2 v hv
          exact ⟨i, by omega, r⟩
theorem wmap_clash {ts : List Nd} (hI : ∀ x ∈ ts, 0 ≤ x.imm) (hS : ∀ i, i < ts.length → shaped i (ts.getD i default) = true) {i k : Nat} (hk : k < ts.length) (hi : i < k) (hc : clash (ts.getD i default) (ts.getD k default) = true) : wmap ts = none := by
  obtain ⟨c1, c2, c3, c4⟩ := (clash_iff _ _).1 hc
  cases e : wmap (ts.take k) with
  | none => exact wmap_dead ts k e
  | some l =>
    apply wmap_dead ts (k + 1)
    rw [wmap_snoc ts k hk, e]
    obtain ⟨i1, _⟩ := wmap_inv hI hS k l (by omega) e
    have hi2 := i1 i hi c1
    obtain ⟨_, _, t3, _⟩ := shaped_facts (hS i (by omega))
    simp only [wstep, if_pos c2]
    rw [← c3, hi2, if_pos ⟨by omega, c4⟩]
theorem wmap_calm {ts : List Nd} (hI : ∀ x ∈ ts, 0 ≤ x.imm) (hS : ∀ i, i < ts.length → shaped i (ts.getD i default) = true) (hc : ∀ k, k < ts.length → ∀ i, i < k → clash (ts.getD i default) (ts.getD k default) = false) : wmap ts ≠ none := by
  have : ∀ j, j ≤ ts.length → ∃ l, wmap (ts.take j) = some l := by
    intro j
    induction j with
    | zero => intro _; exact ⟨_, rfl⟩
    | succ j ih =>
      intro hj
      obtain ⟨l, e⟩ := ih (by omega)
      rw [wmap_snoc ts j (by omega), e]
      by_cases h33 : (ts.getD j default).op = 33
      · simp only [wstep, if_pos h33]
        by_cases c : l.getD (ts.getD j default).imm.toNat 0 ≠ 0 ∧ l.getD (ts.getD j default).imm.toNat 0 ≠ (ts.getD j default).width
        · exfalso
          obtain ⟨_, i2⟩ := wmap_inv hI hS j l (by omega) e
          obtain ⟨i, hi, r1, r2, r3⟩ := i2 _ c.1
          have h1 := hc j (by omega) i hi
          have him := hI _ (mem_getD (show j < ts.length by omega))
          rw [(clash_iff _ _).2 ⟨r1, h33, by omega, by rw [r3]; exact c.2⟩] at h1
          cases h1
        · rw [if_neg c]; exact ⟨_, rfl⟩
      · rw [wstep_other h33]; exact ⟨_, rfl⟩
  obtain ⟨l, h⟩ := this ts.length (Nat.le_refl _)
  rw [List.take_length] at h
  rw [h]
  exact fun hh => by cases hh
theorem valE_3 {ts : List Nd} (h : ts.length < 1 ∨ 300 < ts.length) : valE ts = 3 := if_pos h
theorem valE_1 {ts : List Nd} (h : ¬ (ts.length < 1 ∨ 300 < ts.length)) (h1 : okS ts = false) : valE ts = 1 := by unfold valE; rw [if_neg h, if_pos h1]
theorem valE_6 {ts : List Nd} (h : ¬ (ts.length < 1 ∨ 300 < ts.length)) (h1 : okS ts = true) (h2 : okT ts = false) : valE ts = 6 := by
  unfold valE; rw [if_neg h, if_neg (by rw [h1]; decide), if_pos h2]
theorem valE_7 {ts : List Nd} (h : ¬ (ts.length < 1 ∨ 300 < ts.length)) (h1 : okS ts = true) (h2 : okT ts = true) (h3 : wmap ts = none) : valE ts = 7 := by
  unfold valE; rw [if_neg h, if_neg (by rw [h1]; decide), if_neg (by rw [h2]; decide), if_pos h3]
theorem valE_0 {ts : List Nd} (h : ¬ (ts.length < 1 ∨ 300 < ts.length)) (h1 : okS ts = true) (h2 : okT ts = true) (h3 : wmap ts ≠ none) : valE ts = 0 := by
  unfold valE; rw [if_neg h, if_neg (by rw [h1]; decide), if_neg (by rw [h2]; decide), if_neg h3]
/-- What a valid term is. -/
theorem valid_facts {ts : List Nd} (h : valE ts = 0) : 1 ≤ ts.length ∧ ts.length ≤ 300 ∧ okS ts = true ∧ okT ts = true ∧ ∃ l, wmap ts = some l := by
  unfold valE at h
  by_cases c : ts.length < 1 ∨ 300 < ts.length
  · rw [if_pos c] at h; omega
  · rw [if_neg c] at h
    by_cases c1 : okS ts = false
    · rw [if_pos c1] at h; omega
    · rw [if_neg c1] at h
      by_cases c2 : okT ts = false
      · rw [if_pos c2] at h; omega
      · rw [if_neg c2] at h
        cases c3 : wmap ts with
        | none => rw [if_pos c3] at h; omega
        | some l => exact ⟨by omega, by omega, by simpa using c1, by simpa using c2, l, rfl⟩

set_option maxRecDepth 100000 in
set_option maxHeartbeats 8000000 in
theorem pValidate (ts : List Nd) (tv : Value) (w : World) (hts : Nds w tv ts) (hi : ∀ x ∈ ts, 0 ≤ x.imm ∧ x.imm ≤ 4294967295) : Calls Try.prog 17 #[tv] w fun e w' => e = .returned (.int .i64 (valE ts)) ∧ Below w.heap.size w w' := by
  have HT := Lib.hid hts
  have HI := Lib.hid hi
  obtain ⟨ta, tc, rfl, ht1, ht2, _⟩ := hts
  clear hi
  by_cases g1 : ts.length < 1
  · have HV : Hid (valE ts = 3) := valE_3 (.inl g1)
    have q1 : decide ((ts.length : Int) < 1) = true := by simp; omega
    go_enter Try.func17, Try.ntmps17
    go_wp2_with fail
    go_ret
    exact ⟨ret_i HV.out.symm, Below.refl _ _⟩
  have q1 : decide ((ts.length : Int) < 1) = false := by simp; omega
  by_cases g2 : 300 < ts.length
  · have HV : Hid (valE ts = 3) := valE_3 (.inr g2)
    have q2 : decide (300 < (ts.length : Int)) = true := by simp; omega
    go_enter Try.func17, Try.ntmps17
    go_wp2_with fail
    go_ret
    exact ⟨ret_i HV.out.symm, Below.refl _ _⟩
  have q2 : decide (300 < (ts.length : Int)) = false := by simp; omega
  have G : Hid (¬ (ts.length < 1 ∨ 300 < ts.length)) := fun h => by omega
  go_enter Try.func17, Try.ntmps17
  go_wp2_with fail
  go_loopw [19] (fun i wr => ∃ j : Nat, j ≤ ts.length ∧ i = .int .i64 j ∧ Hid (∀ i, i < j → shaped i (ts.getD i default) = true) ∧ Below w.heap.size w wr) (fun i _ => ts.length - (intOf i).toNat)
  case atStart => exact ⟨0, Nat.zero_le _, rfl, (fun i hi => absurd hi (by omega)), Below.refl _ _⟩
  case round =>
    obtain ⟨j, hj, rfl, hno, hb⟩ := hrel
    by_cases hlt : j < ts.length
    · obtain ⟨b, q, c', e', _, _, hbq, c0, c1, c2, ⟨av, c3, hav⟩, c4⟩ := (HT.out.stays hb).at hlt
      cases e'
      have him := HI.out _ (mem_getD hlt)
      generalize hx : ts.getD j default = x at *
      have HX := Lib.hid hx
      clear hx
      obtain ⟨op, width, flags, args, imm⟩ := x
      simp only at him c0 c1 c2 c3 c4 hav
      have HAV := Lib.hid hav
      obtain ⟨aa, ac, rfl, _⟩ := hav
      obtain ⟨i1, i2⟩ := him
      have hbs := hb.size
      have HB := Lib.hid hb
      clear hb
      cases hs : shaped j ⟨op, width, flags, args, imm⟩
      · have HV : Hid (valE ts = 1) := valE_1 G.out (okS_bad hlt (by rw [HX.out]; exact hs))
        go_wp2_with fail
        refine (isShaped_any j ⟨op, width, flags, args, imm⟩ _ _ (HAV.out.stays ((Below.refl _ _).alloc (Nat.le_refl _) _)) i1 i2).mono ?_
        rintro e w' ⟨rfl, hb1⟩
        go_wp2_with fail
        go_ret
        exact ⟨ret_i HV.out.symm, below_next (HB.out.alloc hbs _) (by simp; omega) hb1⟩
      · have HS := Lib.hid hs
        go_wp2_with fail
        refine (isShaped_any j ⟨op, width, flags, args, imm⟩ _ _ (HAV.out.stays ((Below.refl _ _).alloc (Nat.le_refl _) _)) i1 i2).mono ?_
        rintro e w' ⟨rfl, hb1⟩
        go_wp2_with fail
        go_roundw
        case rel => exact ⟨j + 1, by omega, by go_num, (fun i hi => by
          by_cases e : i = j
          · rw [e, HX.out]; exact HS.out
          · exact hno.out i (by omega)), below_next (HB.out.alloc hbs _) (by simp; omega) hb1⟩
        case measure => simp [intOf]; omega
    · obtain rfl : j = ts.length := by omega
      have HS : Hid (okS ts = true) := okS_good hno.out
      obtain ⟨wo, rfl⟩ : ∃ wo : World, wo = wr := ⟨_, rfl⟩
      have HB := Lib.hid hb
      clear hb
      go_wp2_with fail
      go_loopw [31] (fun i wr => ∃ j : Nat, j ≤ ts.length ∧ i = .int .i64 j ∧ Hid (∀ i, i < j → typed ts (ts.getD i default) = true) ∧ Below w.heap.size w wr) (fun i _ => ts.length - (intOf i).toNat)
      case atStart => exact ⟨0, Nat.zero_le _, rfl, (fun i hi => absurd hi (by omega)), HB.out⟩
      case round =>
        obtain ⟨j, hj, rfl, hty, hb⟩ := hrel
        by_cases hlt : j < ts.length
        · have HTT := Lib.hid (HT.out.stays hb)
          obtain ⟨b, q, c', e', _, _, hbq, c0, c1, c2, ⟨av, c3, hav⟩, c4⟩ := HTT.out.at hlt
          cases e'
          have HF := Lib.hid (shaped_facts (hno.out j hlt))
          generalize hx : ts.getD j default = x at *
          have HX := Lib.hid hx
          clear hx
          obtain ⟨op, width, flags, args, imm⟩ := x
          simp only at c0 c1 c2 c3 c4 hav
          have HAV := Lib.hid hav
          obtain ⟨aa, ac, rfl, _⟩ := hav
          have hbs := hb.size
          have HBB := Lib.hid hb
          clear hb
          have HA : Hid (∀ a ∈ args, 0 ≤ a ∧ a < ts.length) := fun a ha => by have := HF.out.2.1 a ha; omega
          cases hs : typed ts ⟨op, width, flags, args, imm⟩
          · have HV : Hid (valE ts = 6) := valE_6 G.out HS.out (okT_bad hlt (by rw [HX.out]; exact hs))
            go_wp2_with fail
            refine (isTyped_any ts ⟨op, width, flags, args, imm⟩ _ _ _ (HTT.out.stays ((Below.refl _ _).alloc (Nat.le_refl _) _)) (HAV.out.stays ((Below.refl _ _).alloc (Nat.le_refl _) _)) HF.out.1 HA.out).mono ?_
            rintro e w' ⟨rfl, hb1⟩
            go_wp2_with fail
            go_ret
            exact ⟨ret_i HV.out.symm, below_next (HBB.out.alloc hbs _) (by simp; omega) hb1⟩
          · have HTS := Lib.hid hs
            go_wp2_with fail
            refine (isTyped_any ts ⟨op, width, flags, args, imm⟩ _ _ _ (HTT.out.stays ((Below.refl _ _).alloc (Nat.le_refl _) _)) (HAV.out.stays ((Below.refl _ _).alloc (Nat.le_refl _) _)) HF.out.1 HA.out).mono ?_
            rintro e w' ⟨rfl, hb1⟩
            go_wp2_with fail
            go_roundw
            case rel => exact ⟨j + 1, by omega, by go_num, (fun i hi => by
              by_cases e : i = j
              · rw [e, HX.out]; exact HTS.out
              · exact hty.out i (by omega)), below_next (HBB.out.alloc hbs _) (by simp; omega) hb1⟩
            case measure => simp [intOf]; omega
        · obtain rfl : j = ts.length := by omega
          have HTO : Hid (okT ts = true) := okT_good hty.out
          have HBB := Lib.hid hb
          clear hb
          go_wp2_with fail
          refine (widths_any ts _ _ (HT.out.stays HBB.out) (fun x hx => ⟨(HI.out x hx).1, fun h33 => by
            obtain ⟨i, hi, rfl⟩ := List.getElem_of_mem hx
            have := (shaped_facts (hno.out i hi)).2.2.2.2.2.1
            rw [List.getD_eq_getElem?_getD, List.getElem?_eq_getElem hi] at this
            exact this h33⟩)).mono ?_
          rintro e w' ⟨v, rfl, hl1, hl2, hb1⟩
          have HL := Lib.hid (And.intro hl1 hl2)
          clear hl1 hl2
          cases hm : wmap ts with
          | none =>
            have HV : Hid (valE ts = 7) := valE_7 G.out HS.out HTO.out hm
            go_wp2_with fail
            go_ret
            exact ⟨ret_i HV.out.symm, below_next HBB.out HBB.out.size hb1⟩
          | some l =>
            have HV : Hid (valE ts = 0) := valE_0 G.out HS.out HTO.out (by rw [hm]; exact fun h => by cases h)
            go_wp2_with fail
            go_ret
            exact ⟨ret_i HV.out.symm, below_next HBB.out HBB.out.size hb1⟩

end Go.Proofs.Ythopdfikikdcbaa
