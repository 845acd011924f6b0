/- Walks of Widths of both sides, of SameInts and Long. -/
import Derived.Test.YthopdfikikdcbaaTh
namespace Go.Proofs.Ythopdfikikdcbaa
open Go.RowKit Wd
set_option linter.unusedVariables false
set_option linter.unusedSimpArgs false
/-- A node is far beyond the limits, or the list. -/
def longB (ts : List Nd) : Bool := decide (400 < ts.length) || ts.any fun x => decide (20 < x.args.length)
theorem longB_no {ts : List Nd} (h : longB ts = false) : ts.length ≤ 400 ∧ ∀ x ∈ ts, x.args.length ≤ 20 := by
  unfold longB at h
  simp only [Bool.or_eq_false_iff, decide_eq_false_iff_not, List.any_eq_false, decide_eq_true_eq] at h
  exact ⟨by omega, fun x hx => by have := h.2 x hx; omega⟩
/-- The widths of the variables of a valid term; none of another. -/
def widL (ts : List Nd) : List Int := if valE ts = 0 then (wmap ts).getD [] else []
theorem widL_ok {ts : List Nd} (h : valE ts = 0) : wmap ts = some (widL ts) ∧ (widL ts).length = 4 := by
  obtain ⟨_, _, _, _, l, hl⟩ := valid_facts h
  have : widL ts = l := by unfold widL; rw [if_pos h, hl]; rfl
  rw [this]
  exact ⟨hl, wmap_len hl⟩
theorem widL_no {ts : List Nd} (h : valE ts ≠ 0) : widL ts = [] := if_neg h
/-- The widths, the last one counts. -/
def rwl (ts : List Nd) : List Int := ts.foldl (fun l x => if x.op = 33 then l.set x.imm.toNat x.width else l) [0, 0, 0, 0]
theorem rwl_snoc (ts : List Nd) (j : Nat) (h : j < ts.length) : rwl (ts.take (j + 1)) = if (ts.getD j default).op = 33 then (rwl (ts.take j)).set (ts.getD j default).imm.toNat (ts.getD j default).width else rwl (ts.take j) := by
  unfold rwl; rw [take_snoc ts j h, List.foldl_append]; rfl
theorem rwl_len (ts : List Nd) : (rwl ts).length = 4 := by
  have : ∀ (ts : List Nd) (l : List Int), (ts.foldl (fun l x => if x.op = 33 then l.set x.imm.toNat x.width else l) l).length = l.length := by
    intro ts
    induction ts with
    | nil => intro l; rfl
    | cons x ts ih => intro l; rw [List.foldl_cons, ih]; split <;> simp
  exact this ts _
theorem rwl_wmap {ts : List Nd} {l : List Int} : wmap ts = some l → rwl ts = l := by
  have : ∀ (ts : List Nd) (l0 : List Int), ts.foldl wstep (some l0) = some l → ts.foldl (fun l x => if x.op = 33 then l.set x.imm.toNat x.width else l) l0 = l := by
    intro ts
    induction ts with
    | nil => intro l0 h; cases h; rfl
    | cons x ts ih =>
      intro l0 h
      rw [List.foldl_cons] at h ⊢
      cases e : wstep (some l0) x with
      | none => rw [e, wstep_none] at h; cases h
      | some l1 =>
        rw [e] at h
        have : (if x.op = 33 then l0.set x.imm.toNat x.width else l0) = l1 := by
          simp only [wstep] at e
          by_cases c : x.op = 33
          · rw [if_pos c] at e ⊢
            by_cases d : l0.getD x.imm.toNat 0 ≠ 0 ∧ l0.getD x.imm.toNat 0 ≠ x.width
            · rw [if_pos d] at e; cases e
            · rw [if_neg d] at e; cases e; rfl
          · rw [if_neg c] at e ⊢; cases e; rfl
        rw [this]
        exact ih l1 h
  intro h
  exact this ts _ h
theorem Ints.nil (k : IntKind) (w : World) : Ints k w (.slice none 0 0) [] := ⟨none, 0, rfl, Nat.le_refl _, ⟨by simp, by omega⟩, fun _ => rfl, fun i hi => absurd hi (by simp)⟩
theorem Ints.at {k : IntKind} {w : World} {v : Value} {xs : List Int} (h : Ints k w v xs) {j : Nat} (hj : j < xs.length) : ∃ b q c, v = .slice (some ⟨b, q, none⟩) xs.length c ∧ xs.length ≤ c ∧ b < w.heap.size ∧ w.cell? ⟨b, q + j, none⟩ = some (.int k (xs.getD j 0)) := by
  obtain ⟨a, c, rfl, h1, h2, _, h4⟩ := h
  obtain ⟨b, q, rfl, h5, h6⟩ := h4 j hj
  rw [Nat.mul_one] at h6
  exact ⟨b, q, c, rfl, h1, h5, h6⟩
theorem Ints.shape {k : IntKind} {w : World} {v : Value} {xs : List Int} (h : Ints k w v xs) : ∃ a c, v = .slice a xs.length c ∧ xs.length ≤ c ∧ xs.length ≤ 140737488351232 := by
  obtain ⟨a, c, rfl, h1, h2, _⟩ := h
  exact ⟨a, c, rfl, h1, h2.1⟩
theorem Nds.shape {w : World} {v : Value} {ts : List Nd} (h : Nds w v ts) : ∃ a c, v = .slice a ts.length c ∧ ts.length ≤ c ∧ ts.length ≤ 140737488351232 := by
  obtain ⟨a, c, rfl, h1, h2, _⟩ := h
  exact ⟨a, c, rfl, h1, h2.1⟩
theorem ext_getD {xs ys : List Int} (hl : xs.length = ys.length) (h : ∀ i, i < xs.length → xs.getD i 0 = ys.getD i 0) : xs = ys := by
  apply List.ext_getElem hl
  intro i h1 h2
  have := h i h1
  rw [List.getD_eq_getElem?_getD, List.getD_eq_getElem?_getD, List.getElem?_eq_getElem h1, List.getElem?_eq_getElem h2] at this
  exact this

set_option maxRecDepth 100000 in
set_option maxHeartbeats 4000000 in
theorem sameInts_any (xs ys : List Int) (v u : Value) (w : World) (hv : Ints .i64 w v xs) (hu : Ints .i64 w u ys) : Calls Try.prog 19 #[v, u] w fun e w' => e = .returned (.bool (decide (xs = ys))) ∧ Dr w w' := by
  have HX := Lib.hid hv
  have HY := Lib.hid hu
  obtain ⟨a, c, rfl, h1, h2⟩ := hv.shape
  obtain ⟨a2, c2, rfl, k1, k2⟩ := hu.shape
  clear hv hu
  cases hne : ((xs.length : Int) != ys.length)
  · have hl : xs.length = ys.length := by
      have h : (xs.length : Int) = ys.length := by simpa using hne
      omega
    have HL := Lib.hid hl
    clear hl
    go_enter Try.func19, Try.ntmps19
    go_wp2_with fail
    go_loopw [5] (fun i wr => ∃ j : Nat, j ≤ xs.length ∧ i = .int .i64 j ∧ Hid (∀ i, i < j → xs.getD i 0 = ys.getD i 0) ∧ Dr w wr) (fun i _ => xs.length - (intOf i).toNat)
    case atStart => exact ⟨0, Nat.zero_le _, rfl, (fun i hi => absurd hi (by omega)), Dr.refl _⟩
    case round =>
      obtain ⟨j, hj, rfl, hno, n, rfl⟩ := hrel
      by_cases hlt : j < xs.length
      · have hlt2 : j < ys.length := by have := HL.out; omega
        obtain ⟨b, q, c', e', _, _, d0⟩ := HX.out.at hlt
        cases e'
        obtain ⟨b2, q2, c2', e', _, _, d1⟩ := HY.out.at hlt2
        cases e'
        generalize hx : xs.getD j 0 = x at *
        generalize hy : ys.getD j 0 = y at *
        have HXJ := Lib.hid hx
        have HYJ := Lib.hid hy
        clear hx hy
        cases hc : (x != y)
        · have HC : Hid (x = y) := by have : x = y := by simpa using hc
                                      exact this
          go_wp2_with fail
          go_quiet (fail)
          go_wp2_with fail
          go_roundw
          case rel => exact ⟨j + 1, by omega, by go_num, (fun i hi => by
            by_cases e : i = j
            · rw [e, HXJ.out, HYJ.out]; exact HC.out
            · exact hno.out i (by omega)), _, rfl⟩
          case measure => simp [intOf]; omega
        · have HV : Hid (decide (xs = ys) = false) := by
            have hc' : x ≠ y := by simpa using hc
            show _ = _
            rw [decide_eq_false_iff_not]
            intro e
            exact hc' (by rw [← HXJ.out, ← HYJ.out, e])
          go_wp2_with fail
          go_quiet (fail)
          go_wp2_with fail
          go_ret
          exact ⟨ret_b HV.out.symm, _, by first | rfl | exact World.drewN_drewN _ _ _⟩
      · have HV : Hid (decide (xs = ys) = true) := by
          show _ = _
          rw [decide_eq_true_iff]
          exact ext_getD HL.out (fun i hi => hno.out i (by omega))
        go_wp2_with fail
        go_ret
        exact ⟨ret_b HV.out.symm, _, rfl⟩
  · have HV : Hid (decide (xs = ys) = false) := by
      have hl : xs.length ≠ ys.length := by intro e; rw [e] at hne; simp at hne
      show _ = _
      rw [decide_eq_false_iff_not]
      intro e
      exact hl (by rw [e])
    go_enter Try.func19, Try.ntmps19
    go_wp2_with fail
    go_ret
    exact ⟨ret_b HV.out.symm, Dr.refl _⟩

set_option maxRecDepth 100000 in
set_option maxHeartbeats 4000000 in
theorem long_any (ts : List Nd) (tv : Value) (w : World) (hts : Nds w tv ts) : Calls Try.prog 11 #[tv] w fun e w' => e = .returned (.bool (longB ts)) ∧ w = w' := by
  have HT := Lib.hid hts
  obtain ⟨ta, tc, rfl, h1, h2⟩ := hts.shape
  clear hts
  cases hl : decide (400 < (ts.length : Int))
  · have HL : Hid (¬ 400 < ts.length) := by have := of_decide_eq_false hl; show ¬ _; omega
    go_enter Try.func11, Try.ntmps11
    go_wp2_with fail
    go_loop [3] (fun i => ∃ j : Nat, j ≤ ts.length ∧ i = .int .i64 j ∧ Hid (∀ i, i < j → ¬ 20 < (ts.getD i default).args.length)) (fun i => ts.length - (intOf i).toNat)
    case atStart => exact ⟨0, Nat.zero_le _, rfl, (fun i hi => absurd hi (by omega))⟩
    case round =>
      obtain ⟨j, hj, rfl, hno⟩ := hrel
      by_cases hlt : j < ts.length
      · obtain ⟨b, q, c', e', _, _, hbq, c0, c1, c2, ⟨av, c3, hav⟩, c4⟩ := HT.out.at hlt
        cases e'
        have hm := mem_getD hlt
        generalize hx : ts.getD j default = x at *
        have HX := Lib.hid (And.intro hx hm)
        clear hx hm
        obtain ⟨op, width, flags, args, imm⟩ := x
        simp only at c0 c1 c2 c3 c4 hav
        obtain ⟨aa, ac, rfl, _⟩ := hav
        cases hc : decide (20 < (args.length : Int))
        · have HC : Hid (¬ 20 < args.length) := by have := of_decide_eq_false hc; show ¬ _; omega
          go_wp2_with fail
          go_round
          case rel => exact ⟨j + 1, by omega, by go_num, (fun i hi => by
            by_cases e : i = j
            · rw [e, HX.out.1]; exact HC.out
            · exact hno.out i (by omega))⟩
          case measure => simp [intOf]; omega
        · have HV : Hid (longB ts = true) := by
            have hc' := of_decide_eq_true hc
            show _ = _
            unfold longB
            rw [List.any_eq_true.2 ⟨_, HX.out.2, by simp; omega⟩, Bool.or_true]
          go_wp2_with fail
          go_ret
          exact ⟨ret_b HV.out.symm, rfl⟩
      · have HV : Hid (longB ts = false) := by
          show _ = _
          unfold longB
          rw [Bool.or_eq_false_iff]
          refine ⟨by simp; have := HL.out; omega, List.any_eq_false.2 fun x hx => ?_⟩
          obtain ⟨i, hi, rfl⟩ := List.getElem_of_mem hx
          have := hno.out i (by omega)
          rw [List.getD_eq_getElem?_getD, List.getElem?_eq_getElem hi] at this
          simpa using this
        go_wp2_with fail
        go_ret
        exact ⟨ret_b HV.out.symm, rfl⟩
  · have HV : Hid (longB ts = true) := by
      have hc' := of_decide_eq_true hl
      show _ = _
      unfold longB
      rw [show decide (400 < ts.length) = true by simp; omega, Bool.true_or]
    go_enter Try.func11, Try.ntmps11
    go_wp2_with fail
    go_ret
    exact ⟨ret_b HV.out.symm, rfl⟩

set_option maxRecDepth 100000 in
set_option maxHeartbeats 4000000 in
theorem rwidths_any (ts : List Nd) (tv : Value) (w : World) (hts : Nds w tv ts) (hi : ∀ x ∈ ts, 0 ≤ x.imm ∧ (x.op = 33 → x.imm < 4)) : Calls Try.prog 45 #[tv] w fun e w' => ∃ v, e = .returned v ∧ Ints .i64 w' v (rwl ts) ∧ Below w.heap.size w w' := by
  have HT := Lib.hid hts
  have HI := Lib.hid hi
  obtain ⟨ta, tc, rfl, ht1, ht2⟩ := hts.shape
  clear hi hts
  have hmk : ∀ w : World, (Instr.makeSlice 25 (.int .i64 4) (.int .i64 4)).run Try.prog w = .ok (.slice (some ⟨w.heap.size, 0, none⟩) 4 4) (w.alloc (.cells #[.int .i64 0, .int .i64 0, .int .i64 0, .int .i64 0] 3)) := fun _ => by kernel_rfl
  go_enter Try.func45, Try.ntmps45
  go_wp2_with fail
  go_loopw [4] (fun i wr => ∃ (j : Nat), j ≤ ts.length ∧ i = .int .i64 j ∧ OInts .i64 wr w.heap.size (rwl (ts.take j)) ∧ Below w.heap.size w wr) (fun i _ => ts.length - (intOf i).toNat)
  case atStart =>
    refine ⟨0, Nat.zero_le _, rfl, ⟨by simp, fun i hi => ?_⟩, (Below.refl _ _).alloc (Nat.le_refl _) _⟩
    rw [rwl_len] at hi
    have : i = 0 ∨ i = 1 ∨ i = 2 ∨ i = 3 := by omega
    rcases this with rfl | rfl | rfl | rfl <;> simp [go_sem, rwl]
  case round =>
    obtain ⟨j, hj, rfl, ho, hb⟩ := hrel
    have hBs := ho.1
    have HB := Lib.hid hb
    have h4 := rwl_len (ts.take j)
    by_cases hlt : j < ts.length
    · have hx := HI.out _ (mem_getD hlt)
      obtain ⟨b, q, c', e', _, _, hbq, c0, c1, c2, ⟨av, c3, hav⟩, c4⟩ := (HT.out.stays hb).at hlt
      cases e'
      have HS := Lib.hid (rwl_snoc ts j hlt)
      clear hb
      generalize ts.getD j default = x at *
      generalize rwl (ts.take j) = l at *
      have HO := Lib.hid ho
      obtain ⟨op, width, flags, args, imm⟩ := x
      simp only at hx c0 c1 c2 c3 c4 hav
      obtain ⟨aa, ac, rfl, _⟩ := hav
      obtain ⟨k, rfl⟩ := Int.eq_ofNat_of_zero_le hx.1
      cases h33 : (op == 33)
      · have HN : Hid (¬ op = 33) := by have : ¬ op = 33 := by simpa using h33
                                        exact this
        clear hx ho
        go_wp2_with fail
        go_roundw
        case rel => exact ⟨j + 1, by omega, by go_num, by rw [HS.out, if_neg HN.out]; exact HO.out, HB.out⟩
        case measure => simp [intOf]; omega
      · have e33 : op = 33 := by simpa using h33
        have hk := hx.2 e33
        subst e33
        have hk4 : k < l.length := by omega
        have d0 := ho.cell hk4
        have d1 := ho.free hk4
        clear hx ho
        generalize l.getD k 0 = y at d0
        go_wp2_with fail
        go_region
        all_goals go_wp2_with fail
        all_goals go_roundw
        case rel => exact ⟨j + 1, by omega, by go_num, by rw [HS.out]; simp only [if_true, Int.toNat_natCast]; exact HO.out.set hk4 width, (below_at HB.out (Nat.le_refl _) _ _).drew⟩
        case measure => simp [intOf]; omega
    · obtain rfl : j = ts.length := by omega
      rw [List.take_length] at ho h4
      have HO := Lib.hid ho
      clear ho hb
      have H4 := Lib.hid h4
      clear h4
      go_wp2_with fail
      go_ret
      refine ⟨_, rfl, ?_, HB.out⟩
      have := HO.out.ints (by rw [H4.out]; omega)
      rw [H4.out] at this
      exact this

set_option maxRecDepth 100000 in
set_option maxHeartbeats 4000000 in
theorem pWidths (ts : List Nd) (tv : Value) (w : World) (hts : Nds w tv ts) (hi : ∀ x ∈ ts, 0 ≤ x.imm ∧ x.imm ≤ 4294967295) : Calls Try.prog 13 #[tv] w fun e w' => ∃ v, e = .returned (.tuple #[v, .int .i64 (valE ts)]) ∧ Ints .i64 w' v (widL ts) ∧ Below w.heap.size w w' := by
  have HT := Lib.hid hts
  have HI := Lib.hid hi
  obtain ⟨ta, tc, rfl, ht1, ht2⟩ := hts.shape
  clear hi hts
  cases hz : (valE ts != 0)
  · have hz' : valE ts = 0 := by simpa using hz
    have HZ := Lib.hid hz'
    clear hz hz'
    go_enter Try.func13, Try.ntmps13
    go_wp2_with fail
    refine (pValidate ts _ _ HT.out HI.out).mono ?_
    rintro e w' ⟨rfl, hb1⟩
    rw [HZ.out]
    have HB1 := Lib.hid hb1
    clear hb1
    go_wp2_with fail
    refine (widths_any ts _ _ (HT.out.stays HB1.out) (fun x hx => ⟨(HI.out x hx).1, fun h33 => by
      obtain ⟨i, hi, rfl⟩ := List.getElem_of_mem hx
      have := (shaped_facts (okS_at (valid_facts HZ.out).2.2.1 hi)).2.2.2.2.2.1
      rw [List.getD_eq_getElem?_getD, List.getElem?_eq_getElem hi] at this
      exact this h33⟩)).mono ?_
    rintro e w' ⟨v, rfl, hl1, hl2, hb2⟩
    have HL := Lib.hid hl1
    clear hl1 hl2
    go_wp2_with fail
    go_ret2
    refine ⟨_, by rw [HZ.out]; rfl, ?_, below_next HB1.out HB1.out.size hb2⟩
    exact HL.out _ (widL_ok HZ.out).1
  · have HZ : Hid (valE ts ≠ 0) := by have : ¬ valE ts = 0 := by simpa using hz
                                      exact this
    go_enter Try.func13, Try.ntmps13
    go_wp2_with fail
    refine (pValidate ts _ _ HT.out HI.out).mono ?_
    rintro e w' ⟨rfl, hb1⟩
    go_wp2_with fail
    go_ret2
    exact ⟨_, rfl, by rw [widL_no HZ.out]; exact Ints.nil _ _, hb1⟩

set_option maxRecDepth 100000 in
set_option maxHeartbeats 4000000 in
theorem rWidths (ts : List Nd) (tv : Value) (w : World) (hts : Nds w tv ts) (hi : ∀ x ∈ ts, 0 ≤ x.imm ∧ x.imm ≤ 4294967295) : Calls Try.prog 14 #[tv] w fun e w' => ∃ v, e = .returned (.tuple #[v, .int .i64 (valE ts)]) ∧ Ints .i64 w' v (widL ts) ∧ Below w.heap.size w w' := by
  have HT := Lib.hid hts
  have HI := Lib.hid hi
  obtain ⟨ta, tc, rfl, ht1, ht2⟩ := hts.shape
  clear hi hts
  cases hz : (valE ts != 0)
  · have hz' : valE ts = 0 := by simpa using hz
    have HZ := Lib.hid hz'
    clear hz hz'
    go_enter Try.func14, Try.ntmps14
    go_wp2_with fail
    refine (rValidate ts _ _ HT.out HI.out).mono ?_
    rintro e w' ⟨rfl, hb1⟩
    rw [HZ.out]
    have HB1 := Lib.hid hb1
    clear hb1
    go_wp2_with fail
    refine (rwidths_any ts _ _ (HT.out.stays HB1.out) (fun x hx => ⟨(HI.out x hx).1, fun h33 => by
      obtain ⟨i, hi, rfl⟩ := List.getElem_of_mem hx
      have := (shaped_facts (okS_at (valid_facts HZ.out).2.2.1 hi)).2.2.2.2.2.1
      rw [List.getD_eq_getElem?_getD, List.getElem?_eq_getElem hi] at this
      exact this h33⟩)).mono ?_
    rintro e w' ⟨v, rfl, hl1, hb2⟩
    have HL := Lib.hid hl1
    clear hl1
    go_wp2_with fail
    go_ret2
    refine ⟨_, by rw [HZ.out]; rfl, ?_, below_next HB1.out HB1.out.size hb2⟩
    rw [← rwl_wmap (widL_ok HZ.out).1]; exact HL.out
  · have HZ : Hid (valE ts ≠ 0) := by have : ¬ valE ts = 0 := by simpa using hz
                                      exact this
    go_enter Try.func14, Try.ntmps14
    go_wp2_with fail
    refine (rValidate ts _ _ HT.out HI.out).mono ?_
    rintro e w' ⟨rfl, hb1⟩
    go_wp2_with fail
    go_ret2
    exact ⟨_, rfl, by rw [widL_no HZ.out]; exact Ints.nil _ _, hb1⟩

end Go.Proofs.Ythopdfikikdcbaa
