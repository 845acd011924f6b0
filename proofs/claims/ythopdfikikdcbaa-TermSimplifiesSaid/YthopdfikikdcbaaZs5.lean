/- Walks of Widths of both sides, of SameInts and Long. -/
import Derived.Maps.Keyed
import Derived.DeepKeys5
import Derived.Test.YthopdfikikdcbaaZs1
import Derived.Test.YthopdfikikdcbaaZs3
import Derived.Test.YthopdfikikdcbaaZs4
namespace Go.Proofs.Ythopdfikikdcbaa
open Go.RowKit Wd
set_option linter.unusedVariables false
set_option linter.unusedSimpArgs false
/-- A node is far beyond the limits, or the list. -/
def longB (ts : List Nd) : Bool := decide (400 < ts.length) || ts.any fun x => decide (20 < x.args.length)
theorem longB_no {ts : List Nd} (h : longB ts = false) : ts.length ≤ 400 ∧ ∀ x ∈ ts, x.args.length ≤ 20 := by
  unfold longB at h
  simp only [Bool.or_eq_false_iff, decide_eq_false_iff_not, List.any_eq_false, decide_eq_true_eq] at h
  exact ⟨by omega, fun x hx => by have := h.2 x hx; omega⟩
/-- The widths of the variables of a valid term; none of another. -/
def widL (ts : List Nd) : List Int := if valE ts = 0 then (wmap ts).getD [] else []
theorem widL_ok {ts : List Nd} (h : valE ts = 0) : wmap ts = some (widL ts) ∧ (widL ts).length = 4 := by
  obtain ⟨_, _, _, _, l, hl⟩ := valid_facts h
  have : widL ts = l := by unfold widL; rw [if_pos h, hl]; rfl
  rw [this]
  exact ⟨hl, wmap_len hl⟩
theorem widL_no {ts : List Nd} (h : valE ts ≠ 0) : widL ts = [] := if_neg h
/-- The widths, the last one counts. -/
def rwl (ts : List Nd) : List Int := ts.foldl (fun l x => if x.op = 33 then l.set x.imm.toNat x.width else l) [0, 0, 0, 0]
theorem rwl_snoc (ts : List Nd) (j : Nat) (h : j < ts.length) : rwl (ts.take (j + 1)) = if (ts.getD j default).op = 33 then (rwl (ts.take j)).set (ts.getD j default).imm.toNat (ts.getD j default).width else rwl (ts.take j) := by
  unfold rwl; rw [take_snoc ts j h, List.foldl_append]; rfl
theorem rwl_len (ts : List Nd) : (rwl ts).length = 4 := by
  have : ∀ (ts : List Nd) (l : List Int), (ts.foldl (fun l x => if x.op = 33 then l.set x.imm.toNat x.width else l) l).length = l.length := by
    intro ts
    induction ts with
    | nil => intro l; rfl
    | cons x ts ih => intro l; rw [List.foldl_cons, ih]; split <;> simp
  exact this ts _
theorem rwl_wmap {ts : List Nd} {l : List Int} : wmap ts = some l → rwl ts = l := by
  have : ∀ (ts : List Nd) (l0 : List Int), ts.foldl wstep (some l0) = some l → ts.foldl (fun l x => if x.op = 33 then l.set x.imm.toNat x.width else l) l0 = l := by
    intro ts
    induction ts with
    | nil => intro l0 h; cases h; rfl
    | cons x ts ih =>
      intro l0 h
      rw [List.foldl_cons] at h ⊢
      cases e : wstep (some l0) x with
      | none => rw [e, wstep_none] at h; cases h
      | some l1 =>
        rw [e] at h
        have : (if x.op = 33 then l0.set x.imm.toNat x.width else l0) = l1 := by
          simp only [wstep] at e
          by_cases c : x.op = 33
          · rw [if_pos c] at e ⊢
            by_cases d : l0.getD x.imm.toNat 0 ≠ 0 ∧ l0.getD x.imm.toNat 0 ≠ x.width
            · rw [if_pos d] at e; cases e
            · rw [if_neg d] at e; cases e; rfl
          · rw [if_neg c] at e ⊢; cases e; rfl
        rw [this]
        exact ih l1 h
  intro h
  exact this ts _ h
theorem Ints.nil (k : IntKind) (w : World) : Ints k w (.slice none 0 0) [] := ⟨none, 0, rfl, Nat.le_refl _, ⟨by simp, by omega⟩, fun _ => rfl, fun i hi => absurd hi (by simp)⟩
theorem Ints.at {k : IntKind} {w : World} {v : Value} {xs : List Int} (h : Ints k w v xs) {j : Nat} (hj : j < xs.length) : ∃ b q c, v = .slice (some ⟨b, q, none⟩) xs.length c ∧ xs.length ≤ c ∧ b < w.heap.size ∧ w.cell? ⟨b, q + j, none⟩ = some (.int k (xs.getD j 0)) := by
  obtain ⟨a, c, rfl, h1, h2, _, h4⟩ := h
  obtain ⟨b, q, rfl, h5, h6⟩ := h4 j hj
  rw [Nat.mul_one] at h6
  exact ⟨b, q, c, rfl, h1, h5, h6⟩
theorem Ints.shape {k : IntKind} {w : World} {v : Value} {xs : List Int} (h : Ints k w v xs) : ∃ a c, v = .slice a xs.length c ∧ xs.length ≤ c ∧ xs.length ≤ 140737488351232 := by
  obtain ⟨a, c, rfl, h1, h2, _⟩ := h
  exact ⟨a, c, rfl, h1, h2.1⟩
theorem Nds.shape {w : World} {v : Value} {ts : List Nd} (h : Nds w v ts) : ∃ a c, v = .slice a ts.length c ∧ ts.length ≤ c ∧ ts.length ≤ 140737488351232 := by
  obtain ⟨a, c, rfl, h1, h2, _⟩ := h
  exact ⟨a, c, rfl, h1, h2.1⟩
theorem ext_getD {xs ys : List Int} (hl : xs.length = ys.length) (h : ∀ i, i < xs.length → xs.getD i 0 = ys.getD i 0) : xs = ys := by
  apply List.ext_getElem hl
  intro i h1 h2
  have := h i h1
  rw [List.getD_eq_getElem?_getD, List.getD_eq_getElem?_getD, List.getElem?_eq_getElem h1, List.getElem?_eq_getElem h2] at this
  exact this

set_option maxRecDepth 100000 in
set_option maxHeartbeats 4000000 in
theorem sameInts_any (xs ys : List Int) (v u : Value) (w : World) (hv : Ints .i64 w v xs) (hu : Ints .i64 w u ys) : Calls Try.prog 19 #[v, u] w fun e w' => e = .returned (.bool (decide (xs = ys))) ∧ Dr w w' := by
  have HX := Lib.hid hv
  have HY := Lib.hid hu
  obtain ⟨a, c, rfl, h1, h2⟩ := hv.shape
  obtain ⟨a2, c2, rfl, k1, k2⟩ := hu.shape
  clear hv hu
  cases hne : ((xs.length : Int) != ys.length)
  · have hl : xs.length = ys.length := by
      have h : (xs.length : Int) = ys.length := by simpa using hne
      omega
    have HL := Lib.hid hl
    clear hl
    go_enter Try.func19, Try.ntmps19
    go_wp2_with fail
    go_loopw [5] (fun i wr => ∃ j : Nat, j ≤ xs.length ∧ i = .int .i64 j ∧ Hid (∀ i, i < j → xs.getD i 0 = ys.getD i 0) ∧ Dr w wr) (fun i _ => xs.length - (intOf i).toNat)
    case atStart => exact ⟨0, Nat.zero_le _, rfl, (fun i hi => absurd hi (by omega)), Dr.refl _⟩
    case round =>
      obtain ⟨j, hj, rfl, hno, n, rfl⟩ := hrel
      by_cases hlt : j < xs.length
      · have hlt2 : j < ys.length := by have := HL.out; omega
        obtain ⟨b, q, c', e', _, _, d0⟩ := HX.out.at hlt
        cases e'
        obtain ⟨b2, q2, c2', e', _, _, d1⟩ := HY.out.at hlt2
        cases e'
        generalize hx : xs.getD j 0 = x at *
        generalize hy : ys.getD j 0 = y at *
        have HXJ := Lib.hid hx
        have HYJ := Lib.hid hy
        clear hx hy
        cases hc : (x != y)
        · have HC : Hid (x = y) := by have : x = y := by simpa using hc
                                      exact this
          go_wp2_with fail
          go_quiet (fail)
          go_wp2_with fail
          go_roundw
          case rel => exact ⟨j + 1, by omega, by go_num, (fun i hi => by
            by_cases e : i = j
            · rw [e, HXJ.out, HYJ.out]; exact HC.out
            · exact hno.out i (by omega)), _, rfl⟩
          case measure => simp [intOf]; omega
        · have HV : Hid (decide (xs = ys) = false) := by
            have hc' : x ≠ y := by simpa using hc
            show _ = _
            rw [decide_eq_false_iff_not]
            intro e
            exact hc' (by rw [← HXJ.out, ← HYJ.out, e])
          go_wp2_with fail
          go_quiet (fail)
          go_wp2_with fail
          go_ret
          exact ⟨ret_b HV.out.symm, _, by first | rfl | exact World.drewN_drewN _ _ _⟩
      · have HV : Hid (decide (xs = ys) = true) := by
          show _ = _
          rw [decide_eq_true_iff]
          exact ext_getD HL.out (fun i hi => hno.out i (by omega))
        go_wp2_with fail
        go_ret
        exact ⟨ret_b HV.out.symm, _, rfl⟩
  · have HV : Hid (decide (xs = ys) = false) := by
      have hl : xs.length ≠ ys.length := by intro e; rw [e] at hne; simp at hne
      show _ = _
      rw [decide_eq_false_iff_not]
      intro e
      exact hl (by rw [e])
    go_enter Try.func19, Try.ntmps19
    go_wp2_with fail
    go_ret
    exact ⟨ret_b HV.out.symm, Dr.refl _⟩

set_option maxRecDepth 100000 in
set_option maxHeartbeats 4000000 in
theorem long_any (ts : List Nd) (tv : Value) (w : World) (hts : Nds w tv ts) : Calls Try.prog 11 #[tv] w fun e w' => e = .returned (.bool (longB ts)) ∧ w = w' := by
  have HT := Lib.hid hts
  obtain ⟨ta, tc, rfl, h1, h2⟩ := hts.shape
  clear hts
  cases hl : decide (400 < (ts.length : Int))
  · have HL : Hid (¬ 400 < ts.length) := by have := of_decide_eq_false hl; show ¬ _; omega
    go_enter Try.func11, Try.ntmps11
    go_wp2_with fail
    go_loop [3] (fun i => ∃ j : Nat, j ≤ ts.length ∧ i = .int .i64 j ∧ Hid (∀ i, i < j → ¬ 20 < (ts.getD i default).args.length)) (fun i => ts.length - (intOf i).toNat)
    case atStart => exact ⟨0, Nat.zero_le _, rfl, (fun i hi => absurd hi (by omega))⟩
    case round =>
      obtain ⟨j, hj, rfl, hno⟩ := hrel
      by_cases hlt : j < ts.length
      · obtain ⟨b, q, c', e', _, _, hbq, c0, c1, c2, ⟨av, c3, hav⟩, c4⟩ := HT.out.at hlt
        cases e'
        have hm := mem_getD hlt
        generalize hx : ts.getD j default = x at *
        have HX := Lib.hid (And.intro hx hm)
        clear hx hm
        obtain ⟨op, width, flags, args, imm⟩ := x
        simp only at c0 c1 c2 c3 c4 hav
        obtain ⟨aa, ac, rfl, _⟩ := hav
        cases hc : decide (20 < (args.length : Int))
        · have HC : Hid (¬ 20 < args.length) := by have := of_decide_eq_false hc; show ¬ _; omega
          go_wp2_with fail
          go_round
          case rel => exact ⟨j + 1, by omega, by go_num, (fun i hi => by
            by_cases e : i = j
            · rw [e, HX.out.1]; exact HC.out
            · exact hno.out i (by omega))⟩
          case measure => simp [intOf]; omega
        · have HV : Hid (longB ts = true) := by
            have hc' := of_decide_eq_true hc
            show _ = _
            unfold longB
            rw [List.any_eq_true.2 ⟨_, HX.out.2, by simp; omega⟩, Bool.or_true]
          go_wp2_with fail
          go_ret
          exact ⟨ret_b HV.out.symm, rfl⟩
      · have HV : Hid (longB ts = false) := by
          show _ = _
          unfold longB
          rw [Bool.or_eq_false_iff]
          refine ⟨by simp; have := HL.out; omega, List.any_eq_false.2 fun x hx => ?_⟩
          obtain ⟨i, hi, rfl⟩ := List.getElem_of_mem hx
          have := hno.out i (by omega)
          rw [List.getD_eq_getElem?_getD, List.getElem?_eq_getElem hi] at this
          simpa using this
        go_wp2_with fail
        go_ret
        exact ⟨ret_b HV.out.symm, rfl⟩
  · have HV : Hid (longB ts = true) := by
      have hc' := of_decide_eq_true hl
      show _ = _
      unfold longB
      rw [show decide (400 < ts.length) = true by simp; omega, Bool.true_or]
    go_enter Try.func11, Try.ntmps11
    go_wp2_with fail
    go_ret
    exact ⟨ret_b HV.out.symm, rfl⟩

set_option maxRecDepth 100000 in
set_option maxHeartbeats 4000000 in
theorem rwidths_any (ts : List Nd) (tv : Value) (w : World) (hts : Nds w tv ts) (hi : ∀ x ∈ ts, 0 ≤ x.imm ∧ (x.op = 33 → x.imm < 4)) : Calls Try.prog 45 #[tv] w fun e w' => ∃ v, e = .returned v ∧ Ints .i64 w' v (rwl ts) ∧ Below w.heap.size w w' := by
  have HT := Lib.hid hts
  have HI := Lib.hid hi
  obtain ⟨ta, tc, rfl, ht1, ht2⟩ := hts.shape
  clear hi hts
  have hmk : ∀ w : World, (Instr.makeSlice 25 (.int .i64 4) (.int .i64 4)).run Try.prog w = .ok (.slice (some ⟨w.heap.size, 0, none⟩) 4 4) (w.alloc (.cells #[.int .i64 0, .int .i64 0, .int .i64 0, .int .i64 0] 3)) := fun _ => by kernel_rfl
  go_enter Try.func45, Try.ntmps45
  go_wp2_with fail
  go_loopw [4] (fun i wr => ∃ (j : Nat), j ≤ ts.length ∧ i = .int .i64 j ∧ OInts .i64 wr w.heap.size (rwl (ts.take j)) ∧ Below w.heap.size w wr) (fun i _ => ts.length - (intOf i).toNat)
  case atStart =>
    refine ⟨0, Nat.zero_le _, rfl, ⟨by simp, fun i hi => ?_⟩, (Below.refl _ _).alloc (Nat.le_refl _) _⟩
    rw [rwl_len] at hi
    have : i = 0 ∨ i = 1 ∨ i = 2 ∨ i = 3 := by omega
    rcases this with rfl | rfl | rfl | rfl <;> simp [go_sem, rwl]
  case round =>
    obtain ⟨j, hj, rfl, ho, hb⟩ := hrel
    have hBs := ho.1
    have HB := Lib.hid hb
    have h4 := rwl_len (ts.take j)
    by_cases hlt : j < ts.length
    · have hx := HI.out _ (mem_getD hlt)
      obtain ⟨b, q, c', e', _, _, hbq, c0, c1, c2, ⟨av, c3, hav⟩, c4⟩ := (HT.out.stays hb).at hlt
      cases e'
      have HS := Lib.hid (rwl_snoc ts j hlt)
      clear hb
      generalize ts.getD j default = x at *
      generalize rwl (ts.take j) = l at *
      have HO := Lib.hid ho
      obtain ⟨op, width, flags, args, imm⟩ := x
      simp only at hx c0 c1 c2 c3 c4 hav
      obtain ⟨aa, ac, rfl, _⟩ := hav
      obtain ⟨k, rfl⟩ := Int.eq_ofNat_of_zero_le hx.1
      cases h33 : (op == 33)
      · have HN : Hid (¬ op = 33) := by have : ¬ op = 33 := by simpa using h33
                                        exact this
        clear hx ho
        go_wp2_with fail
        go_roundw
        case rel => exact ⟨j + 1, by omega, by go_num, by rw [HS.out, if_neg HN.out]; exact HO.out, HB.out⟩
        case measure => simp [intOf]; omega
      · have e33 : op = 33 := by simpa using h33
        have hk := hx.2 e33
        subst e33
        have hk4 : k < l.length := by omega
        have d0 := ho.cell hk4
        have d1 := ho.free hk4
        clear hx ho
        generalize l.getD k 0 = y at d0
        go_wp2_with fail
        go_region
        all_goals go_wp2_with fail
        all_goals go_roundw
        case rel => exact ⟨j + 1, by omega, by go_num, by rw [HS.out]; simp only [if_true, Int.toNat_natCast]; exact HO.out.set hk4 width, (below_at HB.out (Nat.le_refl _) _ _).drew⟩
        case measure => simp [intOf]; omega
    · obtain rfl : j = ts.length := by omega
      rw [List.take_length] at ho h4
      have HO := Lib.hid ho
      clear ho hb
      have H4 := Lib.hid h4
      clear h4
      go_wp2_with fail
      go_ret
      refine ⟨_, rfl, ?_, HB.out⟩
      have := HO.out.ints (by rw [H4.out]; omega)
      rw [H4.out] at this
      exact this

set_option maxRecDepth 100000 in
set_option maxHeartbeats 4000000 in
theorem pWidths (ts : List Nd) (tv : Value) (w : World) (hts : Nds w tv ts) (hi : ∀ x ∈ ts, 0 ≤ x.imm ∧ x.imm ≤ 4294967295) : Calls Try.prog 13 #[tv] w fun e w' => ∃ v, e = .returned (.tuple #[v, .int .i64 (valE ts)]) ∧ Ints .i64 w' v (widL ts) ∧ Below w.heap.size w w' := by
  have HT := Lib.hid hts
  have HI := Lib.hid hi
  obtain ⟨ta, tc, rfl, ht1, ht2⟩ := hts.shape
  clear hi hts
  cases hz : (valE ts != 0)
  · have hz' : valE ts = 0 := by simpa using hz
    have HZ := Lib.hid hz'
    clear hz hz'
    go_enter Try.func13, Try.ntmps13
    go_wp2_with fail
    refine (pValidate ts _ _ HT.out HI.out).mono ?_
    rintro e w' ⟨rfl, hb1⟩
    rw [HZ.out]
    have HB1 := Lib.hid hb1
    clear hb1
    go_wp2_with fail
    refine (widths_any ts _ _ (HT.out.stays HB1.out) (fun x hx => ⟨(HI.out x hx).1, fun h33 => by
      obtain ⟨i, hi, rfl⟩ := List.getElem_of_mem hx
      have := (shaped_facts (okS_at (valid_facts HZ.out).2.2.1 hi)).2.2.2.2.2.1
      rw [List.getD_eq_getElem?_getD, List.getElem?_eq_getElem hi] at this
      exact this h33⟩)).mono ?_
    rintro e w' ⟨v, rfl, hl1, hl2, hb2⟩
    have HL := Lib.hid hl1
    clear hl1 hl2
    go_wp2_with fail
    go_ret2
    refine ⟨_, by rw [HZ.out]; rfl, ?_, below_next HB1.out HB1.out.size hb2⟩
    exact HL.out _ (widL_ok HZ.out).1
  · have HZ : Hid (valE ts ≠ 0) := by have : ¬ valE ts = 0 := by simpa using hz
                                      exact this
    go_enter Try.func13, Try.ntmps13
    go_wp2_with fail
    refine (pValidate ts _ _ HT.out HI.out).mono ?_
    rintro e w' ⟨rfl, hb1⟩
    go_wp2_with fail
    go_ret2
    exact ⟨_, rfl, by rw [widL_no HZ.out]; exact Ints.nil _ _, hb1⟩

set_option maxRecDepth 100000 in
set_option maxHeartbeats 4000000 in
theorem rWidths (ts : List Nd) (tv : Value) (w : World) (hts : Nds w tv ts) (hi : ∀ x ∈ ts, 0 ≤ x.imm ∧ x.imm ≤ 4294967295) : Calls Try.prog 14 #[tv] w fun e w' => ∃ v, e = .returned (.tuple #[v, .int .i64 (valE ts)]) ∧ Ints .i64 w' v (widL ts) ∧ Below w.heap.size w w' := by
  have HT := Lib.hid hts
  have HI := Lib.hid hi
  obtain ⟨ta, tc, rfl, ht1, ht2⟩ := hts.shape
  clear hi hts
  cases hz : (valE ts != 0)
  · have hz' : valE ts = 0 := by simpa using hz
    have HZ := Lib.hid hz'
    clear hz hz'
    go_enter Try.func14, Try.ntmps14
    go_wp2_with fail
    refine (rValidate ts _ _ HT.out HI.out).mono ?_
    rintro e w' ⟨rfl, hb1⟩
    rw [HZ.out]
    have HB1 := Lib.hid hb1
    clear hb1
    go_wp2_with fail
    refine (rwidths_any ts _ _ (HT.out.stays HB1.out) (fun x hx => ⟨(HI.out x hx).1, fun h33 => by
      obtain ⟨i, hi, rfl⟩ := List.getElem_of_mem hx
      have := (shaped_facts (okS_at (valid_facts HZ.out).2.2.1 hi)).2.2.2.2.2.1
      rw [List.getD_eq_getElem?_getD, List.getElem?_eq_getElem hi] at this
      exact this h33⟩)).mono ?_
    rintro e w' ⟨v, rfl, hl1, hb2⟩
    have HL := Lib.hid hl1
    clear hl1
    go_wp2_with fail
    go_ret2
    refine ⟨_, by rw [HZ.out]; rfl, ?_, below_next HB1.out HB1.out.size hb2⟩
    rw [← rwl_wmap (widL_ok HZ.out).1]; exact HL.out
  · have HZ : Hid (valE ts ≠ 0) := by have : ¬ valE ts = 0 := by simpa using hz
                                      exact this
    go_enter Try.func14, Try.ntmps14
    go_wp2_with fail
    refine (rValidate ts _ _ HT.out HI.out).mono ?_
    rintro e w' ⟨rfl, hb1⟩
    go_wp2_with fail
    go_ret2
    exact ⟨_, rfl, by rw [widL_no HZ.out]; exact Ints.nil _ _, hb1⟩

end Go.Proofs.Ythopdfikikdcbaa
/- Walks of Depth of both sides. -/
namespace Go.Proofs.Ythopdfikikdcbaa
open Go.RowKit Wd
set_option linter.unusedVariables false
set_option linter.unusedSimpArgs false
/-- The greatest depth among some Args. -/
def dmax (acc : List Int) (args : List Int) : Int := args.foldl (fun m a => max m (acc.getD a.toNat 0)) 0
def deep (ts : List Nd) : List Int := ts.foldl (fun acc x => acc ++ [dmax acc x.args + 1]) []
def depV (ts : List Nd) : Int := if valE ts = 0 then (deep ts).getD (ts.length - 1) 0 else 0
theorem deep_snoc (ts : List Nd) (j : Nat) (h : j < ts.length) : deep (ts.take (j + 1)) = deep (ts.take j) ++ [dmax (deep (ts.take j)) (ts.getD j default).args + 1] := by
  unfold deep; rw [take_snoc ts j h, List.foldl_append]; rfl
theorem deep_len (ts : List Nd) : (deep ts).length = ts.length := by
  have : ∀ (ts : List Nd) (acc : List Int), (ts.foldl (fun acc x => acc ++ [dmax acc x.args + 1]) acc).length = acc.length + ts.length := by
    intro ts
    induction ts with
    | nil => intro acc; rfl
    | cons x ts ih => intro acc; rw [List.foldl_cons, ih]; simp; omega
  have := this ts []
  rw [List.length_nil, Nat.zero_add] at this
  exact this
theorem dmax_snoc (acc args : List Int) (i : Nat) (h : i < args.length) : dmax acc (args.take (i + 1)) = max (dmax acc (args.take i)) (acc.getD (args.getD i 0).toNat 0) := by
  unfold dmax; rw [take_snoc0 args i h, List.foldl_append]; rfl
theorem dmax_bd {acc : List Int} {b : Int} (h : ∀ a, 0 ≤ acc.getD a 0 ∧ acc.getD a 0 ≤ b) (hb : 0 ≤ b) (args : List Int) : 0 ≤ dmax acc args ∧ dmax acc args ≤ b := by
  have : ∀ (args : List Int) (m : Int), 0 ≤ m → m ≤ b → 0 ≤ args.foldl (fun m a => max m (acc.getD a.toNat 0)) m ∧ args.foldl (fun m a => max m (acc.getD a.toNat 0)) m ≤ b := by
    intro args
    induction args with
    | nil => intro m h1 h2; exact ⟨h1, h2⟩
    | cons a args ih => intro m h1 h2; rw [List.foldl_cons]; have := h a.toNat; exact ih _ (by omega) (by omega)
  exact this args 0 (Int.le_refl _) hb
theorem getD_append_lt {xs ys : List Int} {i : Nat} (h : i < xs.length) : (xs ++ ys).getD i 0 = xs.getD i 0 := by
  rw [List.getD_eq_getElem?_getD, List.getD_eq_getElem?_getD, List.getElem?_append_left h]
theorem getD_none {xs : List Int} {i : Nat} (h : xs.length ≤ i) : xs.getD i 0 = 0 := by
  rw [List.getD_eq_getElem?_getD, List.getElem?_eq_none h]; rfl
theorem deep_bd (ts : List Nd) : ∀ j, j ≤ ts.length → ∀ a, 0 ≤ (deep (ts.take j)).getD a 0 ∧ (deep (ts.take j)).getD a 0 ≤ j
  | 0, _, a => by
    have e : (deep (ts.take 0)).getD a 0 = 0 := by rw [List.take_zero]; exact getD_none (by simp [deep])
    rw [e]; omega
  | j + 1, h, a => by
    have ih := deep_bd ts j (by omega)
    have hl : (deep (ts.take j)).length = j := by rw [deep_len, List.length_take]; omega
    rw [deep_snoc ts j (by omega)]
    have hm := dmax_bd ih (by omega) (ts.getD j default).args
    rcases Nat.lt_trichotomy a j with h1 | h1 | h1
    · rw [getD_append_lt (by omega)]; have := ih a; omega
    · subst h1
      rw [List.getD_eq_getElem?_getD, List.getElem?_append_right (by omega), hl, Nat.sub_self]
      show 0 ≤ dmax _ _ + 1 ∧ dmax _ _ + 1 ≤ _
      omega
    · rw [getD_none (by simp; omega)]; omega
/-- The depths of the first nodes, and zeros. -/
def dL (ts : List Nd) (j : Nat) : List Int := deep (ts.take j) ++ List.replicate (ts.length - j) 0
theorem deep_take_len {ts : List Nd} {j : Nat} (h : j ≤ ts.length) : (deep (ts.take j)).length = j := by rw [deep_len, List.length_take]; omega
theorem dL_len {ts : List Nd} {j : Nat} (h : j ≤ ts.length) : (dL ts j).length = ts.length := by
  unfold dL; rw [List.length_append, deep_take_len h, List.length_replicate]; omega
theorem dL_get {ts : List Nd} {j a : Nat} (h : j ≤ ts.length) (ha : a < j) : (dL ts j).getD a 0 = (deep (ts.take j)).getD a 0 := by
  unfold dL; rw [getD_append_lt (by rw [deep_take_len h]; exact ha)]
theorem dL_at {ts : List Nd} {j : Nat} (h : j < ts.length) : (dL ts j).getD j 0 = 0 := by
  unfold dL
  rw [List.getD_eq_getElem?_getD, List.getElem?_append_right (by rw [deep_take_len (by omega)]; omega), deep_take_len (by omega), Nat.sub_self, List.getElem?_replicate]
  split <;> rfl
theorem dL_set {ts : List Nd} {j : Nat} (h : j < ts.length) : (dL ts j).set j (dmax (deep (ts.take j)) (ts.getD j default).args + 1) = dL ts (j + 1) := by
  unfold dL
  rw [deep_snoc ts j h, List.set_append_right _ _ (by rw [deep_take_len (by omega)]; omega), deep_take_len (by omega), Nat.sub_self]
  have e : ts.length - j = (ts.length - (j + 1)) + 1 := by omega
  rw [e, List.replicate_succ, List.set_cons_zero, List.append_assoc]
  rfl
theorem set_at {l : List Int} {k : Nat} {x : Int} (h : l.getD k 0 = x) (hk : k < l.length) : l.set k x = l := by
  apply List.ext_getElem (by simp)
  intro i h1 h2
  rw [List.getElem_set]
  split
  · rename_i e
    subst e
    rw [← h, List.getD_eq_getElem?_getD, List.getElem?_eq_getElem hk]; rfl
  · rfl
theorem OInts.made {w : World} {base g n : Nat} {e : TypeId} {k : IntKind} (h : w.ownsRow base e 1 (.slice (some ⟨g, 0, none⟩) n n) n (madeCells #[Value.int k 0] n).toList) : OInts k w g (List.replicate n 0) := by
  refine ⟨(h.lt g rfl).2, fun i hi => ?_⟩
  rw [List.length_replicate] at hi
  refine ⟨?_, h.frozenAt i⟩
  rw [h.cellAt i (by omega)]
  rw [toList_madeCells_one, List.getElem?_replicate, if_pos hi, List.getD_eq_getElem?_getD, List.getElem?_replicate, if_pos hi]; rfl
/-- A node, read at a later world; its Args are told of the first one. -/
theorem Nds.at2 {w wr : World} {v : Value} {ts : List Nd} (h : Nds w v ts) (hb : Below w.heap.size w wr) {k : Nat} (hk : k < ts.length) : ∃ b q c av, v = .slice (some ⟨b, q, none⟩) ts.length c ∧ ts.length ≤ c ∧ b < w.heap.size ∧ Ints .i64 w av (ts.getD k default).args ∧
    wr.cell? ⟨b, q + k * 5, none⟩ = some (.int .i64 (ts.getD k default).op) ∧ wr.cell? ⟨b, q + k * 5 + 1, none⟩ = some (.int .i64 (ts.getD k default).width) ∧ wr.cell? ⟨b, q + k * 5 + 2, none⟩ = some (.int .i64 (ts.getD k default).flags) ∧
    wr.cell? ⟨b, q + k * 5 + 3, none⟩ = some av ∧ wr.cell? ⟨b, q + k * 5 + 4, none⟩ = some (.int .u32 (ts.getD k default).imm) := by
  obtain ⟨b, q, c, e, l1, l2, hbw, x0, x1, x2, ⟨av, x3, hV⟩, x4⟩ := h.at hk
  exact ⟨b, q, c, av, e, l1, hbw, hV, below_cell hb hbw x0, below_cell hb hbw x1, below_cell hb hbw x2, below_cell hb hbw x3, below_cell hb hbw x4⟩
theorem max_if (p z : Int) : (if p < z then z else p) = max p z := by rw [Int.max_def]; split <;> split <;> omega
theorem below_made {w w' : World} (h : w.grownBy w' none) : Below w.heap.size w w' := (Below.refl _ _).grown h (Nat.le_refl _) (fun k hk => by cases hk)

set_option maxRecDepth 100000 in
set_option maxHeartbeats 8000000 in
theorem pDepth (ts : List Nd) (tv : Value) (w : World) (hts : Nds w tv ts) (hi : ∀ x ∈ ts, 0 ≤ x.imm ∧ x.imm ≤ 4294967295) : Calls Try.prog 15 #[tv] w fun e w' => e = .returned (.tuple #[.int .i64 (depV ts), .int .i64 (valE ts)]) ∧ Below w.heap.size w w' := by
  have HT := Lib.hid hts
  have HI := Lib.hid hi
  obtain ⟨ta, tc, rfl, ht1, ht2⟩ := hts.shape
  clear hi hts
  obtain ⟨i0, hi0, hz0, hz1, hz2⟩ := info_parts info_int
  cases hz : (valE ts != 0)
  rotate_left
  · have HZ : Hid (valE ts ≠ 0) := by
      have h : ¬ valE ts = 0 := by simpa using hz
      exact h
    have HV : Hid (depV ts = 0) := if_neg HZ.out
    go_enter Try.func15, Try.ntmps15
    go_wp2_with fail
    refine (pValidate ts _ _ HT.out HI.out).mono ?_
    rintro e w' ⟨rfl, hb1⟩
    go_wp2_with fail
    go_ret2
    exact ⟨by rw [HV.out]; rfl, hb1⟩
  have hz' : valE ts = 0 := by simpa using hz
  have HZ := Lib.hid hz'
  clear hz hz'
  have HF := Lib.hid (valid_facts HZ.out)
  have hlen : 1 ≤ ts.length ∧ ts.length ≤ 300 := ⟨HF.out.1, HF.out.2.1⟩
  obtain ⟨hl1, hl2⟩ := hlen
  have HV : Hid (depV ts = (deep ts).getD (ts.length - 1) 0) := if_pos HZ.out
  go_enter Try.func15, Try.ntmps15
  go_wp2_with fail
  refine (pValidate ts _ _ HT.out HI.out).mono ?_
  rintro e w1 ⟨rfl, hb1⟩
  rw [HZ.out]
  have hb1s := hb1.size
  have HB1 := Lib.hid hb1
  clear hb1
  go_wp2_with (at_make; refine wpList_make_full _ rfl _ _ 25 rfl (w1.heap.size) 3 i0 (.int .i64 0) 1 Try.underlying25 hi0 hz0 hz1 .i64 .i64 _ _ ts.length rfl rfl rfl rfl ?d1 ?d2 ?d3 ?_)
  case d1 => rw [hz2]; omega
  case d2 => unfold maxLen; omega
  case d3 => exact Nat.le_refl _
  intro w2 hown hgr
  have hO : OInts .i64 w2 w1.heap.size (dL ts 0) := (OInts.made hown : OInts .i64 w2 w1.heap.size (List.replicate ts.length 0))
  have hb2 := below_next HB1.out HB1.out.size (below_made hgr)
  have hbn : w.heap.size ≤ w1.heap.size := hb1s
  have HB2 := Lib.hid (And.intro hO hb2)
  clear hown hgr hO hb2
  go_wp2_with fail
  go_loopw [20] (fun i wr => ∃ j : Nat, j ≤ ts.length ∧ i = .int .i64 j ∧ OInts .i64 wr w1.heap.size (dL ts j) ∧ Below w.heap.size w wr) (fun i _ => ts.length - (intOf i).toNat)
  case atStart => exact ⟨0, Nat.zero_le _, rfl, HB2.out.1, HB2.out.2⟩
  case round =>
    obtain ⟨j, hj, rfl, ho, hb⟩ := hrel
    have hBs := ho.1
    have HO := Lib.hid ho
    have HB := Lib.hid hb
    have hbs := hb.size
    by_cases hlt : j < ts.length
    · obtain ⟨b, q, c', av, e', _, hbq, hav, c0, c1, c2, c3, c4⟩ := HT.out.at2 hb hlt
      cases e'
      have HSF := Lib.hid (shaped_facts (okS_at HF.out.2.2.1 hlt))
      have HDS := Lib.hid (@dL_set ts j hlt)
      have HDB := Lib.hid (deep_bd ts j hj)
      have HDG := Lib.hid (fun a => @dL_get ts j a hj)
      have h0 := dL_at hlt
      have HDL := Lib.hid (@dL_len ts j hj)
      have HD0 := Lib.hid (set_at h0 (by rw [HDL.out]; exact hlt))
      clear hb ho h0
      have HDM := Lib.hid (dmax_snoc (deep (ts.take j)))
      generalize dL ts j = L at *
      generalize deep (ts.take j) = acc at *
      generalize ts.getD j default = x at *
      obtain ⟨op, width, flags, args, imm⟩ := x
      simp only at c0 c1 c2 c3 c4 hav HSF HDS
      have HAV := Lib.hid hav
      have hal : args.length ≤ 3 := by have := HSF.out.1; rcases arV_cases op with h | h | h | h | h <;> omega
      obtain ⟨aa, ac, rfl, _⟩ := hav.shape
      clear hav
      obtain ⟨wo, rfl⟩ : ∃ wo : World, wo = wr := ⟨_, rfl⟩
      go_wp2_with fail
      go_loopw [28] (fun i wr => ∃ k : Nat, k ≤ args.length ∧ i = .int .i64 k ∧ OInts .i64 wr w1.heap.size (L.set j (dmax acc (args.take k))) ∧ Below w.heap.size w wr) (fun i _ => args.length - (intOf i).toNat)
      case atStart => exact ⟨0, Nat.zero_le _, rfl, by rw [show dmax acc (args.take 0) = 0 from rfl, HD0.out]; exact HO.out.alloc _, HB.out.alloc (by omega) _⟩
      case round =>
        obtain ⟨k, hk, rfl, ho, hb⟩ := hrel
        have hbs2 := ho.1
        by_cases hlk : k < args.length
        · obtain ⟨b2, q2, c2', e', _, hb2, d0⟩ := (HAV.out.stays hb).at hlk
          cases e'
          have hr := HSF.out.2.1 (args.getD k 0) (by rw [List.getD_eq_getElem?_getD, List.getElem?_eq_getElem hlk]; exact List.getElem_mem hlk)
          have HM := Lib.hid (HDM.out args k hlk)
          generalize args.getD k 0 = y at *
          obtain ⟨m, rfl⟩ := Int.eq_ofNat_of_zero_le hr.1
          have hmj : m < j := by omega
          have hll : (L.set j (dmax acc (args.take k))).length = ts.length := by rw [List.length_set, HDL.out]
          have e1 := ho.cell (i := j) (by rw [hll]; exact hlt)
          have e2 := ho.cell (i := m) (by rw [hll]; omega)
          have f1 := ho.free (i := j) (by rw [hll]; exact hlt)
          rw [getD_set_self (by rw [HDL.out]; exact hlt)] at e1
          rw [getD_set_ne (by omega), HDG.out m hmj] at e2
          have bd := HDB.out m
          have bm := dmax_bd HDB.out (by omega) (args.take k)
          rw [Int.toNat_natCast] at HM
          have HO1 := Lib.hid ho
          have HLL := Lib.hid hll
          have HBB := Lib.hid hb
          clear ho hb hr hll
          generalize dmax acc (args.take k) = p at *
          generalize acc.getD m 0 = z at *
          have hmj2 : m < ts.length := by omega
          go_wp2_with fail
          go_region
          all_goals go_wp2_with fail
          all_goals go_roundw
          case rel => exact ⟨k + 1, by omega, by go_num, by
            rw [HM.out, ← max_if]
            have h := HO1.out.set (i := j) (by rw [HLL.out]; exact hlt) (if p < z then z else p)
            rw [List.set_set] at h
            exact h, (below_at HBB.out hbn _ _).drew⟩
          case measure => simp [intOf]; omega
        · obtain rfl : k = args.length := by omega
          have hll : (L.set j (dmax acc (args.take args.length))).length = ts.length := by rw [List.length_set, HDL.out]
          rw [List.take_length] at ho hll
          have e1 := ho.cell (i := j) (by rw [hll]; exact hlt)
          have f1 := ho.free (i := j) (by rw [hll]; exact hlt)
          rw [getD_set_self (by rw [HDL.out]; exact hlt)] at e1
          have bm := dmax_bd HDB.out (by omega) args
          have HO1 := Lib.hid ho
          have HLL := Lib.hid hll
          have HBB := Lib.hid hb
          clear ho hll hb
          generalize dmax acc args = p at *
          go_wp2_with fail
          go_roundw
          case rel => exact ⟨j + 1, by omega, by go_num, by
            rw [← HDS.out]
            have h := HO1.out.set (i := j) (by rw [HLL.out]; exact hlt) (p + 1)
            rw [List.set_set] at h
            exact h, below_at HBB.out hbn _ _⟩
          case measure => simp [intOf]; omega
    · obtain rfl : j = ts.length := by omega
      have hll := dL_len (Nat.le_refl ts.length)
      have hlast : ts.length - 1 < ts.length := by omega
      have e1 := ho.cell (i := ts.length - 1) (by rw [hll]; exact hlast)
      have hdl : dL ts ts.length = deep ts := by unfold dL; rw [List.take_length, Nat.sub_self]; simp
      rw [hdl, ← HV.out] at e1
      have hix : ((ts.length : Int) - 1).toNat = ts.length - 1 := by omega
      obtain ⟨n, hn⟩ : ∃ n, ts.length = n + 1 := ⟨ts.length - 1, by omega⟩
      have HN := Lib.hid hn
      clear hll hdl ho hb hn hix
      go_wp2_with fail
      go_ret2
      exact ⟨by rw [HZ.out]; rfl, HB.out⟩

end Go.Proofs.Ythopdfikikdcbaa
/- Walk of Depth of the answer. -/
namespace Go.Proofs.Ythopdfikikdcbaa
open Go.RowKit Wd
set_option linter.unusedVariables false
set_option linter.unusedSimpArgs false

set_option maxRecDepth 100000 in
set_option maxHeartbeats 8000000 in
theorem rDepth (ts : List Nd) (tv : Value) (w : World) (hts : Nds w tv ts) (hi : ∀ x ∈ ts, 0 ≤ x.imm ∧ x.imm ≤ 4294967295) : Calls Try.prog 16 #[tv] w fun e w' => e = .returned (.tuple #[.int .i64 (depV ts), .int .i64 (valE ts)]) ∧ Below w.heap.size w w' := by
  have HT := Lib.hid hts
  have HI := Lib.hid hi
  obtain ⟨ta, tc, rfl, ht1, ht2⟩ := hts.shape
  clear hi hts
  obtain ⟨i0, hi0, hz0, hz1, hz2⟩ := info_parts info_int
  cases hz : (valE ts != 0)
  rotate_left
  · have HZ : Hid (valE ts ≠ 0) := by
      have h : ¬ valE ts = 0 := by simpa using hz
      exact h
    have HV : Hid (depV ts = 0) := if_neg HZ.out
    go_enter Try.func16, Try.ntmps16
    go_wp2_with fail
    refine (rValidate ts _ _ HT.out HI.out).mono ?_
    rintro e w' ⟨rfl, hb1⟩
    go_wp2_with fail
    go_ret2
    exact ⟨by rw [HV.out]; rfl, hb1⟩
  have hz' : valE ts = 0 := by simpa using hz
  have HZ := Lib.hid hz'
  clear hz hz'
  have HF := Lib.hid (valid_facts HZ.out)
  have hlen : 1 ≤ ts.length ∧ ts.length ≤ 300 := ⟨HF.out.1, HF.out.2.1⟩
  obtain ⟨hl1, hl2⟩ := hlen
  have HV : Hid (depV ts = (deep ts).getD (ts.length - 1) 0) := if_pos HZ.out
  go_enter Try.func16, Try.ntmps16
  go_wp2_with fail
  refine (rValidate ts _ _ HT.out HI.out).mono ?_
  rintro e w1 ⟨rfl, hb1⟩
  rw [HZ.out]
  have hb1s := hb1.size
  have HB1 := Lib.hid hb1
  clear hb1
  go_wp2_with fail
  go_loopw [5, 6] (fun v i wr => ∃ j : Nat, j ≤ ts.length ∧ i = .int .i64 j ∧ RowI wr w.heap.size 3 .i64 v (deep (ts.take j)) ∧ Below w.heap.size w wr) (fun _ i _ => ts.length - (intOf i).toNat)
  case atStart => exact ⟨0, Nat.zero_le _, rfl, RowI.nil _ _ _ _, HB1.out⟩
  case round =>
    obtain ⟨j, hj, rfl, hrow, hb⟩ := hrel
    have HB := Lib.hid hb
    have hbs := hb.size
    by_cases hlt : j < ts.length
    · obtain ⟨b, q, c', av, e', _, hbq, hav, c0, c1, c2, c3, c4⟩ := HT.out.at2 hb hlt
      cases e'
      have HAV := Lib.hid (hav.stays hb)
      have HSF := Lib.hid (shaped_facts (okS_at HF.out.2.2.1 hlt))
      have HDB := Lib.hid (deep_bd ts j hj)
      have hdl := deep_take_len hj
      have HDM := Lib.hid (dmax_snoc (deep (ts.take j)))
      have HDS := Lib.hid (deep_snoc ts j hlt)
      generalize deep (ts.take j) = acc at *
      generalize ts.getD j default = x at *
      obtain ⟨op, width, flags, args, imm⟩ := x
      simp only at c0 c1 c2 c3 c4 hav HSF HDS
      have hal : args.length ≤ 3 := by have := HSF.out.1; rcases arV_cases op with h | h | h | h | h <;> omega
      obtain ⟨aa, ac, rfl, _⟩ := hav.shape
      obtain ⟨ra, rc, rfl⟩ := hrow.shape
      have hints := hrow.ints (by omega)
      unfold RowI at hrow
      rw [hdl] at hrow hints ⊢
      have HO0 := Lib.hid hrow
      have HAI := Lib.hid hints
      have HDL := Lib.hid hdl
      clear hb hav hrow hints hdl
      go_wp2_with fail
      go_loop [7, 8] (fun d i => ∃ k : Nat, k ≤ args.length ∧ i = .int .i64 k ∧ d = .int .i64 (dmax acc (args.take k))) (fun _ i => args.length - (intOf i).toNat)
      case atStart => exact ⟨0, Nat.zero_le _, rfl, rfl⟩
      case round =>
        obtain ⟨k, hk, rfl, rfl⟩ := hrel
        by_cases hlk : k < args.length
        · obtain ⟨b2, q2, c2', e', _, hb2, d0⟩ := HAV.out.at hlk
          cases e'
          have hr := HSF.out.2.1 (args.getD k 0) (by rw [List.getD_eq_getElem?_getD, List.getElem?_eq_getElem hlk]; exact List.getElem_mem hlk)
          have HM := Lib.hid (HDM.out args k hlk)
          generalize args.getD k 0 = y at *
          obtain ⟨m, rfl⟩ := Int.eq_ofNat_of_zero_le hr.1
          have hmj : m < j := by omega
          obtain ⟨b3, q3, rfl, _, hcs⟩ := HAI.out.row (by rw [HDL.out]; omega)
          have e2 := hcs m (by rw [HDL.out]; exact hmj)
          have bd := HDB.out m
          have bm := dmax_bd HDB.out (by omega) (args.take k)
          rw [Int.toNat_natCast] at HM
          clear hr hcs
          generalize dmax acc (args.take k) = p at *
          generalize acc.getD m 0 = z at *
          go_wp2_with fail
          go_round
          case rel => exact ⟨k + 1, by omega, by go_num, by rw [HM.out, ← max_if]⟩
          case measure => simp [intOf]; omega
        · obtain rfl : k = args.length := by omega
          rw [List.take_length]
          have bm := dmax_bd HDB.out (by omega) args
          generalize dmax acc args = p at *
          go_wp2_with (at_builtin; refine wpList_append_own _ rfl _ _ 25 rfl (w.heap.size) 3 i0 (.int .i64 0) 1 8 Try.underlying25 hi0 hz0 hz1 hz2 rfl (by decide) _ _ _ rfl (HO0.out.alloc _) ⟨wr.heap.size, 0, none⟩ 1 1 [.int .i64 (p + 1)] rfl rfl ?c1 ?c2 ?c3 ?c4 ?c5 ?_)
          case c2 => simp [Value.oneCell']
          case c3 => unfold maxLen; omega
          case c4 => omega
          case c5 => first | omega | (simp; omega)
          intro v' w2 hown' hgrow _
          have HO := Lib.hid hown'
          have HG := Lib.hid hgrow
          clear hown' hgrow
          go_wp2_with fail
          go_roundw
          case rel => exact ⟨j + 1, by omega, by go_num, RowI.app1 HO.out HDL.out HDS.out, (HB.out.alloc (by omega) _).grown HG.out (by simp; omega) (own_ge HO0.out)⟩
          case measure => simp [intOf]; omega
    · obtain rfl : j = ts.length := by omega
      rw [List.take_length] at hrow
      have hdl := deep_len ts
      obtain ⟨ra, rc, rfl⟩ := hrow.shape
      obtain ⟨b3, q3, rfl, _, hcs⟩ := (hrow.ints (by omega)).row (by omega)
      have e1 := hcs (ts.length - 1) (by omega)
      rw [← HV.out] at e1
      rw [hdl]
      clear hrow hdl hcs hb
      go_wp2_with fail
      go_ret2
      exact ⟨by rw [HZ.out]; rfl, HB.out⟩

end Go.Proofs.Ythopdfikikdcbaa
/- Compare, Opposite, Mirror of both sides, and the walk of the statement BitsCompares. -/
namespace Go.Proofs.Ythopdfikikdcbaa
open Go.RowKit Wd
set_option linter.unusedVariables false
set_option linter.unusedSimpArgs false
def isP (p : Int) : Bool := decide (0 ≤ p ∧ p ≤ 9)
def coX (p n a b : Int) : Bool := goodC p n a b && cmpV p n a b
def coE (p n a b : Int) : Int := if goodC p n a b = true then 0 else 1
def opX (p : Int) : Int := if isP p = true then oppV p else 0
def miX (p : Int) : Int := if isP p = true then mirV p else 0
def opE (p : Int) : Int := if isP p = true then 0 else 1

theorem isPred_any (p : Int) (w : World) : Calls Try.prog 103 #[.int .i64 p] w fun e w' => e = .returned (.bool (isP p)) ∧ w = w' := by
  by_cases h1 : 0 ≤ p <;> by_cases h2 : p ≤ 9
  all_goals
    go_enter Try.func103, Try.ntmps103
    go_wp2
    go_ret
    exact ⟨ret_b (by simp [isP, h1, h2]), rfl⟩
theorem rIsPred_any (p : Int) (w : World) : Calls Try.prog 109 #[.int .i64 p] w fun e w' => e = .returned (.bool (isP p)) ∧ w = w' := by
  by_cases h1 : 0 ≤ p <;> by_cases h2 : p ≤ 9
  all_goals
    go_enter Try.func109, Try.ntmps109
    go_wp2
    go_ret
    exact ⟨ret_b (by simp [isP, h1, h2]), rfl⟩
theorem rcompare_any (p x y : Int) (w : World) (h1 : 0 ≤ p) (h2 : p ≤ 9) : Calls Try.prog 110 #[.int .i64 p, .int .i64 x, .int .i64 y] w fun e w' => e = .returned (.bool (cmp2 p x y)) ∧ w = w' := by
  have h : p = 0 ∨ p = 1 ∨ p = 2 ∨ p = 3 ∨ p = 4 ∨ p = 5 ∨ p = 6 ∨ p = 7 ∨ p = 8 ∨ p = 9 := by omega
  rcases h with rfl | rfl | rfl | rfl | rfl | rfl | rfl | rfl | rfl | rfl
  · have e : cmp2 0 x y = (x == y) := rfl
    rw [e]
    clear e
    go_enter Try.func110, Try.ntmps110
    go_wp2
    go_ret
    exact ⟨rfl, rfl⟩
  · have e : cmp2 1 x y = (x != y) := rfl
    rw [e]
    clear e
    go_enter Try.func110, Try.ntmps110
    go_wp2
    go_ret
    exact ⟨rfl, rfl⟩
  · have e : cmp2 2 x y = decide (x < y) := rfl
    rw [e]
    clear e
    go_enter Try.func110, Try.ntmps110
    go_wp2
    go_ret
    exact ⟨rfl, rfl⟩
  · have e : cmp2 3 x y = decide (x ≤ y) := rfl
    rw [e]
    clear e
    go_enter Try.func110, Try.ntmps110
    go_wp2
    go_ret
    exact ⟨rfl, rfl⟩
  · have e : cmp2 4 x y = decide (y < x) := rfl
    rw [e]
    clear e
    go_enter Try.func110, Try.ntmps110
    go_wp2
    go_ret
    exact ⟨rfl, rfl⟩
  · have e : cmp2 5 x y = decide (y ≤ x) := rfl
    rw [e]
    clear e
    go_enter Try.func110, Try.ntmps110
    go_wp2
    go_ret
    exact ⟨rfl, rfl⟩
  · have e : cmp2 6 x y = decide (x < y) := rfl
    rw [e]
    clear e
    go_enter Try.func110, Try.ntmps110
    go_wp2
    go_ret
    exact ⟨rfl, rfl⟩
  · have e : cmp2 7 x y = decide (x ≤ y) := rfl
    rw [e]
    clear e
    go_enter Try.func110, Try.ntmps110
    go_wp2
    go_ret
    exact ⟨rfl, rfl⟩
  · have e : cmp2 8 x y = decide (y < x) := rfl
    rw [e]
    clear e
    go_enter Try.func110, Try.ntmps110
    go_wp2
    go_ret
    exact ⟨rfl, rfl⟩
  · have e : cmp2 9 x y = decide (y ≤ x) := rfl
    rw [e]
    clear e
    go_enter Try.func110, Try.ntmps110
    go_wp2
    go_ret
    exact ⟨rfl, rfl⟩

set_option maxHeartbeats 1000000 in
theorem pCompare (p n a b : Int) (h3 : 0 ≤ a) (h4 : a ≤ 4294967295) (h5 : 0 ≤ b) (h6 : b ≤ 4294967295) (w : World) : Calls Try.prog 82 #[.int .i64 p, .int .i64 n, .int .u32 a, .int .u32 b] w fun e w' => e = .returned (.tuple #[.bool (coX p n a b), .int .i64 (coE p n a b)]) ∧ Below w.heap.size w w' := by
  by_cases g : goodC p n a b = true
  · obtain ⟨g1, g2, g3, g4, g5, g6⟩ := (goodC_iff _ _ _ _).1 g
    have e2 : coE p n a b = 0 := by simp [coE, g]
    have e1 : coX p n a b = cmpV p n a b := by simp [coX, g]
    rw [e1, e2]
    have hn : isW n = true := by simp [isW, g3, g4]
    have fa : fit n a = true := by simp [fit, g5]
    have fb : fit n b = true := by simp [fit, g6]
    have hq : isP p = true := by simp [isP, g1, g2]
    have x1 := sgn_lo32 (n := n) (a := a) (by omega) (by omega) h3
    have x2 := sgn_hi32 (n := n) (a := a) (by omega) (by omega) g5
    have y1 := sgn_lo32 (n := n) (a := b) (by omega) (by omega) h5
    have y2 := sgn_hi32 (n := n) (a := b) (by omega) (by omega) g6
    clear e1 e2 g
    have h : p = 0 ∨ p = 1 ∨ p = 2 ∨ p = 3 ∨ p = 4 ∨ p = 5 ∨ p = 6 ∨ p = 7 ∨ p = 8 ∨ p = 9 := by omega
    rcases h with rfl | rfl | rfl | rfl | rfl | rfl | rfl | rfl | rfl | rfl
    · have e : cmpV 0 n a b = (a == b) := rfl
      rw [e]
      clear e
      go_enter Try.func82, Try.ntmps82
      go_wp2_with (first | (go_at_call 103; refine (isPred_any _ _).mono ?_; rintro e w' ⟨rfl, rfl⟩) | (go_at_call 104; refine (fits2 _ a b _ _ (by simp [go_sem]) (by simp [go_sem])).mono ?_; rintro e w' ⟨rfl, rfl⟩) | (go_at_call 105; refine (signed_any _ _ _ (by omega) (by omega) (by omega) (by omega)).mono ?_; rintro e w' ⟨rfl, rfl⟩))
      go_ret2
      exact ⟨rfl, (Below.refl _ _).alloc (Nat.le_refl _) _⟩
    · have e : cmpV 1 n a b = (a != b) := rfl
      rw [e]
      clear e
      go_enter Try.func82, Try.ntmps82
      go_wp2_with (first | (go_at_call 103; refine (isPred_any _ _).mono ?_; rintro e w' ⟨rfl, rfl⟩) | (go_at_call 104; refine (fits2 _ a b _ _ (by simp [go_sem]) (by simp [go_sem])).mono ?_; rintro e w' ⟨rfl, rfl⟩) | (go_at_call 105; refine (signed_any _ _ _ (by omega) (by omega) (by omega) (by omega)).mono ?_; rintro e w' ⟨rfl, rfl⟩))
      go_ret2
      exact ⟨rfl, (Below.refl _ _).alloc (Nat.le_refl _) _⟩
    · have e : cmpV 2 n a b = decide (a < b) := rfl
      rw [e]
      clear e
      go_enter Try.func82, Try.ntmps82
      go_wp2_with (first | (go_at_call 103; refine (isPred_any _ _).mono ?_; rintro e w' ⟨rfl, rfl⟩) | (go_at_call 104; refine (fits2 _ a b _ _ (by simp [go_sem]) (by simp [go_sem])).mono ?_; rintro e w' ⟨rfl, rfl⟩) | (go_at_call 105; refine (signed_any _ _ _ (by omega) (by omega) (by omega) (by omega)).mono ?_; rintro e w' ⟨rfl, rfl⟩))
      go_ret2
      exact ⟨rfl, (Below.refl _ _).alloc (Nat.le_refl _) _⟩
    · have e : cmpV 3 n a b = decide (a ≤ b) := rfl
      rw [e]
      clear e
      go_enter Try.func82, Try.ntmps82
      go_wp2_with (first | (go_at_call 103; refine (isPred_any _ _).mono ?_; rintro e w' ⟨rfl, rfl⟩) | (go_at_call 104; refine (fits2 _ a b _ _ (by simp [go_sem]) (by simp [go_sem])).mono ?_; rintro e w' ⟨rfl, rfl⟩) | (go_at_call 105; refine (signed_any _ _ _ (by omega) (by omega) (by omega) (by omega)).mono ?_; rintro e w' ⟨rfl, rfl⟩))
      go_ret2
      exact ⟨rfl, (Below.refl _ _).alloc (Nat.le_refl _) _⟩
    · have e : cmpV 4 n a b = decide (b < a) := rfl
      rw [e]
      clear e
      go_enter Try.func82, Try.ntmps82
      go_wp2_with (first | (go_at_call 103; refine (isPred_any _ _).mono ?_; rintro e w' ⟨rfl, rfl⟩) | (go_at_call 104; refine (fits2 _ a b _ _ (by simp [go_sem]) (by simp [go_sem])).mono ?_; rintro e w' ⟨rfl, rfl⟩) | (go_at_call 105; refine (signed_any _ _ _ (by omega) (by omega) (by omega) (by omega)).mono ?_; rintro e w' ⟨rfl, rfl⟩))
      go_ret2
      exact ⟨rfl, (Below.refl _ _).alloc (Nat.le_refl _) _⟩
    · have e : cmpV 5 n a b = decide (b ≤ a) := rfl
      rw [e]
      clear e
      go_enter Try.func82, Try.ntmps82
      go_wp2_with (first | (go_at_call 103; refine (isPred_any _ _).mono ?_; rintro e w' ⟨rfl, rfl⟩) | (go_at_call 104; refine (fits2 _ a b _ _ (by simp [go_sem]) (by simp [go_sem])).mono ?_; rintro e w' ⟨rfl, rfl⟩) | (go_at_call 105; refine (signed_any _ _ _ (by omega) (by omega) (by omega) (by omega)).mono ?_; rintro e w' ⟨rfl, rfl⟩))
      go_ret2
      exact ⟨rfl, (Below.refl _ _).alloc (Nat.le_refl _) _⟩
    · have e : cmpV 6 n a b = decide (sgn n a < sgn n b) := rfl
      rw [e]
      clear e
      go_enter Try.func82, Try.ntmps82
      go_wp2_with (first | (go_at_call 103; refine (isPred_any _ _).mono ?_; rintro e w' ⟨rfl, rfl⟩) | (go_at_call 104; refine (fits2 _ a b _ _ (by simp [go_sem]) (by simp [go_sem])).mono ?_; rintro e w' ⟨rfl, rfl⟩) | (go_at_call 105; refine (signed_any _ _ _ (by omega) (by omega) (by omega) (by omega)).mono ?_; rintro e w' ⟨rfl, rfl⟩))
      go_ret2
      exact ⟨rfl, (Below.refl _ _).alloc (Nat.le_refl _) _⟩
    · have e : cmpV 7 n a b = decide (sgn n a ≤ sgn n b) := rfl
      rw [e]
      clear e
      go_enter Try.func82, Try.ntmps82
      go_wp2_with (first | (go_at_call 103; refine (isPred_any _ _).mono ?_; rintro e w' ⟨rfl, rfl⟩) | (go_at_call 104; refine (fits2 _ a b _ _ (by simp [go_sem]) (by simp [go_sem])).mono ?_; rintro e w' ⟨rfl, rfl⟩) | (go_at_call 105; refine (signed_any _ _ _ (by omega) (by omega) (by omega) (by omega)).mono ?_; rintro e w' ⟨rfl, rfl⟩))
      go_ret2
      exact ⟨rfl, (Below.refl _ _).alloc (Nat.le_refl _) _⟩
    · have e : cmpV 8 n a b = decide (sgn n b < sgn n a) := rfl
      rw [e]
      clear e
      go_enter Try.func82, Try.ntmps82
      go_wp2_with (first | (go_at_call 103; refine (isPred_any _ _).mono ?_; rintro e w' ⟨rfl, rfl⟩) | (go_at_call 104; refine (fits2 _ a b _ _ (by simp [go_sem]) (by simp [go_sem])).mono ?_; rintro e w' ⟨rfl, rfl⟩) | (go_at_call 105; refine (signed_any _ _ _ (by omega) (by omega) (by omega) (by omega)).mono ?_; rintro e w' ⟨rfl, rfl⟩))
      go_ret2
      exact ⟨rfl, (Below.refl _ _).alloc (Nat.le_refl _) _⟩
    · have e : cmpV 9 n a b = decide (sgn n b ≤ sgn n a) := rfl
      rw [e]
      clear e
      go_enter Try.func82, Try.ntmps82
      go_wp2_with (first | (go_at_call 103; refine (isPred_any _ _).mono ?_; rintro e w' ⟨rfl, rfl⟩) | (go_at_call 104; refine (fits2 _ a b _ _ (by simp [go_sem]) (by simp [go_sem])).mono ?_; rintro e w' ⟨rfl, rfl⟩) | (go_at_call 105; refine (signed_any _ _ _ (by omega) (by omega) (by omega) (by omega)).mono ?_; rintro e w' ⟨rfl, rfl⟩))
      go_ret2
      exact ⟨rfl, (Below.refl _ _).alloc (Nat.le_refl _) _⟩
  · have e2 : coE p n a b = 1 := by simp [coE, g]
    have e1 : coX p n a b = false := by simp [coX, g]
    rw [e1, e2]
    clear e1 e2
    cases hq : isP p
    · clear g
      go_enter Try.func82, Try.ntmps82
      go_wp2_with (first | (go_at_call 103; refine (isPred_any _ _).mono ?_; rintro e w' ⟨rfl, rfl⟩) | (go_at_call 104; refine (fits2 _ a b _ _ (by simp [go_sem]) (by simp [go_sem])).mono ?_; rintro e w' ⟨rfl, rfl⟩) | (go_at_call 105; refine (signed_any _ _ _ (by omega) (by omega) (by omega) (by omega)).mono ?_; rintro e w' ⟨rfl, rfl⟩))
      go_ret2
      exact ⟨rfl, Below.refl _ _⟩
    · have hx : (isW n && fit n a && fit n b) = false := by
        rw [Bool.eq_false_iff]
        intro h
        apply g
        simp only [isP, isW, fit, Bool.and_eq_true, decide_eq_true_eq] at hq h
        exact (goodC_iff _ _ _ _).2 ⟨hq.1, hq.2, h.1.1.1, h.1.1.2, h.1.2, h.2⟩
      clear g
      cases hw : isW n
      · clear hx
        go_enter Try.func82, Try.ntmps82
        go_wp2_with (first | (go_at_call 103; refine (isPred_any _ _).mono ?_; rintro e w' ⟨rfl, rfl⟩) | (go_at_call 104; refine (fits2 _ a b _ _ (by simp [go_sem]) (by simp [go_sem])).mono ?_; rintro e w' ⟨rfl, rfl⟩) | (go_at_call 105; refine (signed_any _ _ _ (by omega) (by omega) (by omega) (by omega)).mono ?_; rintro e w' ⟨rfl, rfl⟩))
        go_ret2
        exact ⟨rfl, (Below.refl _ _).alloc (Nat.le_refl _) _⟩
      · cases fa : fit n a
        · clear hx
          go_enter Try.func82, Try.ntmps82
          go_wp2_with (first | (go_at_call 103; refine (isPred_any _ _).mono ?_; rintro e w' ⟨rfl, rfl⟩) | (go_at_call 104; refine (fits2 _ a b _ _ (by simp [go_sem]) (by simp [go_sem])).mono ?_; rintro e w' ⟨rfl, rfl⟩) | (go_at_call 105; refine (signed_any _ _ _ (by omega) (by omega) (by omega) (by omega)).mono ?_; rintro e w' ⟨rfl, rfl⟩))
          go_ret2
          exact ⟨rfl, (Below.refl _ _).alloc (Nat.le_refl _) _⟩
        · have fb : fit n b = false := by simpa [hw, fa] using hx
          clear hx
          go_enter Try.func82, Try.ntmps82
          go_wp2_with (first | (go_at_call 103; refine (isPred_any _ _).mono ?_; rintro e w' ⟨rfl, rfl⟩) | (go_at_call 104; refine (fits2 _ a b _ _ (by simp [go_sem]) (by simp [go_sem])).mono ?_; rintro e w' ⟨rfl, rfl⟩) | (go_at_call 105; refine (signed_any _ _ _ (by omega) (by omega) (by omega) (by omega)).mono ?_; rintro e w' ⟨rfl, rfl⟩))
          go_ret2
          exact ⟨rfl, (Below.refl _ _).alloc (Nat.le_refl _) _⟩

set_option maxHeartbeats 1000000 in
theorem rCompare (p n a b : Int) (h3 : 0 ≤ a) (h4 : a ≤ 4294967295) (h5 : 0 ≤ b) (h6 : b ≤ 4294967295) (w : World) : Calls Try.prog 86 #[.int .i64 p, .int .i64 n, .int .u32 a, .int .u32 b] w fun e w' => e = .returned (.tuple #[.bool (coX p n a b), .int .i64 (coE p n a b)]) ∧ w = w' := by
  by_cases g : goodC p n a b = true
  · obtain ⟨g1, g2, g3, g4, g5, g6⟩ := (goodC_iff _ _ _ _).1 g
    have e2 : coE p n a b = 0 := by simp [coE, g]
    have e1 : coX p n a b = cmpV p n a b := by simp [coX, g]
    rw [e1, e2]
    have hn : isW n = true := by simp [isW, g3, g4]
    have fa : fit n a = true := by simp [fit, g5]
    have fb : fit n b = true := by simp [fit, g6]
    have hq : isP p = true := by simp [isP, g1, g2]
    have x1 := sgn_lo32 (n := n) (a := a) (by omega) (by omega) h3
    have x2 := sgn_hi32 (n := n) (a := a) (by omega) (by omega) g5
    have y1 := sgn_lo32 (n := n) (a := b) (by omega) (by omega) h5
    have y2 := sgn_hi32 (n := n) (a := b) (by omega) (by omega) g6
    clear e1 e2 g
    have h : p = 0 ∨ p = 1 ∨ p = 2 ∨ p = 3 ∨ p = 4 ∨ p = 5 ∨ p = 6 ∨ p = 7 ∨ p = 8 ∨ p = 9 := by omega
    rcases h with rfl | rfl | rfl | rfl | rfl | rfl | rfl | rfl | rfl | rfl
    · have e : cmpV 0 n a b = cmp2 0 a b := rfl
      rw [e]
      clear e
      go_enter Try.func86, Try.ntmps86
      go_wp2_with (first | (go_at_call 109; refine (rIsPred_any _ _).mono ?_; rintro e w' ⟨rfl, rfl⟩) | (go_at_call 85; refine (rIsWord_any _ _ _ (by omega) (by omega)).mono ?_; rintro e w' ⟨rfl, rfl⟩) | (go_at_call 111; refine (rSign_any _ _ _ (by omega) (by omega) (by omega) (by omega)).mono ?_; rintro e w' ⟨rfl, rfl⟩) | (go_at_call 110; refine (rcompare_any _ _ _ _ (by omega) (by omega)).mono ?_; rintro e w' ⟨rfl, rfl⟩))
      go_ret2
      exact ⟨rfl, rfl⟩
    · have e : cmpV 1 n a b = cmp2 1 a b := rfl
      rw [e]
      clear e
      go_enter Try.func86, Try.ntmps86
      go_wp2_with (first | (go_at_call 109; refine (rIsPred_any _ _).mono ?_; rintro e w' ⟨rfl, rfl⟩) | (go_at_call 85; refine (rIsWord_any _ _ _ (by omega) (by omega)).mono ?_; rintro e w' ⟨rfl, rfl⟩) | (go_at_call 111; refine (rSign_any _ _ _ (by omega) (by omega) (by omega) (by omega)).mono ?_; rintro e w' ⟨rfl, rfl⟩) | (go_at_call 110; refine (rcompare_any _ _ _ _ (by omega) (by omega)).mono ?_; rintro e w' ⟨rfl, rfl⟩))
      go_ret2
      exact ⟨rfl, rfl⟩
    · have e : cmpV 2 n a b = cmp2 2 a b := rfl
      rw [e]
      clear e
      go_enter Try.func86, Try.ntmps86
      go_wp2_with (first | (go_at_call 109; refine (rIsPred_any _ _).mono ?_; rintro e w' ⟨rfl, rfl⟩) | (go_at_call 85; refine (rIsWord_any _ _ _ (by omega) (by omega)).mono ?_; rintro e w' ⟨rfl, rfl⟩) | (go_at_call 111; refine (rSign_any _ _ _ (by omega) (by omega) (by omega) (by omega)).mono ?_; rintro e w' ⟨rfl, rfl⟩) | (go_at_call 110; refine (rcompare_any _ _ _ _ (by omega) (by omega)).mono ?_; rintro e w' ⟨rfl, rfl⟩))
      go_ret2
      exact ⟨rfl, rfl⟩
    · have e : cmpV 3 n a b = cmp2 3 a b := rfl
      rw [e]
      clear e
      go_enter Try.func86, Try.ntmps86
      go_wp2_with (first | (go_at_call 109; refine (rIsPred_any _ _).mono ?_; rintro e w' ⟨rfl, rfl⟩) | (go_at_call 85; refine (rIsWord_any _ _ _ (by omega) (by omega)).mono ?_; rintro e w' ⟨rfl, rfl⟩) | (go_at_call 111; refine (rSign_any _ _ _ (by omega) (by omega) (by omega) (by omega)).mono ?_; rintro e w' ⟨rfl, rfl⟩) | (go_at_call 110; refine (rcompare_any _ _ _ _ (by omega) (by omega)).mono ?_; rintro e w' ⟨rfl, rfl⟩))
      go_ret2
      exact ⟨rfl, rfl⟩
    · have e : cmpV 4 n a b = cmp2 4 a b := rfl
      rw [e]
      clear e
      go_enter Try.func86, Try.ntmps86
      go_wp2_with (first | (go_at_call 109; refine (rIsPred_any _ _).mono ?_; rintro e w' ⟨rfl, rfl⟩) | (go_at_call 85; refine (rIsWord_any _ _ _ (by omega) (by omega)).mono ?_; rintro e w' ⟨rfl, rfl⟩) | (go_at_call 111; refine (rSign_any _ _ _ (by omega) (by omega) (by omega) (by omega)).mono ?_; rintro e w' ⟨rfl, rfl⟩) | (go_at_call 110; refine (rcompare_any _ _ _ _ (by omega) (by omega)).mono ?_; rintro e w' ⟨rfl, rfl⟩))
      go_ret2
      exact ⟨rfl, rfl⟩
    · have e : cmpV 5 n a b = cmp2 5 a b := rfl
      rw [e]
      clear e
      go_enter Try.func86, Try.ntmps86
      go_wp2_with (first | (go_at_call 109; refine (rIsPred_any _ _).mono ?_; rintro e w' ⟨rfl, rfl⟩) | (go_at_call 85; refine (rIsWord_any _ _ _ (by omega) (by omega)).mono ?_; rintro e w' ⟨rfl, rfl⟩) | (go_at_call 111; refine (rSign_any _ _ _ (by omega) (by omega) (by omega) (by omega)).mono ?_; rintro e w' ⟨rfl, rfl⟩) | (go_at_call 110; refine (rcompare_any _ _ _ _ (by omega) (by omega)).mono ?_; rintro e w' ⟨rfl, rfl⟩))
      go_ret2
      exact ⟨rfl, rfl⟩
    · have e : cmpV 6 n a b = cmp2 6 (sgn n a) (sgn n b) := rfl
      rw [e]
      clear e
      go_enter Try.func86, Try.ntmps86
      go_wp2_with (first | (go_at_call 109; refine (rIsPred_any _ _).mono ?_; rintro e w' ⟨rfl, rfl⟩) | (go_at_call 85; refine (rIsWord_any _ _ _ (by omega) (by omega)).mono ?_; rintro e w' ⟨rfl, rfl⟩) | (go_at_call 111; refine (rSign_any _ _ _ (by omega) (by omega) (by omega) (by omega)).mono ?_; rintro e w' ⟨rfl, rfl⟩) | (go_at_call 110; refine (rcompare_any _ _ _ _ (by omega) (by omega)).mono ?_; rintro e w' ⟨rfl, rfl⟩))
      go_ret2
      exact ⟨rfl, rfl⟩
    · have e : cmpV 7 n a b = cmp2 7 (sgn n a) (sgn n b) := rfl
      rw [e]
      clear e
      go_enter Try.func86, Try.ntmps86
      go_wp2_with (first | (go_at_call 109; refine (rIsPred_any _ _).mono ?_; rintro e w' ⟨rfl, rfl⟩) | (go_at_call 85; refine (rIsWord_any _ _ _ (by omega) (by omega)).mono ?_; rintro e w' ⟨rfl, rfl⟩) | (go_at_call 111; refine (rSign_any _ _ _ (by omega) (by omega) (by omega) (by omega)).mono ?_; rintro e w' ⟨rfl, rfl⟩) | (go_at_call 110; refine (rcompare_any _ _ _ _ (by omega) (by omega)).mono ?_; rintro e w' ⟨rfl, rfl⟩))
      go_ret2
      exact ⟨rfl, rfl⟩
    · have e : cmpV 8 n a b = cmp2 8 (sgn n a) (sgn n b) := rfl
      rw [e]
      clear e
      go_enter Try.func86, Try.ntmps86
      go_wp2_with (first | (go_at_call 109; refine (rIsPred_any _ _).mono ?_; rintro e w' ⟨rfl, rfl⟩) | (go_at_call 85; refine (rIsWord_any _ _ _ (by omega) (by omega)).mono ?_; rintro e w' ⟨rfl, rfl⟩) | (go_at_call 111; refine (rSign_any _ _ _ (by omega) (by omega) (by omega) (by omega)).mono ?_; rintro e w' ⟨rfl, rfl⟩) | (go_at_call 110; refine (rcompare_any _ _ _ _ (by omega) (by omega)).mono ?_; rintro e w' ⟨rfl, rfl⟩))
      go_ret2
      exact ⟨rfl, rfl⟩
    · have e : cmpV 9 n a b = cmp2 9 (sgn n a) (sgn n b) := rfl
      rw [e]
      clear e
      go_enter Try.func86, Try.ntmps86
      go_wp2_with (first | (go_at_call 109; refine (rIsPred_any _ _).mono ?_; rintro e w' ⟨rfl, rfl⟩) | (go_at_call 85; refine (rIsWord_any _ _ _ (by omega) (by omega)).mono ?_; rintro e w' ⟨rfl, rfl⟩) | (go_at_call 111; refine (rSign_any _ _ _ (by omega) (by omega) (by omega) (by omega)).mono ?_; rintro e w' ⟨rfl, rfl⟩) | (go_at_call 110; refine (rcompare_any _ _ _ _ (by omega) (by omega)).mono ?_; rintro e w' ⟨rfl, rfl⟩))
      go_ret2
      exact ⟨rfl, rfl⟩
  · have e2 : coE p n a b = 1 := by simp [coE, g]
    have e1 : coX p n a b = false := by simp [coX, g]
    rw [e1, e2]
    clear e1 e2
    cases hq : isP p
    · clear g
      go_enter Try.func86, Try.ntmps86
      go_wp2_with (first | (go_at_call 109; refine (rIsPred_any _ _).mono ?_; rintro e w' ⟨rfl, rfl⟩) | (go_at_call 85; refine (rIsWord_any _ _ _ (by omega) (by omega)).mono ?_; rintro e w' ⟨rfl, rfl⟩) | (go_at_call 111; refine (rSign_any _ _ _ (by omega) (by omega) (by omega) (by omega)).mono ?_; rintro e w' ⟨rfl, rfl⟩) | (go_at_call 110; refine (rcompare_any _ _ _ _ (by omega) (by omega)).mono ?_; rintro e w' ⟨rfl, rfl⟩))
      go_ret2
      exact ⟨rfl, rfl⟩
    · have hx : (isW n && fit n a && fit n b) = false := by
        rw [Bool.eq_false_iff]
        intro h
        apply g
        simp only [isP, isW, fit, Bool.and_eq_true, decide_eq_true_eq] at hq h
        exact (goodC_iff _ _ _ _).2 ⟨hq.1, hq.2, h.1.1.1, h.1.1.2, h.1.2, h.2⟩
      clear g
      cases hw : isW n
      · clear hx
        go_enter Try.func86, Try.ntmps86
        go_wp2_with (first | (go_at_call 109; refine (rIsPred_any _ _).mono ?_; rintro e w' ⟨rfl, rfl⟩) | (go_at_call 85; refine (rIsWord_any _ _ _ (by omega) (by omega)).mono ?_; rintro e w' ⟨rfl, rfl⟩) | (go_at_call 111; refine (rSign_any _ _ _ (by omega) (by omega) (by omega) (by omega)).mono ?_; rintro e w' ⟨rfl, rfl⟩) | (go_at_call 110; refine (rcompare_any _ _ _ _ (by omega) (by omega)).mono ?_; rintro e w' ⟨rfl, rfl⟩))
        go_ret2
        exact ⟨rfl, rfl⟩
      · cases fa : fit n a
        · clear hx
          go_enter Try.func86, Try.ntmps86
          go_wp2_with (first | (go_at_call 109; refine (rIsPred_any _ _).mono ?_; rintro e w' ⟨rfl, rfl⟩) | (go_at_call 85; refine (rIsWord_any _ _ _ (by omega) (by omega)).mono ?_; rintro e w' ⟨rfl, rfl⟩) | (go_at_call 111; refine (rSign_any _ _ _ (by omega) (by omega) (by omega) (by omega)).mono ?_; rintro e w' ⟨rfl, rfl⟩) | (go_at_call 110; refine (rcompare_any _ _ _ _ (by omega) (by omega)).mono ?_; rintro e w' ⟨rfl, rfl⟩))
          go_ret2
          exact ⟨rfl, rfl⟩
        · have fb : fit n b = false := by simpa [hw, fa] using hx
          clear hx
          go_enter Try.func86, Try.ntmps86
          go_wp2_with (first | (go_at_call 109; refine (rIsPred_any _ _).mono ?_; rintro e w' ⟨rfl, rfl⟩) | (go_at_call 85; refine (rIsWord_any _ _ _ (by omega) (by omega)).mono ?_; rintro e w' ⟨rfl, rfl⟩) | (go_at_call 111; refine (rSign_any _ _ _ (by omega) (by omega) (by omega) (by omega)).mono ?_; rintro e w' ⟨rfl, rfl⟩) | (go_at_call 110; refine (rcompare_any _ _ _ _ (by omega) (by omega)).mono ?_; rintro e w' ⟨rfl, rfl⟩))
          go_ret2
          exact ⟨rfl, rfl⟩

end Go.Proofs.Ythopdfikikdcbaa
/- The values of the nodes of a term: the plain law; and the walk of the closure that reads an Arg's value. -/
namespace Go.Proofs.Ythopdfikikdcbaa
open Go.RowKit Wd
set_option linter.unusedVariables false
set_option linter.unusedSimpArgs false
theorem getD_mem0 {xs : List Int} {i : Nat} (hi : i < xs.length) : xs.getD i 0 ∈ xs := by
  rw [List.getD_eq_getElem?_getD, List.getElem?_eq_getElem hi]; exact List.getElem_mem hi
def vArg (acc : List Int) (x : Nd) (i : Nat) : Int := acc.getD (x.args.getD i 0).toNat 0
/-- The value of a node; acc: those of the nodes before it. -/
def vNode (ts : List Nd) (env acc : List Int) (x : Nd) : Int :=
  if x.op = 0 then x.imm else if x.op = 33 then env.getD x.imm.toNat 0 else
  if x.op = 14 then (if coX x.imm (wdt ts x.args 0) (vArg acc x 0) (vArg acc x 1) = true then 1 else 0) else
  if x.op = 15 then vArg acc x (2 - vArg acc x 0).toNat else
  if 16 ≤ x.op then exX x.op (wdt ts x.args 0) x.width (vArg acc x 0) else toX x.op x.width (vArg acc x 0) (vArg acc x 1)
def valsF (ts : List Nd) (env : List Int) (us : List Nd) : List Int := us.foldl (fun acc x => acc ++ [vNode ts env acc x]) []
def vals (ts : List Nd) (env : List Int) : List Int := valsF ts env ts
theorem vals_snoc (ts : List Nd) (env : List Int) (j : Nat) (h : j < ts.length) : valsF ts env (ts.take (j + 1)) = valsF ts env (ts.take j) ++ [vNode ts env (valsF ts env (ts.take j)) (ts.getD j default)] := by
  unfold valsF; rw [take_snoc ts j h, List.foldl_append]; rfl
theorem valsF_len (ts : List Nd) (env : List Int) (us : List Nd) : (valsF ts env us).length = us.length := by
  have : ∀ (us : List Nd) (acc : List Int), (us.foldl (fun acc x => acc ++ [vNode ts env acc x]) acc).length = acc.length + us.length := by
    intro us
    induction us with
    | nil => intro acc; rfl
    | cons x us ih => intro acc; rw [List.foldl_cons, ih]; simp; omega
  have := this us []
  rw [List.length_nil, Nat.zero_add] at this
  exact this
theorem valsF_take_len {ts : List Nd} {env : List Int} {j : Nat} (h : j ≤ ts.length) : (valsF ts env (ts.take j)).length = j := by rw [valsF_len, List.length_take]; omega
/-- An environment of a term, all words. -/
def EnvOk (ts : List Nd) (env : List Int) : Prop := env.length = 4 ∧ ∀ v, v < 4 → 0 ≤ env.getD v 0 ∧ env.getD v 0 ≤ 4294967295 ∧ ((widL ts).getD v 0 ≠ 0 → env.getD v 0 < pw ((widL ts).getD v 0))
/-- The value of the a-th node is a word of its width. -/
def WordsTo (ts : List Nd) (acc : List Int) (j : Nat) : Prop := ∀ a, a < j → 0 ≤ acc.getD a 0 ∧ acc.getD a 0 < pw (ts.getD a default).width
/-- What the typing of a valid term gives for one node. -/
structure NodeOk (ts : List Nd) (j : Nat) (x : Nd) : Prop where
  len : (x.args.length : Int) = arV x.op
  rng : ∀ i, i < x.args.length → 0 ≤ x.args.getD i 0 ∧ x.args.getD i 0 < j
  wid : 1 ≤ x.width ∧ x.width ≤ 32
  imm : immOk x = true
  typ : typed ts x = true
  one : x.op = 14 → x.width = 1
  ar : arV x.op ≠ -1
theorem nodeOk {ts : List Nd} (h : valE ts = 0) {j : Nat} (hj : j < ts.length) : NodeOk ts j (ts.getD j default) := by
  obtain ⟨_, _, h1, h2, _⟩ := valid_facts h
  obtain ⟨s1, s2, s3, s4, s5, s6, s7, s8⟩ := shaped_facts (okS_at h1 hj)
  exact ⟨s1, fun i hi => s2 _ (getD_mem0 hi), s3, s5, okT_at h2 hj, s7, s8⟩
theorem wdt_eq (ts : List Nd) (x : Nd) (i : Nat) : wdt ts x.args i = (ts.getD (x.args.getD i 0).toNat default).width := rfl
theorem vArg_word {ts : List Nd} {acc : List Int} {j : Nat} {x : Nd} (hx : NodeOk ts j x) (hw : WordsTo ts acc j) {i : Nat} (hi : i < x.args.length) : 0 ≤ vArg acc x i ∧ vArg acc x i < pw (wdt ts x.args i) := by
  have h := hx.rng i hi
  unfold vArg
  rw [wdt_eq]
  exact hw _ (by omega)
theorem word_le {n a : Int} (h : n ≤ 32) (ha : a < pw n) : a ≤ 4294967295 := by have := pw_le32 h; omega
theorem wdt_bd {ts : List Nd} (h : valE ts = 0) {j : Nat} {x : Nd} (hx : NodeOk ts j x) (hj : j ≤ ts.length) {i : Nat} (hi : i < x.args.length) : 1 ≤ wdt ts x.args i ∧ wdt ts x.args i ≤ 32 := by
  have h2 := hx.rng i hi
  rw [wdt_eq]
  exact (nodeOk h (by omega)).wid
theorem exX_word {op m n x : Int} (hn : 1 ≤ n) : 0 ≤ exX op m n x ∧ exX op m n x < pw n := by
  have hp := pw_pos n
  unfold exX
  split
  · unfold extV
    split
    · exact word_wr _ _
    · exact word_wr _ _
  · omega
theorem toX_word {op n a b : Int} (ha : 0 ≤ a) (hb : 0 ≤ b) (hn : 1 ≤ n) : 0 ≤ toX op n a b ∧ toX op n a b < pw n := by
  have hp := pw_pos n
  unfold toX
  split
  · exact tot_word ‹_› ha hb
  · omega
theorem typed_sel {ts : List Nd} {x : Nd} (h : typed ts x = true) (ho : x.op = 15) : wdt ts x.args 0 = 1 ∧ wdt ts x.args 1 = x.width ∧ wdt ts x.args 2 = x.width := by
  simp [typed, ho] at h
  exact ⟨h.1.1, h.1.2, h.2⟩
theorem vNode_word {ts : List Nd} {env acc : List Int} (h : valE ts = 0) (hI : ∀ x ∈ ts, 0 ≤ x.imm ∧ x.imm ≤ 4294967295) (he : EnvOk ts env) {j : Nat} (hj : j < ts.length) (hw : WordsTo ts acc j) :
    0 ≤ vNode ts env acc (ts.getD j default) ∧ vNode ts env acc (ts.getD j default) < pw (ts.getD j default).width := by
  have hx := nodeOk h hj
  have hi := hI _ (mem_getD hj)
  obtain ⟨_, _, hS, _, l, hl⟩ := valid_facts h
  have hinv := (wmap_inv (fun x hx => (hI x hx).1) (fun i hi => okS_at hS hi) ts.length l (Nat.le_refl _) (by rw [List.take_length]; exact hl)).1 j hj
  have hwl : widL ts = l := by have := (widL_ok h).1; rw [hl] at this; cases this; rfl
  have hsh := shaped_facts (okS_at hS hj)
  generalize ts.getD j default = x at *
  have hp := pw_pos x.width
  unfold vNode
  by_cases o0 : x.op = 0
  · rw [if_pos o0]
    have := hx.imm
    unfold immOk at this
    rw [if_pos o0] at this
    simp only [Bool.and_eq_true, fit, decide_eq_true_eq] at this
    exact ⟨hi.1, this.2⟩
  rw [if_neg o0]
  by_cases o33 : x.op = 33
  · rw [if_pos o33]
    have h1 := hinv o33
    have h4 := hsh.2.2.2.2.2.1 o33
    have h2 := he.2 x.imm.toNat (by omega)
    rw [hwl, h1] at h2
    have := hx.wid
    exact ⟨h2.1, h2.2.2 (by omega)⟩
  rw [if_neg o33]
  by_cases o14 : x.op = 14
  · rw [if_pos o14, hx.one o14]
    have : pw 1 = 2 := rfl
    rw [this]
    split <;> omega
  rw [if_neg o14]
  by_cases o15 : x.op = 15
  · rw [if_pos o15]
    have hlen : x.args.length = 3 := by have := hx.len; rw [o15] at this; have h3 : arV 15 = 3 := rfl; omega
    obtain ⟨t0, t1, t2⟩ := typed_sel hx.typ o15
    have w0 := vArg_word hx hw (i := 0) (by omega)
    rw [t0] at w0
    have hp1 : pw 1 = 2 := rfl
    rw [hp1] at w0
    have hk : (2 - vArg acc x 0).toNat = 1 ∨ (2 - vArg acc x 0).toNat = 2 := by omega
    rcases hk with hk | hk
    · rw [hk]; have := vArg_word hx hw (i := 1) (by omega); rw [t1] at this; exact this
    · rw [hk]; have := vArg_word hx hw (i := 2) (by omega); rw [t2] at this; exact this
  rw [if_neg o15]
  by_cases o16 : 16 ≤ x.op
  · rw [if_pos o16]; exact exX_word hx.wid.1
  · rw [if_neg o16]
    have hlen : x.args.length = 2 := by have := hx.len; have := hx.ar; rcases arV_cases x.op with h | h | h | h | h <;> omega
    exact toX_word (vArg_word hx hw (by omega)).1 (vArg_word hx hw (by omega)).1 hx.wid.1
theorem words_snoc {ts : List Nd} {acc : List Int} {j : Nat} {v : Int} (hl : acc.length = j) (hw : WordsTo ts acc j) (h0 : 0 ≤ v) (h1 : v < pw (ts.getD j default).width) : WordsTo ts (acc ++ [v]) (j + 1) := by
  intro a ha
  by_cases e : a = j
  · subst e
    rw [List.getD_eq_getElem?_getD, List.getElem?_append_right (by omega), hl, Nat.sub_self]
    exact ⟨h0, h1⟩
  · rw [getD_append_lt (by omega)]
    exact hw a (by omega)
theorem vals_words {ts : List Nd} {env : List Int} (h : valE ts = 0) (hI : ∀ x ∈ ts, 0 ≤ x.imm ∧ x.imm ≤ 4294967295) (he : EnvOk ts env) : ∀ j, j ≤ ts.length → WordsTo ts (valsF ts env (ts.take j)) j
  | 0, _, a, ha => absurd ha (by omega)
  | j + 1, hj, a, ha => by
    have ih := vals_words h hI he j (by omega)
    have := vNode_word h hI he (show j < ts.length by omega) ih
    rw [vals_snoc ts env j (by omega)]
    exact words_snoc (valsF_take_len (by omega)) ih this.1 this.2 a ha

set_option maxRecDepth 100000 in
theorem varg1 (i : Nat) (args : List Int) (m n c : Nat) (y : Int) (bo bx B : Nat) (av : Value) (w : World) (ht : w.cell? ⟨bo, 0, none⟩ = some (.slice (some ⟨B, 0, none⟩) n c)) (hx : w.cell? ⟨bx, 3, none⟩ = some av) (ha : Ints .i64 w av args) (hi : i < args.length) (hm : args.getD i 0 = m) (h1 : m < n) (hn : n ≤ 140737488351232) (hc : w.cell? ⟨B, m, none⟩ = some (.int .u32 y)) : Calls Try.prog 81 #[.int .i64 i, .pointer (some ⟨bo, 0, none⟩), .pointer (some ⟨bx, 0, none⟩)] w fun e w' => e = .returned (.int .u32 y) ∧ Dr w w' := by
  obtain ⟨b1, o1, c1, rfl, l1, hb1, hc1⟩ := ha.at hi
  have hl := ha.shape.choose_spec.choose_spec.2.2
  rw [hm] at hc1
  have q1 : (i : Int) < args.length := by omega
  have q2 : (m : Int) < n := by omega
  clear ha hm
  go_enter Try.func81, Try.ntmps81
  go_wp2_with fail
  go_quiet (fail)
  go_wp2_with fail
  go_ret
  exact ⟨rfl, _, rfl⟩

theorem varg_0 (args : List Int) (m n c : Nat) (y : Int) (bo bx B : Nat) (av : Value) (w : World) (ht : w.cell? ⟨bo, 0, none⟩ = some (.slice (some ⟨B, 0, none⟩) n c)) (hx : w.cell? ⟨bx, 3, none⟩ = some av) (ha : Ints .i64 w av args) (hi : 0 < args.length) (hm : args.getD 0 0 = m) (h1 : m < n) (hn : n ≤ 140737488351232) (hc : w.cell? ⟨B, m, none⟩ = some (.int .u32 y)) : Calls Try.prog 81 #[.int .i64 0, .pointer (some ⟨bo, 0, none⟩), .pointer (some ⟨bx, 0, none⟩)] w fun e w' => e = .returned (.int .u32 y) ∧ Dr w w' := varg1 0 args m n c y bo bx B av w ht hx ha hi hm h1 hn hc
theorem varg_1 (args : List Int) (m n c : Nat) (y : Int) (bo bx B : Nat) (av : Value) (w : World) (ht : w.cell? ⟨bo, 0, none⟩ = some (.slice (some ⟨B, 0, none⟩) n c)) (hx : w.cell? ⟨bx, 3, none⟩ = some av) (ha : Ints .i64 w av args) (hi : 1 < args.length) (hm : args.getD 1 0 = m) (h1 : m < n) (hn : n ≤ 140737488351232) (hc : w.cell? ⟨B, m, none⟩ = some (.int .u32 y)) : Calls Try.prog 81 #[.int .i64 1, .pointer (some ⟨bo, 0, none⟩), .pointer (some ⟨bx, 0, none⟩)] w fun e w' => e = .returned (.int .u32 y) ∧ Dr w w' := varg1 1 args m n c y bo bx B av w ht hx ha hi hm h1 hn hc
theorem varg_2 (args : List Int) (m n c : Nat) (y : Int) (bo bx B : Nat) (av : Value) (w : World) (ht : w.cell? ⟨bo, 0, none⟩ = some (.slice (some ⟨B, 0, none⟩) n c)) (hx : w.cell? ⟨bx, 3, none⟩ = some av) (ha : Ints .i64 w av args) (hi : 2 < args.length) (hm : args.getD 2 0 = m) (h1 : m < n) (hn : n ≤ 140737488351232) (hc : w.cell? ⟨B, m, none⟩ = some (.int .u32 y)) : Calls Try.prog 81 #[.int .i64 2, .pointer (some ⟨bo, 0, none⟩), .pointer (some ⟨bx, 0, none⟩)] w fun e w' => e = .returned (.int .u32 y) ∧ Dr w w' := varg1 2 args m n c y bo bx B av w ht hx ha hi hm h1 hn hc
end Go.Proofs.Ythopdfikikdcbaa
/- A shared term is valid: the plain law. -/
namespace Go.Proofs.Ythopdfikikdcbaa
open Go.RowKit Wd
set_option linter.unusedVariables false
set_option linter.unusedSimpArgs false
theorem valid_down {ts : List Nd} (h : valE ts = 0) : Down ts := fun k hk a ha => (shaped_facts (okS_at (valid_facts h).2.2.1 hk)).2.1 a ha
/-- What a told node is among the shared ones. -/
theorem shr_node {ts : List Nd} (hd : Down ts) {k : Nat} (hk : k < ts.length) {i : Nat} (hi : i < (shr ts k).length) : ∃ j, j < ts.length ∧ (vis ts k (st0 ts)).told j ∧ (vis ts k (st0 ts)).no j = i ∧ (shr ts k).getD i default = mapN (vis ts k (st0 ts)) (nd ts j) := by
  obtain ⟨w, t⟩ := vis_inv hd hk (st0_inv ts)
  obtain ⟨j, h1, h2⟩ := w.inv.src i hi
  refine ⟨j, told_lt w.inv h1, h1, h2, ?_⟩
  have := w.inv.node j h1
  rw [h2, Int.toNat_natCast] at this
  exact this
theorem immOk_map {s : St} {x : Nd} : immOk (mapN s x) = immOk x := rfl
theorem shaped_map {s : St} {x : Nd} {j i : Nat} (h : shaped j x = true) (ha : ∀ a ∈ x.args, 0 ≤ s.no a.toNat ∧ s.no a.toNat < i) : shaped i (mapN s x) = true := by
  unfold shaped at h ⊢
  simp only [Bool.and_eq_true] at h ⊢
  obtain ⟨⟨⟨⟨⟨⟨⟨h1, h2⟩, h3⟩, h4⟩, h5⟩, h6⟩, h7⟩, h8⟩ := h
  refine ⟨⟨⟨⟨⟨⟨⟨h1, h2⟩, h3⟩, h4⟩, ?_⟩, h6⟩, h7⟩, ?_⟩
  · show (!(((x.args.map _).length : Int) != arV x.op)) = true
    rw [List.length_map]; exact h5
  · rw [Bool.not_eq_true', List.any_eq_false]
    intro a hm
    obtain ⟨b, hb, rfl⟩ := List.mem_map.1 (show a ∈ x.args.map _ from hm)
    have := ha b hb
    simp [bad]; omega
theorem shr_okS {ts : List Nd} (h : valE ts = 0) {k : Nat} (hk : k < ts.length) : okS (shr ts k) = true := by
  have hd := valid_down h
  obtain ⟨w, t⟩ := vis_inv hd hk (st0_inv ts)
  refine okS_good fun i hi => ?_
  obtain ⟨j, hj, ht, hn, he⟩ := shr_node hd hk hi
  rw [he]
  refine shaped_map (okS_at (valid_facts h).2.2.1 hj) fun a ha => ?_
  have h1 := w.inv.low i hi ((vis ts k (st0 ts)).no a.toNat) (by
    show _ ∈ ((shr ts k).getD i default).args
    rw [he]
    exact List.mem_map.2 ⟨a, ha, rfl⟩)
  exact h1
theorem wdt_map {ts : List Nd} (hd : Down ts) {k : Nat} (hk : k < ts.length) {j : Nat} (hj : (vis ts k (st0 ts)).told j) (hjl : j < ts.length) {i : Nat} (hi : i < (nd ts j).args.length) :
    wdt (shr ts k) (mapN (vis ts k (st0 ts)) (nd ts j)).args i = wdt ts (nd ts j).args i := by
  obtain ⟨w, t⟩ := vis_inv hd hk (st0_inv ts)
  have hm := getD_mem0 hi
  have ht := w.inv.cls j hj _ hm
  have hnode := w.inv.node _ ht
  unfold wdt
  have e : (mapN (vis ts k (st0 ts)) (nd ts j)).args.getD i 0 = (vis ts k (st0 ts)).no ((nd ts j).args.getD i 0).toNat := by
    show ((nd ts j).args.map _).getD i 0 = _
    rw [List.getD_eq_getElem?_getD, List.getElem?_map, List.getElem?_eq_getElem hi, List.getD_eq_getElem?_getD, List.getElem?_eq_getElem hi]; rfl
  rw [e]
  show ((vis ts k (st0 ts)).out.getD _ default).width = _
  rw [hnode]; rfl
theorem shr_okT {ts : List Nd} (h : valE ts = 0) {k : Nat} (hk : k < ts.length) : okT (shr ts k) = true := by
  have hd := valid_down h
  refine okT_good fun i hi => ?_
  obtain ⟨j, hj, ht, hn, he⟩ := shr_node hd hk hi
  rw [he]
  have hok := nodeOk h hj
  have hty := hok.typ
  have hlen := hok.len
  have har := hok.ar
  have hw := fun i (hi : i < (nd ts j).args.length) => wdt_map hd hk ht hj hi
  have e1 : (mapN (vis ts k (st0 ts)) (nd ts j)).op = (nd ts j).op := rfl
  have e2 : (mapN (vis ts k (st0 ts)) (nd ts j)).width = (nd ts j).width := rfl
  change typed ts (nd ts j) = true at hty
  change ((nd ts j).args.length : Int) = arV (nd ts j).op at hlen
  change arV (nd ts j).op ≠ -1 at har
  unfold typed at hty ⊢
  rw [e1, e2]
  rcases arV_cases (nd ts j).op with ⟨c | c, e0⟩ | ⟨⟨c1, c2⟩, e0⟩ | ⟨c, e0⟩ | ⟨⟨c1, c2⟩, e0⟩ | ⟨c, e0⟩
  · rw [c]; simp
  · rw [c]; simp
  · rw [hw 0 (by omega), hw 1 (by omega)]
    by_cases c14 : (nd ts j).op = 14
    · rw [c14] at hty ⊢; simpa using hty
    · rw [if_pos ⟨c1, by omega⟩] at hty ⊢; exact hty
  · rw [hw 0 (by omega), hw 1 (by omega), hw 2 (by omega)]; exact hty
  · have c3 : (nd ts j).op = 16 ∨ (nd ts j).op = 17 ∨ (nd ts j).op = 18 := by omega
    rw [hw 0 (by omega)]
    rcases c3 with c | c | c <;> rw [c] at hty ⊢ <;> simpa using hty
  · exact absurd e0 har
theorem shr_imm {ts : List Nd} (hd : Down ts) (hI : ∀ x ∈ ts, 0 ≤ x.imm ∧ x.imm ≤ 4294967295) {k : Nat} (hk : k < ts.length) : ∀ x ∈ shr ts k, 0 ≤ x.imm ∧ x.imm ≤ 4294967295 := by
  intro x hx
  obtain ⟨i, hi, rfl⟩ := List.getElem_of_mem hx
  obtain ⟨j, hj, _, _, he⟩ := shr_node hd hk hi
  rw [List.getD_eq_getElem?_getD, List.getElem?_eq_getElem hi] at he
  have he' : (shr ts k)[i] = mapN (vis ts k (st0 ts)) (nd ts j) := he
  rw [he']
  have := hI _ (mem_getD hj)
  exact this
/-- The told nodes are no more than those of the term. -/
theorem shr_len {ts : List Nd} (hd : Down ts) {k : Nat} (hk : k < ts.length) : (shr ts k).length ≤ ts.length := by
  obtain ⟨w, t⟩ := vis_inv hd hk (st0_inv ts)
  have hsub : (List.range (shr ts k).length) ⊆ ((List.range ts.length).map fun j => ((vis ts k (st0 ts)).no j).toNat) := by
    intro i hi
    obtain ⟨j, hj, _, hn, _⟩ := shr_node hd hk (List.mem_range.1 hi)
    exact List.mem_map.2 ⟨j, List.mem_range.2 hj, by rw [hn]; simp⟩
  have := (List.nodup_range (n := (shr ts k).length)).length_le_of_subset hsub
  simpa using this
theorem shr_valid {ts : List Nd} (h : valE ts = 0) (hI : ∀ x ∈ ts, 0 ≤ x.imm ∧ x.imm ≤ 4294967295) {k : Nat} (hk : k < ts.length) : valE (shr ts k) = 0 := by
  have hd := valid_down h
  obtain ⟨v1, v2, hS, hT, l, hl⟩ := valid_facts h
  have hlen := shr_len hd hk
  have hroot := shr_root hd hk
  refine valE_0 (by omega) (shr_okS h hk) (shr_okT h hk) (wmap_calm (fun x hx => (shr_imm hd hI hk x hx).1) (fun i hi => okS_at (shr_okS h hk) hi) ?_)
  intro k2 hk2 i2 hi2
  rw [Bool.eq_false_iff]
  intro hc
  obtain ⟨c1, c2, c3, c4⟩ := (clash_iff _ _).1 hc
  obtain ⟨j, hj, _, _, he⟩ := shr_node hd hk hk2
  obtain ⟨j2, hj2, _, _, he2⟩ := shr_node hd hk (show i2 < (shr ts k).length by omega)
  rw [he, he2] at c3 c4
  rw [he] at c2
  rw [he2] at c1
  have inv := (wmap_inv (fun x hx => (hI x hx).1) (fun i hi => okS_at hS hi) ts.length l (Nat.le_refl _) (by rw [List.take_length]; exact hl)).1
  have w1 := inv j hj c2
  have w2 := inv j2 hj2 c1
  apply c4
  show (ts.getD j2 default).width = (ts.getD j default).width
  rw [← w1, ← w2]
  have : (ts.getD j2 default).imm = (ts.getD j default).imm := c3
  rw [this]
end Go.Proofs.Ythopdfikikdcbaa
/- What holds of a tree: that it is as a valid term's tree must be; and the nodes told of such a tree. No program in sight. -/
namespace Go.Proofs.Ythopdfikikdcbaa
open Go.RowKit Wd
set_option linter.unusedVariables false
set_option linter.unusedSimpArgs false
def Tr.w : Tr → Int
  | .mk _ w _ _ _ => w
/-- What a node must be, but for which nodes its Args are. -/
def shp (op w f : Int) (n : Nat) (i : Int) : Bool :=
  (arV op != -1) && !decide (w < 1) && !decide (32 < w) && !(f != 0) && !((n : Int) != arV op) && immOk ⟨op, w, f, [], i⟩ && !((op == 14) && (w != 1))
theorem shaped_eq (k : Int) (x : Nd) : shaped k x = (shp x.op x.width x.flags x.args.length x.imm && !(x.args.any (bad k))) := rfl
def typ (op w : Int) (ws : List Int) : Bool :=
  if 1 ≤ op ∧ op ≤ 13 then (ws.getD 0 0 == w) && (ws.getD 1 0 == w)
  else if op = 14 then ws.getD 0 0 == ws.getD 1 0
  else if op = 15 then (ws.getD 0 0 == 1) && (ws.getD 1 0 == w) && (ws.getD 2 0 == w)
  else if op = 16 ∨ op = 17 then decide (ws.getD 0 0 < w)
  else if op = 18 then decide (w < ws.getD 0 0) else true
inductive Tr.Ok : Tr → Prop where
  | mk {op w f : Int} {l : List Tr} {i : Int} : shp op w f l.length i = true → typ op w (l.map Tr.w) = true → (∀ t ∈ l, t.Ok) → Tr.Ok (.mk op w f l i)
theorem tree_w {ts : List Nd} (hd : Down ts) {k : Nat} (hk : k < ts.length) : (tree ts k).w = (nd ts k).width := by rw [tree_eq hd hk]; rfl
theorem kids_w {ts : List Nd} (hd : Down ts) {k : Nat} (hk : k < ts.length) : ((nd ts k).args.map fun a => tree ts a.toNat).map Tr.w = (nd ts k).args.map fun a => (nd ts a.toNat).width := by
  rw [List.map_map]
  refine List.map_congr_left fun a ha => ?_
  have := hd k hk a ha
  exact tree_w hd (by omega)
theorem wdt_get {ts : List Nd} {l : List Int} {i : Nat} (h : i < l.length) : (l.map fun a => (nd ts a.toNat).width).getD i 0 = wdt ts l i := by
  unfold wdt nd
  rw [List.getD_eq_getElem?_getD, List.getElem?_map, List.getElem?_eq_getElem h, List.getD_eq_getElem?_getD, List.getD_eq_getElem?_getD, List.getElem?_eq_getElem h]
  rfl
theorem typ_eq {ts : List Nd} {x : Nd} (h : (x.args.length : Int) = arV x.op) : typ x.op x.width (x.args.map fun a => (nd ts a.toNat).width) = typed ts x := by
  unfold typ typed
  rcases arV_cases x.op with ⟨c | c, e0⟩ | ⟨⟨c1, c2⟩, e0⟩ | ⟨c, e0⟩ | ⟨⟨c1, c2⟩, e0⟩ | ⟨c, e0⟩
  · rw [c]; simp
  · rw [c]; simp
  · rw [wdt_get (show 0 < x.args.length by omega), wdt_get (show 1 < x.args.length by omega)]
    by_cases h13 : x.op ≤ 13
    · rw [if_pos (show 1 ≤ x.op ∧ x.op ≤ 13 from ⟨c1, h13⟩), if_pos (show 1 ≤ x.op ∧ x.op ≤ 13 from ⟨c1, h13⟩)]
    · have c14 : x.op = 14 := by omega
      rw [c14]; simp
  · rw [wdt_get (show 0 < x.args.length by omega), wdt_get (show 1 < x.args.length by omega), wdt_get (show 2 < x.args.length by omega)]
  · rw [wdt_get (show 0 < x.args.length by omega)]
    have c3 : x.op = 16 ∨ x.op = 17 ∨ x.op = 18 := by omega
    rcases c3 with c | c | c <;> rw [c] <;> simp
  · have : ¬ (1 ≤ x.op ∧ x.op ≤ 13) := by omega
    rw [if_neg this, if_neg this, if_neg (by omega), if_neg (by omega), if_neg (by omega), if_neg (by omega), if_neg (by omega), if_neg (by omega), if_neg (by omega), if_neg (by omega)]
/-- The trees of a valid term's nodes. -/
theorem tree_ok {ts : List Nd} (hd : Down ts) (hS : okS ts = true) (hT : okT ts = true) : ∀ k, k < ts.length → (tree ts k).Ok := by
  intro k
  induction k using Nat.strongRecOn with
  | _ k ih =>
    intro hk
    rw [tree_eq hd hk]
    have hs : shaped k (nd ts k) = true := okS_at hS hk
    have ht : typed ts (nd ts k) = true := okT_at hT hk
    have hf := shaped_facts hs
    rw [shaped_eq, Bool.and_eq_true] at hs
    refine .mk (by rw [List.length_map]; exact hs.1) ?_ ?_
    · rw [kids_w hd hk, typ_eq hf.1]; exact ht
    · intro t ht
      obtain ⟨a, ha, rfl⟩ := List.mem_map.1 ht
      have := hd k hk a ha
      exact ih a.toNat (by omega) (by omega)
def AllOk_ (o : List Nd) : Prop := ∀ k, k < o.length → (tree o k).Ok
theorem AllOk_.shaped {o : List Nd} (hd : Down o) (h : AllOk_ o) {k : Nat} (hk : k < o.length) : shaped k (nd o k) = true := by
  have h1 := h k hk
  rw [tree_eq hd hk] at h1
  cases h1 with
  | mk h2 h3 h4 =>
    rw [shaped_eq, Bool.and_eq_true]
    rw [List.length_map] at h2
    refine ⟨h2, ?_⟩
    rw [Bool.not_eq_true', List.any_eq_false]
    intro a ha
    have := hd k hk a ha
    simp [bad]; omega
theorem AllOk_.okS {o : List Nd} (hd : Down o) (h : AllOk_ o) : okS o = true := okS_good fun i hi => h.shaped hd hi
theorem AllOk_.okT {o : List Nd} (hd : Down o) (h : AllOk_ o) : okT o = true := okT_good fun i hi => by
  have h1 := h i hi
  have hs := (shaped_facts (h.shaped hd hi)).1
  rw [tree_eq hd hi] at h1
  cases h1 with
  | mk h2 h3 h4 =>
    rw [kids_w hd hi, typ_eq hs] at h3
    exact h3
theorem insT_allok (t : Tr) : ∀ o, Good o → t.Ok → AllOk_ o → AllOk_ (insT t o).1 := by
  induction t using Tr.ind with
  | _ op w f l i ih =>
    intro o ho ht ha
    cases ht with
    | mk h2 h3 h4 =>
      have key : ∀ (l : List Tr), (∀ t ∈ l, ∀ o, Good o → t.Ok → AllOk_ o → AllOk_ (insT t o).1) → (∀ t ∈ l, t.Ok) → ∀ o, Good o → AllOk_ o → AllOk_ (insL l o).1 := by
        intro l
        induction l with
        | nil => intro _ _ o _ ha; rw [insL_nil]; exact ha
        | cons t l ih2 =>
          intro h1 h2 o ho ha
          rw [insL_cons]
          exact ih2 (fun t ht => h1 t (List.mem_cons_of_mem _ ht)) (fun t ht => h2 t (List.mem_cons_of_mem _ ht)) _ (put1 t o ho).good (h1 t (List.mem_cons_self ..) o ho (h2 t (List.mem_cons_self ..)) ha)
      have hl := key l ih h4 o ho ha
      have hg := (putL l o ho).good
      have hp := put1 (.mk op w f l i) o ho
      intro k hk
      have hrng := (putL l o ho).rng
      rw [insT_mk] at hk ⊢
      have htr := hp.tr
      have hlt := hp.lt
      rw [insT_mk] at htr hlt
      by_cases hm : (⟨op, w, f, (insL l o).2, i⟩ : Nd) ∈ (insL l o).1
      · have e : (addN (insL l o).1 ⟨op, w, f, (insL l o).2, i⟩).1 = (insL l o).1 := by unfold addN; rw [if_pos hm]
        rw [e] at hk ⊢
        exact hl k hk
      · have e : addN (insL l o).1 ⟨op, w, f, (insL l o).2, i⟩ = ((insL l o).1 ++ [⟨op, w, f, (insL l o).2, i⟩], (insL l o).1.length) := by unfold addN; rw [if_neg hm]
        rw [e] at hk htr ⊢
        simp only [List.length_append, List.length_singleton] at hk htr
        by_cases hlt2 : k < (insL l o).1.length
        · rw [tree_pre hg.down _ hlt2]; exact hl k hlt2
        · obtain rfl : k = (insL l o).1.length := by omega
          show (tree ((insL l o).1 ++ [_]) (insL l o).1.length).Ok
          rw [htr]
          exact .mk h2 h3 h4
theorem AllOk_.nil : AllOk_ [] := fun k hk => by simp at hk
theorem shr_allok {t : Tr} (h : t.Ok) : AllOk_ (insT t []).1 := insT_allok t [] Good.nil h AllOk_.nil
mutual
/-- A tree of which each node is turned, the lowest ones first. -/
def mapT (G : Int → Int → Int → List Tr → Int → Tr) : Tr → Tr
  | .mk op w f l i => G op w f (mapL G l) i
def mapL (G : Int → Int → Int → List Tr → Int → Tr) : List Tr → List Tr
  | [] => []
  | t :: l => mapT G t :: mapL G l
end
theorem mapL_eq (G : Int → Int → Int → List Tr → Int → Tr) : ∀ l, mapL G l = l.map (mapT G)
  | [] => by rw [mapL]; rfl
  | t :: l => by rw [mapL, mapL_eq G l]; rfl
theorem mapT_mk (G : Int → Int → Int → List Tr → Int → Tr) (op w f : Int) (l : List Tr) (i : Int) : mapT G (.mk op w f l i) = G op w f (l.map (mapT G)) i := by rw [mapT, mapL_eq]
/-- All nodes of the tree. -/
inductive Tr.All (p : Int → Int → Int → Int → Prop) : Tr → Prop where
  | mk {op w f : Int} {l : List Tr} {i : Int} : p op w f i → (∀ t ∈ l, t.All p) → Tr.All p (.mk op w f l i)
theorem tree_all {p : Int → Int → Int → Int → Prop} {ts : List Nd} (hd : Down ts) (h : ∀ x ∈ ts, p x.op x.width x.flags x.imm) : ∀ k, k < ts.length → (tree ts k).All p := by
  intro k
  induction k using Nat.strongRecOn with
  | _ k ih =>
    intro hk
    rw [tree_eq hd hk]
    refine .mk (h _ (mem_getD hk)) fun t ht => ?_
    obtain ⟨a, ha, rfl⟩ := List.mem_map.1 ht
    have := hd k hk a ha
    exact ih a.toNat (by omega) (by omega)
theorem insT_all {p : Int → Int → Int → Int → Prop} (t : Tr) : ∀ o, t.All p → (∀ x ∈ o, p x.op x.width x.flags x.imm) → ∀ x ∈ (insT t o).1, p x.op x.width x.flags x.imm := by
  induction t using Tr.ind with
  | _ op w f l i ih =>
    intro o ht ha
    cases ht with
    | mk h1 h4 =>
      have key : ∀ (l : List Tr), (∀ t ∈ l, ∀ o, t.All p → (∀ x ∈ o, p x.op x.width x.flags x.imm) → ∀ x ∈ (insT t o).1, p x.op x.width x.flags x.imm) → (∀ t ∈ l, t.All p) → ∀ o, (∀ x ∈ o, p x.op x.width x.flags x.imm) → ∀ x ∈ (insL l o).1, p x.op x.width x.flags x.imm := by
        intro l
        induction l with
        | nil => intro _ _ o ha; rw [insL_nil]; exact ha
        | cons t l ih2 =>
          intro h1 h2 o ha
          rw [insL_cons]
          exact ih2 (fun t ht => h1 t (List.mem_cons_of_mem _ ht)) (fun t ht => h2 t (List.mem_cons_of_mem _ ht)) _ (h1 t (List.mem_cons_self ..) o (h2 t (List.mem_cons_self ..)) ha)
      have hl := key l ih h4 o ha
      rw [insT_mk]
      intro x hx
      unfold addN at hx
      split at hx
      · exact hl x hx
      · rcases List.mem_append.1 hx with hx | hx
        · exact hl x hx
        · simp only [List.mem_singleton] at hx; subst hx; exact h1
end Go.Proofs.Ythopdfikikdcbaa
/- Maps of the call's own, entry by entry: a look-up that hits, one that misses, a store under a new key; keys of any kind that may be a key. -/
namespace Go.Proofs.Ythopdfikikdcbaa
open Go.RowKit Go.Maps
set_option linter.unusedVariables false
set_option linter.unusedSimpArgs false
/-- The entries of a map: keys and what they hold, in the order in which they were stored. -/
def ents (l : List (Value × Value)) : Array MapEntry := (l.mapIdx fun i p => (⟨p.1, p.2, i⟩ : MapEntry)).toArray
theorem mem_ents {l : List (Value × Value)} {e : MapEntry} (h : e ∈ (ents l).toList) : (e.key, e.val) ∈ l := by
  unfold ents at h
  simp only [List.mem_mapIdx] at h
  obtain ⟨i, hi, rfl⟩ := h
  exact List.getElem_mem hi
theorem ents_push (l : List (Value × Value)) (k v : Value) : (ents l).push ⟨k, v, l.length⟩ = ents (l ++ [(k, v)]) := by
  unfold ents
  simp
/-- The map in block r holds l. -/
def MapIs (P : Program) (K : TypeId) (w : World) (r : Nat) (l : List (Value × Value)) : Prop :=
  r < w.heap.size ∧ mapAt w r = some (ents l, l.length) ∧ (∀ p ∈ l, ∃ q, keyOf P K p.1 = some q) ∧ (l.map (·.1)).Nodup
section
variable {P : Program} {t K E : TypeId} {w : World} {r : Nat} {l : List (Value × Value)}
theorem lookup_hit (law : Keyed P K) (ht : P.underlying t = some (.map K E)) (h : MapIs P K w r l) {k v : Value} {q : Lit} (hk : keyOf P K k = some q) (hm : (k, v) ∈ l) :
    (Instr.lookup t (.map (some r)) k true).run P w = .ok (.tuple #[v, .bool true]) w := by
  obtain ⟨_, h1, h2, h3⟩ := h
  have hb := mapAt_some h1
  have hfind := law.find w hk (ents l).toList (fun e he => h2 _ (mem_ents he))
  have hval : ∀ e ∈ (ents l).toList, e.key = k → e.val = v := by
    intro e he hek
    have hm2 := mem_ents he
    rw [hek] at hm2
    obtain ⟨i, hi, e1⟩ := List.getElem_of_mem hm
    obtain ⟨j, hj, e2⟩ := List.getElem_of_mem hm2
    have hij : i = j := by
      have hp := List.pairwise_iff_getElem.1 h3
      rcases Nat.lt_trichotomy i j with h | h | h
      · exact absurd (show (l.map (·.1))[i]'(by simpa using hi) = (l.map (·.1))[j]'(by simpa using hj) from by simp [e1, e2]) (hp i j (by simpa using hi) (by simpa using hj) h)
      · exact h
      · exact absurd (show (l.map (·.1))[j]'(by simpa using hj) = (l.map (·.1))[i]'(by simpa using hi) from by simp [e1, e2]) (hp j i (by simpa using hj) (by simpa using hi) h)
    subst hij
    rw [e1] at e2
    cases e2; rfl
  rcases hfind with ⟨_, hno⟩ | ⟨j, e, hrun, hj, hek⟩
  · exfalso
    obtain ⟨i, hi, e1⟩ := List.getElem_of_mem hm
    refine hno ⟨k, v, i⟩ ?_ rfl
    unfold ents
    simp only [List.mem_mapIdx]
    exact ⟨i, hi, by rw [e1]⟩
  · have hv := hval e (List.mem_of_getElem? hj) hek
    simp [Instr.lookup, run_underlying ht, MapKept.run_getObj_map hb, law.check w _ hk, hrun, hv, Result.andThen]
theorem lookup_miss (law : Keyed P K) (ht : P.underlying t = some (.map K E)) {z : Value} (hz : ∀ w, (zeroValue E).run P w = .ok z w) (h : MapIs P K w r l) {k : Value} {q : Lit} (hk : keyOf P K k = some q) (hm : ∀ p ∈ l, p.1 ≠ k) :
    (Instr.lookup t (.map (some r)) k true).run P w = .ok (.tuple #[z, .bool false]) w := by
  obtain ⟨_, h1, h2, h3⟩ := h
  have hb := mapAt_some h1
  rcases law.find w hk (ents l).toList (fun e he => h2 _ (mem_ents he)) with ⟨hrun, _⟩ | ⟨j, e, hrun, hj, hek⟩
  · simp [Instr.lookup, run_underlying ht, MapKept.run_getObj_map hb, law.check w _ hk, hrun, hz, Result.andThen]
  · exact absurd hek (hm _ (mem_ents (List.mem_of_getElem? hj)))
theorem lookup_nil (law : Keyed P K) (ht : P.underlying t = some (.map K E)) {z : Value} (hz : ∀ w, (zeroValue E).run P w = .ok z w) {k : Value} {q : Lit} (hk : keyOf P K k = some q) :
    (Instr.lookup t (.map none) k true).run P w = .ok (.tuple #[z, .bool false]) w := by
  rcases law.find w hk [] (fun e he => by cases he) with ⟨hrun, _⟩ | ⟨j, e, _, hj, _⟩
  · simp [Instr.lookup, run_underlying ht, law.check w _ hk, hz, hrun, Result.andThen]
  · cases hj
theorem update_new (law : Keyed P K) (ht : P.underlying t = some (.map K E)) (h : MapIs P K w r l) {k v : Value} {q : Lit} (hk : keyOf P K k = some q) (hm : ∀ p ∈ l, p.1 ≠ k) :
    (Instr.mapUpdate t (.map (some r)) k v).run P w = .ok () (setMap w r (ents (l ++ [(k, v)])) (l.length + 1)) := by
  obtain ⟨_, h1, h2, h3⟩ := h
  have hb := mapAt_some h1
  rcases law.find w hk (ents l).toList (fun e he => h2 _ (mem_ents he)) with ⟨hrun, _⟩ | ⟨j, e, hrun, hj, hek⟩
  · simp [Instr.mapUpdate, run_underlying ht, MapKept.run_getObj_map hb, law.check w _ hk, hrun, MapKept.run_setObj_map _ hb, Result.andThen, setMap, ents_push]
  · exact absurd hek (hm _ (mem_ents (List.mem_of_getElem? hj)))
theorem mapAt_setMap {es es' : Array MapEntry} {c c' : Nat} (h : mapAt w r = some (es, c)) : mapAt (setMap w r es' c') r = some (es', c') := by
  have hb := mapAt_some h
  have hlt : r < w.heap.size := by
    rcases Nat.lt_or_ge r w.heap.size with h | h
    · exact h
    · rw [Array.getElem?_eq_none h] at hb; cases hb
  unfold mapAt setMap
  simp [Array.getElem?_setIfInBounds, hlt]
theorem MapIs.new (h : MapIs P K w r l) {k v : Value} {q : Lit} (hk : keyOf P K k = some q) (hm : ∀ p ∈ l, p.1 ≠ k) : MapIs P K (setMap w r (ents (l ++ [(k, v)])) (l.length + 1)) r (l ++ [(k, v)]) := by
  obtain ⟨h0, h1, h2, h3⟩ := h
  refine ⟨by rw [size_setMap]; exact h0, by rw [mapAt_setMap h1]; simp, ?_, ?_⟩
  · intro p hp
    rcases List.mem_append.1 hp with hp | hp
    · exact h2 p hp
    · simp at hp; subst hp; exact ⟨q, hk⟩
  · rw [List.map_append, List.nodup_append]
    refine ⟨h3, by simp, ?_⟩
    intro a ha b hb
    simp at hb
    subst hb
    obtain ⟨p, hp, rfl⟩ := List.mem_map.1 ha
    exact hm p hp
theorem MapIs.below {w' : World} (h : MapIs P K w r l) (hb : Below w.heap.size w w') : MapIs P K w' r l := by
  obtain ⟨h0, h1, h2, h3⟩ := h
  refine ⟨Nat.lt_of_lt_of_le h0 hb.size, ?_, h2, h3⟩
  rw [← h1]; unfold mapAt; rw [hb.block r h0]
theorem MapIs.made {w : World} : MapIs P K (w.alloc (.map #[] 0)) w.heap.size [] :=
  ⟨by simp, by rw [mapAt_alloc_at _ _ _ _ rfl]; rfl, (fun p hp => by cases hp), by simp⟩
theorem below_setMap {B : Nat} {w w' : World} (h : Below B w w') {r : Nat} (hr : B ≤ r) (es : Array MapEntry) (c : Nat) : Below B w (setMap w' r es c) := by
  refine h.trans ⟨rfl, rfl, rfl, by simp [setMap], fun k hk => ?_⟩
  show (w'.heap.setIfInBounds r _)[k]? = _
  rw [Array.getElem?_setIfInBounds, if_neg (by omega)]
theorem cell_setMap {w : World} {r b o : Nat} {es : Array MapEntry} {c : Nat} (h : b ≠ r) : (setMap w r es c).cell? ⟨b, o, none⟩ = w.cell? ⟨b, o, none⟩ := by
  unfold World.cell? setMap
  simp only [Array.getElem?_setIfInBounds]
  rw [if_neg (fun e => h e.symm)]
theorem free_setMap {w : World} {r b o : Nat} {es : Array MapEntry} {c : Nat} (h : b ≠ r) : (setMap w r es c).frozen? ⟨b, o, none⟩ = w.frozen? ⟨b, o, none⟩ := by
  unfold World.frozen? setMap
  simp only [Array.getElem?_setIfInBounds]
  rw [if_neg (fun e => h e.symm)]
end
end Go.Proofs.Ythopdfikikdcbaa
/- Memory in which only some blocks change: what a call may have written, and what stays. -/
namespace Go.Proofs.Ythopdfikikdcbaa
open Go.RowKit Go.Maps
set_option linter.unusedVariables false
set_option linter.unusedSimpArgs false
/-- From w to w' nothing that was there has changed but blocks of T. -/
structure Chg (T : Nat → Prop) (w w' : World) : Prop where
  os : w'.os = w.os
  tape : w'.tape = w.tape
  output : w'.output = w.output
  size : w.heap.size ≤ w'.heap.size
  block : ∀ k, k < w.heap.size → ¬ T k → w'.heap[k]? = w.heap[k]?
/-- The blocks of T are in w' what they were in w. -/
def Same (T : Nat → Prop) (w w' : World) : Prop := w.heap.size ≤ w'.heap.size ∧ ∀ k, T k → w'.heap[k]? = w.heap[k]?
theorem Chg.refl (T : Nat → Prop) (w : World) : Chg T w w := ⟨rfl, rfl, rfl, Nat.le_refl _, fun _ _ _ => rfl⟩
theorem Chg.trans {T T1 : Nat → Prop} {w w1 w2 : World} (h : Chg T w w1) (h' : Chg T1 w1 w2) (hT : ∀ k, k < w.heap.size → T1 k → T k) : Chg T w w2 :=
  ⟨h'.os.trans h.os, h'.tape.trans h.tape, h'.output.trans h.output, Nat.le_trans h.size h'.size, fun k hk hn =>
    (h'.block k (Nat.lt_of_lt_of_le hk h.size) (fun e => hn (hT k hk e))).trans (h.block k hk hn)⟩
theorem Chg.mono {T T1 : Nat → Prop} {w w' : World} (h : Chg T1 w w') (hT : ∀ k, k < w.heap.size → T1 k → T k) : Chg T w w' :=
  ⟨h.os, h.tape, h.output, h.size, fun k hk hn => h.block k hk (fun e => hn (hT k hk e))⟩
theorem Chg.of_below {T : Nat → Prop} {w w' : World} (h : Below w.heap.size w w') : Chg T w w' :=
  ⟨h.os, h.tape, h.output, h.size, fun k hk _ => h.block k hk⟩
theorem Chg.of_grown {T : Nat → Prop} {w w' : World} {row : Option Nat} (h : w.grownBy w' row) (hT : ∀ k, row = some k → T k) : Chg T w w' :=
  ⟨h.os, h.tape, h.output, h.size, fun k hk hn => h.block k hk (fun e => hn (hT k e.symm))⟩
theorem Chg.below {T : Nat → Prop} {B : Nat} {w w' : World} (h : Chg T w w') (hB : B ≤ w.heap.size) (hT : ∀ k, T k → B ≤ k) : Below B w w' :=
  ⟨h.os, h.tape, h.output, h.size, fun k hk => h.block k (by omega) (fun e => by have := hT k e; omega)⟩
theorem Chg.setCell {T : Nat → Prop} {w w' : World} (h : Chg T w w') {b o : Nat} (hb : T b) (v : Value) : Chg T w (w'.setCell ⟨b, o, none⟩ v) :=
  ⟨h.os, h.tape, h.output, Nat.le_trans h.size (by simp [World.setCell]), fun k hk hn =>
    (Below.heap_setCell w' ⟨b, o, none⟩ v k (fun e => hn (e ▸ hb))).trans (h.block k hk hn)⟩
theorem Chg.setMap {T : Nat → Prop} {w w' : World} (h : Chg T w w') {b : Nat} (hb : T b) (es : Array MapEntry) (c : Nat) : Chg T w (setMap w' b es c) :=
  ⟨h.os, h.tape, h.output, Nat.le_trans h.size (by simp [Go.Proofs.Ythopdfikikdcbaa.setMap]), fun k hk hn => by
    refine Eq.trans ?_ (h.block k hk hn)
    show (w'.heap.setIfInBounds b _)[k]? = _
    rw [Array.getElem?_setIfInBounds, if_neg (fun e => hn (by rw [← e]; exact hb))]⟩
theorem Chg.alloc {T : Nat → Prop} {w w' : World} (h : Chg T w w') (o : Obj) : Chg T w (w'.alloc o) :=
  ⟨h.os, h.tape, h.output, Nat.le_trans h.size (by simp), fun k hk hn => (Below.heap_alloc w' o k (Nat.lt_of_lt_of_le hk h.size)).trans (h.block k hk hn)⟩
theorem Chg.drewN {T : Nat → Prop} {w w' : World} (h : Chg T w w') (n : Nat) : Chg T w (w'.drewN n) := ⟨h.os, h.tape, h.output, h.size, h.block⟩
theorem Chg.drew {T : Nat → Prop} {w w' : World} (h : Chg T w w') : Chg T w w'.drew := ⟨h.os, h.tape, h.output, h.size, h.block⟩
theorem Chg.cell {T : Nat → Prop} {w w' : World} (h : Chg T w w') {b o : Nat} {v : Value} (hb : ¬ T b) (hc : w.cell? ⟨b, o, none⟩ = some v) : w'.cell? ⟨b, o, none⟩ = some v := by
  rw [← hc]; exact World.cell?_of_block (w := w) (h.block b (cell_lt hc) hb)
theorem Chg.frozen {T : Nat → Prop} {w w' : World} (h : Chg T w w') {b o : Nat} (hb : ¬ T b) (hl : b < w.heap.size) : w'.frozen? ⟨b, o, none⟩ = w.frozen? ⟨b, o, none⟩ :=
  World.frozen?_of_block (w := w) (h.block b hl hb)
theorem Chg.same {T U : Nat → Prop} {w w' : World} (h : Chg U w w') (hT : ∀ k, T k → k < w.heap.size ∧ ¬ U k) : Same T w w' :=
  ⟨h.size, fun k hk => h.block k (hT k hk).1 (hT k hk).2⟩
theorem Same.mono {T T1 : Nat → Prop} {w w' : World} (h : Same T w w') (hT : ∀ k, T1 k → T k) : Same T1 w w' := ⟨h.1, fun k hk => h.2 k (hT k hk)⟩
theorem Same.cell {T : Nat → Prop} {w w' : World} (h : Same T w w') {b o : Nat} {v : Value} (hb : T b) (hc : w.cell? ⟨b, o, none⟩ = some v) : w'.cell? ⟨b, o, none⟩ = some v := by
  rw [← hc]; exact World.cell?_of_block (w := w) (h.2 b hb)
theorem Same.frozen {T : Nat → Prop} {w w' : World} (h : Same T w w') {b o : Nat} (hb : T b) : w'.frozen? ⟨b, o, none⟩ = w.frozen? ⟨b, o, none⟩ :=
  World.frozen?_of_block (w := w) (h.2 b hb)
theorem Same.mapAt {T : Nat → Prop} {w w' : World} (h : Same T w w') {b : Nat} (hb : T b) : mapAt w' b = mapAt w b := by
  unfold Go.Proofs.Ythopdfikikdcbaa.mapAt; rw [h.2 b hb]
theorem MapIs.same {P : Program} {K : TypeId} {T : Nat → Prop} {w w' : World} {r : Nat} {l : List (Value × Value)} (h : MapIs P K w r l) (hs : Same T w w') (hr : T r) : MapIs P K w' r l := by
  obtain ⟨h0, h1, h2, h3⟩ := h
  exact ⟨Nat.lt_of_lt_of_le h0 hs.1, by rw [hs.mapAt hr]; exact h1, h2, h3⟩
/-- The slice v holds xs, and may be written. -/
structure IntsF (w : World) (v : Value) (xs : List Int) : Prop where
  ints : Ints .i64 w v xs
  free : ∀ b q n c, v = .slice (some ⟨b, q, none⟩) n c → ∀ i, i < xs.length → w.frozen? ⟨b, q + i, none⟩ = false
/-- The same, and it lies in T. -/
def IntsT (T : Nat → Prop) (w : World) (v : Value) (xs : List Int) : Prop := IntsF w v xs ∧ ∀ b, v.ownBlock = some b → T b
theorem IntsT.same {T : Nat → Prop} {w w' : World} {v : Value} {xs : List Int} (h : IntsT T w v xs) (hs : Same T w w') : IntsT T w' v xs := by
  obtain ⟨⟨⟨a, c, rfl, h1, h2, h3, h4⟩, hf⟩, hT⟩ := h
  refine ⟨⟨⟨a, c, rfl, h1, h2, h3, fun i hi => ?_⟩, fun b q n c e i hi => ?_⟩, hT⟩
  · obtain ⟨b, o, rfl, h5, h6⟩ := h4 i hi
    exact ⟨b, o, rfl, Nat.lt_of_lt_of_le h5 hs.1, hs.cell (hT b rfl) h6⟩
  · rw [hs.frozen (hT b (by rw [e]; rfl))]
    exact hf b q n c e i hi
theorem IntsT.mono {T T' : Nat → Prop} {w : World} {v : Value} {xs : List Int} (h : IntsT T w v xs) (hT : ∀ k, T k → T' k) : IntsT T' w v xs := ⟨h.1, fun b hb => hT b (h.2 b hb)⟩
theorem RowI.intsF {w : World} {base : Nat} {e : TypeId} {v : Value} {xs : List Int} (h : RowI w base e .i64 v xs) (hl : xs.length ≤ 140737488351232) : IntsF w v xs := by
  refine ⟨h.ints hl, fun b q n c ev i hi => ?_⟩
  obtain ⟨_, ⟨rfl, h0⟩ | ⟨g, cap, cur, rfl, hb, hg, h1, h2, h3, h4⟩⟩ := h
  · cases ev
  · cases ev
    simp [World.frozen?, hg]
theorem IntsF.nil (w : World) : IntsF w (.slice none 0 0) [] := ⟨(RowI.nil w 0 0 .i64).ints (by simp), fun b q n c e => by cases e⟩
theorem Ints.chg {k : IntKind} {T : Nat → Prop} {w w' : World} {v : Value} {xs : List Int} (h : Ints k w v xs) (hc : Chg T w w') (hT : ∀ b, v.ownBlock = some b → ¬ T b) : Ints k w' v xs := by
  obtain ⟨a, c, rfl, h1, h2, h3, h4⟩ := h
  refine ⟨a, c, rfl, h1, h2, h3, fun i hi => ?_⟩
  obtain ⟨b, o, rfl, h5, h6⟩ := h4 i hi
  exact ⟨b, o, rfl, Nat.lt_of_lt_of_le h5 hc.size, hc.cell (hT b rfl) h6⟩
theorem own_same {T : Nat → Prop} {w w' : World} {base : Nat} {e : TypeId} {size : Nat} {v : Value} {n : Nat} {xs : List Value} (h : w.ownsRow base e size v n xs) (hs : Same T w w') (hT : ∀ b, v.ownBlock = some b → T b) : w'.ownsRow base e size v n xs := by
  obtain ⟨h0, h1 | ⟨g, cap, cur, rfl, hb', hg, h2⟩⟩ := h
  · exact ⟨h0, .inl h1⟩
  · exact ⟨h0, .inr ⟨g, cap, cur, rfl, hb', by rw [hs.2 g (hT g rfl)]; exact hg, h2⟩⟩
theorem own_lt {w : World} {base : Nat} {e : TypeId} {size : Nat} {v : Value} {n : Nat} {xs : List Value} (h : w.ownsRow base e size v n xs) : ∀ b, v.ownBlock = some b → b < w.heap.size := fun b hb => (h.lt b hb).2
end Go.Proofs.Ythopdfikikdcbaa
/- The walk down a term with any step: what it makes of a state and of the numbers told; plain. -/
namespace Go.Proofs.Ythopdfikikdcbaa
set_option linter.unusedVariables false
set_option linter.unusedSimpArgs false
section
variable {σ : Type}
def gno (l : List Int) (k : Nat) : Int := l.getD k (-1)
/-- The Args, one after another: the state behind them and their numbers. -/
def gargs (g : Nat → σ × List Int → σ × List Int) : List Int → σ × List Int → (σ × List Int) × List Int
  | [], c => (c, [])
  | a :: l, c => ((gargs g l (g a.toNat c)).1, gno (g a.toNat c).2 a.toNat :: (gargs g l (g a.toNat c)).2)
/-- The node k with other Args. -/
def gn (ts : List Nd) (k : Nat) (l : List Int) : Nd := ⟨(nd ts k).op, (nd ts k).width, (nd ts k).flags, l, (nd ts k).imm⟩
def gput (step : σ → Nd → σ × Int) (ts : List Nd) (k : Nat) (r : (σ × List Int) × List Int) : σ × List Int :=
  ((step r.1.1 (gn ts k r.2)).1, r.1.2.set k (step r.1.1 (gn ts k r.2)).2)
def gvis (step : σ → Nd → σ × Int) (ts : List Nd) : Nat → Nat → σ × List Int → σ × List Int
  | 0, _, c => c
  | f + 1, k, c => if 0 ≤ gno c.2 k then c else gput step ts k (gargs (gvis step ts f) (nd ts k).args c)
theorem gargs_snoc (g : Nat → σ × List Int → σ × List Int) (a : Int) : ∀ (l : List Int) (c : σ × List Int),
    gargs g (l ++ [a]) c = (g a.toNat (gargs g l c).1, (gargs g l c).2 ++ [gno (g a.toNat (gargs g l c).1).2 a.toNat])
  | [], c => rfl
  | b :: l, c => by
    show ((gargs g (l ++ [a]) (g b.toNat c)).1, gno (g b.toNat c).2 b.toNat :: (gargs g (l ++ [a]) (g b.toNat c)).2) = _
    rw [gargs_snoc g a l]; rfl
theorem gargs_take (g : Nat → σ × List Int → σ × List Int) (l : List Int) (c : σ × List Int) (j : Nat) (h : j < l.length) :
    gargs g (l.take (j + 1)) c = (g (l.getD j 0).toNat (gargs g (l.take j) c).1, (gargs g (l.take j) c).2 ++ [gno (g (l.getD j 0).toNat (gargs g (l.take j) c).1).2 (l.getD j 0).toNat]) := by
  have e : l.take (j + 1) = l.take j ++ [l.getD j 0] := by
    rw [List.take_succ_eq_append_getElem h, List.getD_eq_getElem?_getD, List.getElem?_eq_getElem h]; rfl
  rw [e, gargs_snoc]
theorem gargs_len (g : Nat → σ × List Int → σ × List Int) : ∀ (l : List Int) (c : σ × List Int), (gargs g l c).2.length = l.length
  | [], c => rfl
  | a :: l, c => by
    show (gno (g a.toNat c).2 a.toNat :: (gargs g l (g a.toNat c)).2).length = _
    rw [List.length_cons, gargs_len g l, List.length_cons]
theorem gno_set_self {l : List Int} {k : Nat} {x : Int} (h : k < l.length) : gno (l.set k x) k = x := by
  unfold gno; rw [List.getD_eq_getElem?_getD, List.getElem?_set_self h]; rfl
theorem gno_set_ne {l : List Int} {k j : Nat} {x : Int} (h : k ≠ j) : gno (l.set k x) j = gno l j := by
  unfold gno; rw [List.getD_eq_getElem?_getD, List.getD_eq_getElem?_getD, List.getElem?_set_ne h]
/-- The node k as it is handed to the step. -/
def gnd (ts : List Nd) (k : Nat) (nos : List Int) : Nd := gn ts k ((nd ts k).args.map fun a => gno nos a.toNat)
/-- What holds of the state and the numbers is kept by the step. -/
structure GJ (step : σ → Nd → σ × Int) (ts : List Nd) (J : σ → List Int → Prop) : Prop where
  len : ∀ {s : σ} {nos : List Int}, J s nos → nos.length = ts.length
  step : ∀ {s : σ} {nos : List Int} {k : Nat}, J s nos → k < ts.length → gno nos k < 0 → (∀ a ∈ (nd ts k).args, 0 ≤ gno nos a.toNat) →
    J (step s (gnd ts k nos)).1 (nos.set k (step s (gnd ts k nos)).2) ∧ 0 ≤ (step s (gnd ts k nos)).2
structure GW (J : σ → List Int → Prop) (m : Nat) (c c' : σ × List Int) : Prop where
  j : J c'.1 c'.2
  keep : ∀ i, 0 ≤ gno c.2 i → gno c'.2 i = gno c.2 i
  up : ∀ i, m ≤ i → gno c'.2 i = gno c.2 i
variable {step : σ → Nd → σ × Int} {ts : List Nd} {J : σ → List Int → Prop}
theorem GW.refl {m : Nat} {c : σ × List Int} (h : J c.1 c.2) : GW J m c c := ⟨h, fun _ _ => rfl, fun _ _ => rfl⟩
theorem GW.trans {m : Nat} {a b c : σ × List Int} (h : GW J m a b) (h' : GW J m b c) : GW J m a c :=
  ⟨h'.j, fun i hi => by rw [h'.keep i (by rw [h.keep i hi]; exact hi), h.keep i hi], fun i hi => by rw [h'.up i hi, h.up i hi]⟩
theorem GW.mono {m n : Nat} {a b : σ × List Int} (h : GW J m a b) (hm : m ≤ n) : GW J n a b := ⟨h.j, h.keep, fun i hi => h.up i (by omega)⟩
theorem gargs_ok {g : Nat → σ × List Int → σ × List Int} {m : Nat} (hg : ∀ a c, a < m → J c.1 c.2 → GW J (a + 1) c (g a c) ∧ 0 ≤ gno (g a c).2 a) :
    ∀ (l : List Int) (c : σ × List Int), (∀ a ∈ l, 0 ≤ a ∧ a < (m : Int)) → J c.1 c.2 →
    GW J m c (gargs g l c).1 ∧ (gargs g l c).2 = (l.map fun a => gno (gargs g l c).1.2 a.toNat) ∧ ∀ a ∈ l, 0 ≤ gno (gargs g l c).1.2 a.toNat
  | [], c, _, hj => ⟨GW.refl hj, rfl, fun a h => by cases h⟩
  | a :: l, c, hr, hj => by
    have ha := hr a (List.mem_cons_self ..)
    obtain ⟨w1, t1⟩ := hg a.toNat c (by omega) hj
    obtain ⟨w2, e2, t2⟩ := gargs_ok hg l (g a.toNat c) (fun b hb => hr b (List.mem_cons_of_mem _ hb)) w1.j
    have e3 : gno (gargs g l (g a.toNat c)).1.2 a.toNat = gno (g a.toNat c).2 a.toNat := w2.keep _ t1
    refine ⟨(w1.mono (by omega)).trans w2, ?_, ?_⟩
    · show gno (g a.toNat c).2 a.toNat :: (gargs g l (g a.toNat c)).2 = gno (gargs g l (g a.toNat c)).1.2 a.toNat :: (l.map fun a_1 => gno (gargs g l (g a.toNat c)).1.2 a_1.toNat)
      rw [← e2, e3]
    · intro b hb
      show 0 ≤ gno (gargs g l (g a.toNat c)).1.2 b.toNat
      rcases List.mem_cons.1 hb with rfl | hb
      · rw [e3]; exact t1
      · exact t2 b hb
theorem gput_eq {k : Nat} {c : σ × List Int} {r : (σ × List Int) × List Int} (h : r.2 = (nd ts k).args.map fun a => gno r.1.2 a.toNat) :
    gput step ts k r = ((step r.1.1 (gnd ts k r.1.2)).1, r.1.2.set k (step r.1.1 (gnd ts k r.1.2)).2) := by
  unfold gput gnd; rw [← h]
theorem gvis_ok (hd : Down ts) (hJ : GJ step ts J) : ∀ (f k : Nat) (c : σ × List Int), k < f → k < ts.length → J c.1 c.2 →
    GW J (k + 1) c (gvis step ts f k c) ∧ 0 ≤ gno (gvis step ts f k c).2 k
  | 0, k, c, h, _, _ => absurd h (by omega)
  | f + 1, k, c, hf, hk, hj => by
    unfold gvis
    by_cases ht : 0 ≤ gno c.2 k
    · rw [if_pos ht]; exact ⟨GW.refl hj, ht⟩
    · rw [if_neg ht]
      obtain ⟨w1, e1, t1⟩ := gargs_ok (g := gvis step ts f) (m := k) (fun a c ha hc => gvis_ok hd hJ f a c (by omega) (by omega) hc) (nd ts k).args c (hd k hk) hj
      generalize hr : gargs (gvis step ts f) (nd ts k).args c = r at *
      have hu : gno r.1.2 k < 0 := by rw [w1.up k (Nat.le_refl _)]; omega
      obtain ⟨j2, n2⟩ := hJ.step w1.j hk hu t1
      have hl : k < r.1.2.length := by rw [hJ.len w1.j]; exact hk
      rw [gput_eq (c := c) e1]
      refine ⟨⟨j2, fun i hi => ?_, fun i hi => ?_⟩, ?_⟩
      · show gno (r.1.2.set k _) i = _
        rw [gno_set_ne (by intro h; subst h; exact ht hi), w1.keep i hi]
      · show gno (r.1.2.set k _) i = _
        rw [gno_set_ne (by omega), w1.up i (by omega)]
      · show 0 ≤ gno (r.1.2.set k _) k
        rw [gno_set_self hl]; exact n2
/-- What the walk finds at a node: the Args told, the step's node. -/
theorem gvis_args (hd : Down ts) (hJ : GJ step ts J) {f k : Nat} {c : σ × List Int} (hf : k ≤ f) (hk : k < ts.length) (hj : J c.1 c.2) (l : List Int) (hl : ∀ a ∈ l, 0 ≤ a ∧ a < (k : Int)) :
    GW J k c (gargs (gvis step ts f) l c).1 ∧ (gargs (gvis step ts f) l c).2 = (l.map fun a => gno (gargs (gvis step ts f) l c).1.2 a.toNat) ∧ ∀ a ∈ l, 0 ≤ gno (gargs (gvis step ts f) l c).1.2 a.toNat :=
  gargs_ok (g := gvis step ts f) (m := k) (fun a c ha hc => gvis_ok hd hJ f a c (by omega) (by omega) hc) l c hl hj
end
/-- The builder's own step. -/
def stepA (o : List Nd) (y : Nd) : List Nd × Int := ((addN o y).1, ((addN o y).2 : Int))
theorem gjA {ts : List Nd} (hd : Down ts) : GJ stepA ts (fun o nos => Inv ts ⟨o, nos⟩) :=
  ⟨fun h => h.len, fun {s nos k} h hk hu ha => by
    have := tell_inv (s := ⟨s, nos⟩) hd h hk (by show ¬ 0 ≤ gno nos k; omega) ha
    exact ⟨this.1, by show (0 : Int) ≤ ((addN _ _).2 : Int); omega⟩⟩
theorem gvis_A {ts : List Nd} (hd : Down ts) : ∀ (f k : Nat) (s : St), k < f → k < ts.length → Inv ts s → gvis stepA ts f k (s.out, s.nos) = ((visit ts f k s).out, (visit ts f k s).nos)
  | 0, k, s, h, _, _ => absurd h (by omega)
  | f + 1, k, s, hf, hk, hi => by
    unfold gvis visit
    by_cases ht : s.told k
    · rw [if_pos ht, if_pos (show 0 ≤ gno s.nos k from ht)]
    · rw [if_neg ht, if_neg (show ¬ 0 ≤ gno s.nos k from ht)]
      have key : ∀ (l : List Int) (s : St), (∀ a ∈ l, 0 ≤ a ∧ a < (k : Int)) → Inv ts s →
          (gargs (gvis stepA ts f) l (s.out, s.nos)).1 = ((l.foldl (fun s a => visit ts f a.toNat s) s).out, (l.foldl (fun s a => visit ts f a.toNat s) s).nos) := by
        intro l
        induction l with
        | nil => intro s _ _; rfl
        | cons a l ih =>
          intro s hr hi
          have ha := hr a (List.mem_cons_self ..)
          show (gargs (gvis stepA ts f) l (gvis stepA ts f a.toNat (s.out, s.nos))).1 = _
          rw [gvis_A hd f a.toNat s (by omega) (by omega) hi, List.foldl_cons]
          exact ih _ (fun b hb => hr b (List.mem_cons_of_mem _ hb)) (visit_inv hd f a.toNat s (by omega) (by omega) hi).1.inv
      obtain ⟨w1, e1, t1⟩ := gvis_args (f := f) hd (gjA hd) (by omega) hk (c := (s.out, s.nos)) hi (nd ts k).args (hd k hk)
      rw [gput_eq (c := (s.out, s.nos)) e1, key _ s (hd k hk) hi]
      rfl
/-- The nodes that lead to k, as the builder tells them. -/
theorem gvis_shr {ts : List Nd} (hd : Down ts) {k : Nat} (hk : k < ts.length) : (gvis stepA ts (k + 1) k ([], List.replicate ts.length (-1))).1 = shr ts k := by
  have h := gvis_A hd (k + 1) k (st0 ts) (by omega) hk (st0_inv ts)
  exact congrArg Prod.fst h
end Go.Proofs.Ythopdfikikdcbaa
/- The map of the numbers told, as a list of numbers. -/
namespace Go.Proofs.Ythopdfikikdcbaa
open Go.RowKit Go.Maps
set_option linter.unusedVariables false
set_option linter.unusedSimpArgs false
def pairV (p : Int × Int) : Value × Value := (.int .i64 p.1, .int .i64 p.2)
def seenL (nos : List Int) (l : List (Int × Int)) : Prop := ∀ a b, (a, b) ∈ l ↔ (0 ≤ a ∧ a.toNat < nos.length ∧ gno nos a.toNat = b ∧ 0 ≤ b)
def Sml (a : Int) : Prop := -9223372036854775808 ≤ a ∧ a ≤ 9223372036854775807
/-- The map in block r holds the numbers told. -/
def SeenIs (w : World) (r : Nat) (nos : List Int) : Prop := nos.length ≤ 1000000 ∧ ∃ l : List (Int × Int), MapIs Try.prog 3 w r (l.map pairV) ∧ seenL nos l
theorem lawInt : Keyed Try.prog 3 := int_keyed Try.underlying3
theorem keyInt {a : Int} (h : Sml a) : keyOf Try.prog 3 (.int .i64 a) = some (.int .i64 a) :=
  keyOf_int_mk Try.underlying3 (WalkArith.wf_i64 h)
theorem seenL_miss {nos : List Int} {l : List (Int × Int)} (h : seenL nos l) {k : Nat} (hk : gno nos k < 0) : ∀ p ∈ l.map pairV, p.1 ≠ .int .i64 (k : Int) := by
  intro p hp e
  obtain ⟨⟨a, b⟩, hm, rfl⟩ := List.mem_map.1 hp
  have h2 := (h a b).1 hm
  have e2 : a = (k : Int) := by simpa [pairV] using e
  subst e2
  rw [Int.toNat_natCast] at h2
  omega
theorem SeenIs.hit {w : World} {r : Nat} {nos : List Int} (h : SeenIs w r nos) {k : Nat} (hk : k < nos.length) (h0 : 0 ≤ gno nos k) :
    (Instr.lookup 108 (.map (some r)) (.int .i64 (k : Int)) true).run Try.prog w = .ok (.tuple #[.int .i64 (gno nos k), .bool true]) w := by
  obtain ⟨hs, l, hm, hl⟩ := h
  refine lookup_hit lawInt Try.underlying108 hm (keyInt ⟨by omega, by omega⟩) ?_
  exact List.mem_map.2 ⟨((k : Int), gno nos k), (hl _ _).2 ⟨by omega, by rw [Int.toNat_natCast]; exact hk, by rw [Int.toNat_natCast], h0⟩, rfl⟩
theorem SeenIs.miss {w : World} {r : Nat} {nos : List Int} (h : SeenIs w r nos) {k : Nat} (hk : k < nos.length) (h0 : gno nos k < 0) :
    (Instr.lookup 108 (.map (some r)) (.int .i64 (k : Int)) true).run Try.prog w = .ok (.tuple #[.int .i64 0, .bool false]) w := by
  obtain ⟨hs, l, hm, hl⟩ := h
  exact lookup_miss lawInt Try.underlying108 (fun _ => by kernel_rfl) hm (keyInt ⟨by omega, by omega⟩) (seenL_miss hl h0)
theorem SeenIs.put {w : World} {r : Nat} {nos : List Int} (h : SeenIs w r nos) {k : Nat} (hk : k < nos.length) (h0 : gno nos k < 0) {n : Int} (hn : 0 ≤ n) :
    ∃ es c, (Instr.mapUpdate 108 (.map (some r)) (.int .i64 (k : Int)) (.int .i64 n)).run Try.prog w = .ok () (setMap w r es c) ∧ SeenIs (setMap w r es c) r (nos.set k n) := by
  obtain ⟨hs, l, hm, hl⟩ := h
  have hmiss := seenL_miss hl h0
  have hkey := keyInt (a := (k : Int)) ⟨by omega, by omega⟩
  refine ⟨_, _, update_new lawInt Try.underlying108 hm hkey hmiss, by rw [List.length_set]; exact hs, l ++ [((k : Int), n)], ?_, ?_⟩
  · have := hm.new (v := .int .i64 n) hkey hmiss
    rw [List.map_append]
    exact this
  · intro a b
    rw [List.mem_append, hl a b, List.length_set]
    simp only [List.mem_singleton, Prod.mk.injEq]
    constructor
    · rintro (⟨h1, h2, h3, h4⟩ | ⟨rfl, rfl⟩)
      · refine ⟨h1, h2, ?_, h4⟩
        rw [gno_set_ne (by intro e; subst e; omega)]; exact h3
      · exact ⟨by omega, by rw [Int.toNat_natCast]; exact hk, by rw [Int.toNat_natCast, gno_set_self hk], hn⟩
    · rintro ⟨h1, h2, h3, h4⟩
      by_cases e : k = a.toNat
      · refine .inr ⟨by omega, ?_⟩
        rw [← e, gno_set_self hk] at h3; exact h3.symm
      · rw [gno_set_ne e] at h3
        exact .inl ⟨h1, h2, h3, h4⟩
theorem SeenIs.same {T : Nat → Prop} {w w' : World} {r : Nat} {nos : List Int} (h : SeenIs w r nos) (hs : Same T w w') (hr : T r) : SeenIs w' r nos := by
  obtain ⟨h0, l, hm, hl⟩ := h
  exact ⟨h0, l, hm.same hs hr, hl⟩
theorem SeenIs.lt {w : World} {r : Nat} {nos : List Int} (h : SeenIs w r nos) : r < w.heap.size := by
  obtain ⟨h0, l, hm, hl⟩ := h
  exact hm.1
theorem SeenIs.chg {T : Nat → Prop} {w w' : World} {r : Nat} {nos : List Int} (h : SeenIs w r nos) (hc : Chg T w w') (hr : ¬ T r) : SeenIs w' r nos :=
  h.same (T := fun k => k = r) (hc.same (fun k hk => by subst hk; exact ⟨h.lt, hr⟩)) rfl
theorem gno_repl (n k : Nat) : gno (List.replicate n (-1)) k = -1 := by
  unfold gno
  rw [List.getD_eq_getElem?_getD, List.getElem?_replicate]
  split <;> rfl
theorem SeenIs.made {w : World} {n : Nat} (hn : n ≤ 1000000) : SeenIs (w.alloc (.map #[] 0)) w.heap.size (List.replicate n (-1)) := by
  refine ⟨by rw [List.length_replicate]; exact hn, [], MapIs.made, ?_⟩
  intro a b
  rw [gno_repl]
  constructor
  · intro h; cases h
  · rintro ⟨_, _, h3, h4⟩; omega
end Go.Proofs.Ythopdfikikdcbaa
