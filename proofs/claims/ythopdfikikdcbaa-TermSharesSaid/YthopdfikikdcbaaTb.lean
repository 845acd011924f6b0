/- Walks of package term: which nodes are shaped and typed. -/
import Derived.Test.YthopdfikikdcbaaTa
import Derived.Deep.QuietTactic
namespace Go.Proofs.Ythopdfikikdcbaa
open Go.RowKit Wd
set_option linter.unusedVariables false
set_option linter.unusedSimpArgs false
/-- a is no number of a node before the node number k. -/
def bad (k a : Int) : Bool := decide (a < 0) || decide (k ≤ a)
theorem any_getD {p : Int → Bool} {xs : List Int} {j : Nat} (hj : j < xs.length) (h : p (xs.getD j 0) = true) : xs.any p = true := by
  rw [List.any_eq_true]
  refine ⟨xs.getD j 0, ?_, h⟩
  rw [List.getD_eq_getElem?_getD, List.getElem?_eq_getElem hj]
  exact List.getElem_mem hj
theorem none_getD {p : Int → Bool} {xs : List Int} (h : ∀ i, i < xs.length → p (xs.getD i 0) = false) : xs.any p = false := by
  rw [Bool.eq_false_iff]
  intro ha
  obtain ⟨a, hm, hp⟩ := List.any_eq_true.1 ha
  obtain ⟨i, hi, rfl⟩ := List.getElem_of_mem hm
  have := h i hi
  rw [List.getD_eq_getElem?_getD, List.getElem?_eq_getElem hi] at this
  simp at this
  rw [this] at hp; cases hp

theorem shaped1 (k a : Int) (b : Nat) (w : World) (hk : w.cell? ⟨b, 0, none⟩ = some (.int .i64 k)) : Calls Try.prog 75 #[.int .i64 a, .pointer (some ⟨b, 0, none⟩)] w fun e w' => e = .returned (.bool (bad k a)) ∧ w = w' := by
  cases c1 : decide (a < 0)
  · have e : bad k a = decide (k ≤ a) := by simp [bad, c1]
    rw [e]
    clear e
    go_enter Try.func75, Try.ntmps75
    go_wp2
    go_ret
    exact ⟨rfl, rfl⟩
  · have e : bad k a = true := by simp [bad, c1]
    rw [e]
    clear e
    go_enter Try.func75, Try.ntmps75
    go_wp2
    go_ret
    exact ⟨rfl, rfl⟩

theorem index_yes (k : Int) (xs : List Int) (v : Value) (b : Nat) (w : World) (hk : w.cell? ⟨b, 0, none⟩ = some (.int .i64 k)) (hv : Ints .i64 w v xs) (ha : xs.any (bad k) = true) : Calls Try.prog 101 #[v, .func (.func 75) #[] #[.pointer (some ⟨b, 0, none⟩)]] w fun e w' => ∃ r : Nat, e = .returned (.int .i64 r) ∧ w = w' := by
  obtain ⟨a, c, rfl, hc1, hc2, hc3, hcell⟩ := hv
  have HC := Lib.hid hcell
  clear hcell hc3
  go_enter Try.func101, Try.ntmps101
  go_wp2_with fail
  go_loop [5, 8] (fun _ i => ∃ j : Nat, j ≤ xs.length ∧ i = .int .i64 j ∧ Hid (∀ i, i < j → bad k (xs.getD i 0) = false)) (fun _ i => xs.length - (intOf i).toNat)
  case atStart => exact ⟨0, Nat.zero_le _, rfl, fun i hi => absurd hi (by omega)⟩
  case round =>
    obtain ⟨j, hj, rfl, hno⟩ := hrel
    by_cases hlt : j < xs.length
    · obtain ⟨b2, o2, rfl, _, hcell⟩ := HC.out j hlt
      simp only [Nat.mul_one] at hcell
      generalize hy : xs.getD j 0 = y at *
      have HY := Lib.hid hy
      clear hy
      cases hb : bad k y
      · have HB := Lib.hid hb
        go_wp2_with (first | (go_at_call 75; refine (shaped1 k _ _ _ (by assumption)).mono ?_; rintro e w' ⟨rfl, rfl⟩))
        go_round
        case rel => exact ⟨j + 1, by omega, by go_num, fun i hi => by
          by_cases e : i = j
          · rw [e, HY.out]; exact HB.out
          · exact hno.out i (by omega)⟩
        case measure => simp [intOf]; omega
      · go_wp2_with (first | (go_at_call 75; refine (shaped1 k _ _ _ (by assumption)).mono ?_; rintro e w' ⟨rfl, rfl⟩))
        go_ret
        exact ⟨j, rfl, rfl⟩
    · obtain rfl : j = xs.length := by omega
      exfalso
      have := none_getD hno.out
      rw [ha] at this; cases this

theorem index_no (k : Int) (xs : List Int) (v : Value) (b : Nat) (w : World) (hk : w.cell? ⟨b, 0, none⟩ = some (.int .i64 k)) (hv : Ints .i64 w v xs) (ha : xs.any (bad k) = false) : Calls Try.prog 101 #[v, .func (.func 75) #[] #[.pointer (some ⟨b, 0, none⟩)]] w fun e w' => e = .returned (.int .i64 (-1)) ∧ w = w' := by
  obtain ⟨a, c, rfl, hc1, hc2, hc3, hcell⟩ := hv
  have HC := Lib.hid hcell
  clear hcell hc3
  go_enter Try.func101, Try.ntmps101
  go_wp2_with fail
  go_loop [5, 8] (fun _ i => ∃ j : Nat, j ≤ xs.length ∧ i = .int .i64 j ∧ Hid (∀ i, i < j → bad k (xs.getD i 0) = false)) (fun _ i => xs.length - (intOf i).toNat)
  case atStart => exact ⟨0, Nat.zero_le _, rfl, fun i hi => absurd hi (by omega)⟩
  case round =>
    obtain ⟨j, hj, rfl, hno⟩ := hrel
    by_cases hlt : j < xs.length
    · obtain ⟨b2, o2, rfl, _, hcell⟩ := HC.out j hlt
      simp only [Nat.mul_one] at hcell
      generalize hy : xs.getD j 0 = y at *
      have HY := Lib.hid hy
      clear hy
      cases hb : bad k y
      · have HB := Lib.hid hb
        go_wp2_with (first | (go_at_call 75; refine (shaped1 k _ _ _ (by assumption)).mono ?_; rintro e w' ⟨rfl, rfl⟩))
        go_round
        case rel => exact ⟨j + 1, by omega, by go_num, fun i hi => by
          by_cases e : i = j
          · rw [e, HY.out]; exact HB.out
          · exact hno.out i (by omega)⟩
        case measure => simp [intOf]; omega
      · exfalso
        have := any_getD (p := bad k) hlt (by rw [HY.out]; exact hb)
        rw [ha] at this; cases this
    · obtain rfl : j = xs.length := by omega
      go_wp2_with fail
      go_ret
      exact ⟨rfl, rfl⟩

theorem contains_bad (k : Int) (xs : List Int) (v : Value) (b : Nat) (w : World) (hk : w.cell? ⟨b, 0, none⟩ = some (.int .i64 k)) (hv : Ints .i64 w v xs) : Calls Try.prog 74 #[v, .func (.func 75) #[] #[.pointer (some ⟨b, 0, none⟩)]] w fun e w' => e = .returned (.bool (xs.any (bad k))) ∧ w = w' := by
  cases ha : xs.any (bad k)
  · go_enter Try.func74, Try.ntmps74
    go_wp2_with (first | (go_at_call 101; refine (index_no k xs _ _ _ (by assumption) (by assumption) (by assumption)).mono ?_; rintro e w' ⟨rfl, rfl⟩))
    go_ret
    exact ⟨rfl, rfl⟩
  · go_enter Try.func74, Try.ntmps74
    go_wp2_with (first | (go_at_call 101; refine (index_yes k xs _ _ _ (by assumption) (by assumption) (by assumption)).mono ?_; rintro e w' ⟨r, rfl, rfl⟩))
    go_ret
    exact ⟨rfl, rfl⟩

/-- The node number k is right, but for the widths of its Args. -/
def shaped (k : Int) (x : Nd) : Bool :=
  (arV x.op != -1) && !decide (x.width < 1) && !decide (32 < x.width) && !(x.flags != 0) && !((x.args.length : Int) != arV x.op) && immOk x && !((x.op == 14) && (x.width != 1)) && !(x.args.any (bad k))

set_option maxHeartbeats 4000000 in
theorem isShaped_any (k : Int) (x : Nd) (v : Value) (w : World) (hv : Ints .i64 w v x.args) (i1 : 0 ≤ x.imm) (i2 : x.imm ≤ 4294967295) : Calls Try.prog 46 #[.int .i64 k, .agg #[.int .i64 x.op, .int .i64 x.width, .int .i64 x.flags, v, .int .u32 x.imm]] w fun e w' => e = .returned (.bool (shaped k x)) ∧ Below w.heap.size w w' := by
  obtain ⟨op, width, flags, args, imm⟩ := x
  simp only at hv i1 i2 ⊢
  have HV := Lib.hid hv
  obtain ⟨a, c, rfl, hc1, hc2, hc3, hcell⟩ := hv
  clear hcell hc3
  cases c1 : (arV op != -1)
  · have e : shaped k ⟨op, width, flags, args, imm⟩ = false := by simp only [shaped, c1]; simp
    rw [e]
    clear e
    go_enter Try.func46, Try.ntmps46
    go_wp2_with fail
    have h00 := Since.refl ((w.alloc (.cells #[.int .i64 k] 3)).alloc (.cells #[.int .i64 op, .int .i64 width, .int .i64 flags, .slice a args.length c, .int .u32 imm] 47))
    have l0 : ∀ wk, Since ((w.alloc (.cells #[.int .i64 k] 3)).alloc (.cells #[.int .i64 op, .int .i64 width, .int .i64 flags, .slice a args.length c, .int .u32 imm] 47)) wk → wk.cell? ⟨w.heap.size, 0, none⟩ = some (.int .i64 k) := fun wk h => by rw [(bcell (show Below _ _ _ from h)).1 _ _ (by simp; try omega)]; simp [go_sem]
    have l1 : ∀ wk, Since ((w.alloc (.cells #[.int .i64 k] 3)).alloc (.cells #[.int .i64 op, .int .i64 width, .int .i64 flags, .slice a args.length c, .int .u32 imm] 47)) wk → wk.cell? ⟨w.heap.size + 1, 0, none⟩ = some (.int .i64 op) := fun wk h => by rw [(bcell (show Below _ _ _ from h)).1 _ _ (by simp; try omega)]; simp [go_sem]
    have l2 : ∀ wk, Since ((w.alloc (.cells #[.int .i64 k] 3)).alloc (.cells #[.int .i64 op, .int .i64 width, .int .i64 flags, .slice a args.length c, .int .u32 imm] 47)) wk → wk.cell? ⟨w.heap.size + 1, 1, none⟩ = some (.int .i64 width) := fun wk h => by rw [(bcell (show Below _ _ _ from h)).1 _ _ (by simp; try omega)]; simp [go_sem]
    have l3 : ∀ wk, Since ((w.alloc (.cells #[.int .i64 k] 3)).alloc (.cells #[.int .i64 op, .int .i64 width, .int .i64 flags, .slice a args.length c, .int .u32 imm] 47)) wk → wk.cell? ⟨w.heap.size + 1, 2, none⟩ = some (.int .i64 flags) := fun wk h => by rw [(bcell (show Below _ _ _ from h)).1 _ _ (by simp; try omega)]; simp [go_sem]
    have l4 : ∀ wk, Since ((w.alloc (.cells #[.int .i64 k] 3)).alloc (.cells #[.int .i64 op, .int .i64 width, .int .i64 flags, .slice a args.length c, .int .u32 imm] 47)) wk → wk.cell? ⟨w.heap.size + 1, 3, none⟩ = some (.slice a args.length c) := fun wk h => by rw [(bcell (show Below _ _ _ from h)).1 _ _ (by simp; try omega)]; simp [go_sem]
    have l5 : ∀ wk, Since ((w.alloc (.cells #[.int .i64 k] 3)).alloc (.cells #[.int .i64 op, .int .i64 width, .int .i64 flags, .slice a args.length c, .int .u32 imm] 47)) wk → wk.cell? ⟨w.heap.size + 1, 4, none⟩ = some (.int .u32 imm) := fun wk h => by rw [(bcell (show Below _ _ _ from h)).1 _ _ (by simp; try omega)]; simp [go_sem]
    have hlk : ∀ wk, Since ((w.alloc (.cells #[.int .i64 k] 3)).alloc (.cells #[.int .i64 op, .int .i64 width, .int .i64 flags, .slice a args.length c, .int .u32 imm] 47)) wk → wk.cell? ⟨w.heap.size, 0, none⟩ = some (.int .i64 k) := l0
    have hin : ∀ wk, Since ((w.alloc (.cells #[.int .i64 k] 3)).alloc (.cells #[.int .i64 op, .int .i64 width, .int .i64 flags, .slice a args.length c, .int .u32 imm] 47)) wk → Ints .i64 wk (.slice a args.length c) args := fun wk h => HV.out.stays (below_box (below_box h))
    go_wp2_with (first | (go_at_call 65; refine (arity_yes _ _ (by assumption)).mono ?_; rintro e w' ⟨rfl, rfl⟩) | (go_at_call 65; refine (arity_no _ _ (by assumption)).mono ?_; rintro e w' ⟨rfl, rfl⟩) | (go_at_call 73; refine (acc_p (isImm_any ⟨op, width, flags, args, imm⟩ _ _ ⟨_, _, _, rfl⟩ i1 i2) (by assumption)).mono ?_; rintro e w' ⟨rfl, hb⟩) | (go_at_call 74; refine (acc_e (contains_bad k args _ _ _ (hlk _ (by assumption)) (hin _ (by assumption))) (by assumption)).mono ?_; rintro e w' ⟨rfl, hb⟩))
    go_ret
    exact ⟨rfl, below_box (below_box ‹_›)⟩
  · skip
    cases c2 : decide (width < 1)
    rotate_left
    · have e : shaped k ⟨op, width, flags, args, imm⟩ = false := by simp only [shaped, c1, c2]; simp
      rw [e]
      clear e
      go_enter Try.func46, Try.ntmps46
      go_wp2_with fail
      have h00 := Since.refl ((w.alloc (.cells #[.int .i64 k] 3)).alloc (.cells #[.int .i64 op, .int .i64 width, .int .i64 flags, .slice a args.length c, .int .u32 imm] 47))
      have l0 : ∀ wk, Since ((w.alloc (.cells #[.int .i64 k] 3)).alloc (.cells #[.int .i64 op, .int .i64 width, .int .i64 flags, .slice a args.length c, .int .u32 imm] 47)) wk → wk.cell? ⟨w.heap.size, 0, none⟩ = some (.int .i64 k) := fun wk h => by rw [(bcell (show Below _ _ _ from h)).1 _ _ (by simp; try omega)]; simp [go_sem]
      have l1 : ∀ wk, Since ((w.alloc (.cells #[.int .i64 k] 3)).alloc (.cells #[.int .i64 op, .int .i64 width, .int .i64 flags, .slice a args.length c, .int .u32 imm] 47)) wk → wk.cell? ⟨w.heap.size + 1, 0, none⟩ = some (.int .i64 op) := fun wk h => by rw [(bcell (show Below _ _ _ from h)).1 _ _ (by simp; try omega)]; simp [go_sem]
      have l2 : ∀ wk, Since ((w.alloc (.cells #[.int .i64 k] 3)).alloc (.cells #[.int .i64 op, .int .i64 width, .int .i64 flags, .slice a args.length c, .int .u32 imm] 47)) wk → wk.cell? ⟨w.heap.size + 1, 1, none⟩ = some (.int .i64 width) := fun wk h => by rw [(bcell (show Below _ _ _ from h)).1 _ _ (by simp; try omega)]; simp [go_sem]
      have l3 : ∀ wk, Since ((w.alloc (.cells #[.int .i64 k] 3)).alloc (.cells #[.int .i64 op, .int .i64 width, .int .i64 flags, .slice a args.length c, .int .u32 imm] 47)) wk → wk.cell? ⟨w.heap.size + 1, 2, none⟩ = some (.int .i64 flags) := fun wk h => by rw [(bcell (show Below _ _ _ from h)).1 _ _ (by simp; try omega)]; simp [go_sem]
      have l4 : ∀ wk, Since ((w.alloc (.cells #[.int .i64 k] 3)).alloc (.cells #[.int .i64 op, .int .i64 width, .int .i64 flags, .slice a args.length c, .int .u32 imm] 47)) wk → wk.cell? ⟨w.heap.size + 1, 3, none⟩ = some (.slice a args.length c) := fun wk h => by rw [(bcell (show Below _ _ _ from h)).1 _ _ (by simp; try omega)]; simp [go_sem]
      have l5 : ∀ wk, Since ((w.alloc (.cells #[.int .i64 k] 3)).alloc (.cells #[.int .i64 op, .int .i64 width, .int .i64 flags, .slice a args.length c, .int .u32 imm] 47)) wk → wk.cell? ⟨w.heap.size + 1, 4, none⟩ = some (.int .u32 imm) := fun wk h => by rw [(bcell (show Below _ _ _ from h)).1 _ _ (by simp; try omega)]; simp [go_sem]
      have hlk : ∀ wk, Since ((w.alloc (.cells #[.int .i64 k] 3)).alloc (.cells #[.int .i64 op, .int .i64 width, .int .i64 flags, .slice a args.length c, .int .u32 imm] 47)) wk → wk.cell? ⟨w.heap.size, 0, none⟩ = some (.int .i64 k) := l0
      have hin : ∀ wk, Since ((w.alloc (.cells #[.int .i64 k] 3)).alloc (.cells #[.int .i64 op, .int .i64 width, .int .i64 flags, .slice a args.length c, .int .u32 imm] 47)) wk → Ints .i64 wk (.slice a args.length c) args := fun wk h => HV.out.stays (below_box (below_box h))
      go_wp2_with (first | (go_at_call 65; refine (arity_yes _ _ (by assumption)).mono ?_; rintro e w' ⟨rfl, rfl⟩) | (go_at_call 65; refine (arity_no _ _ (by assumption)).mono ?_; rintro e w' ⟨rfl, rfl⟩) | (go_at_call 73; refine (acc_p (isImm_any ⟨op, width, flags, args, imm⟩ _ _ ⟨_, _, _, rfl⟩ i1 i2) (by assumption)).mono ?_; rintro e w' ⟨rfl, hb⟩) | (go_at_call 74; refine (acc_e (contains_bad k args _ _ _ (hlk _ (by assumption)) (hin _ (by assumption))) (by assumption)).mono ?_; rintro e w' ⟨rfl, hb⟩))
      go_ret
      exact ⟨rfl, below_box (below_box ‹_›)⟩
    · skip
      cases c3 : decide (32 < width)
      rotate_left
      · have e : shaped k ⟨op, width, flags, args, imm⟩ = false := by simp only [shaped, c1, c2, c3]; simp
        rw [e]
        clear e
        go_enter Try.func46, Try.ntmps46
        go_wp2_with fail
        have h00 := Since.refl ((w.alloc (.cells #[.int .i64 k] 3)).alloc (.cells #[.int .i64 op, .int .i64 width, .int .i64 flags, .slice a args.length c, .int .u32 imm] 47))
        have l0 : ∀ wk, Since ((w.alloc (.cells #[.int .i64 k] 3)).alloc (.cells #[.int .i64 op, .int .i64 width, .int .i64 flags, .slice a args.length c, .int .u32 imm] 47)) wk → wk.cell? ⟨w.heap.size, 0, none⟩ = some (.int .i64 k) := fun wk h => by rw [(bcell (show Below _ _ _ from h)).1 _ _ (by simp; try omega)]; simp [go_sem]
        have l1 : ∀ wk, Since ((w.alloc (.cells #[.int .i64 k] 3)).alloc (.cells #[.int .i64 op, .int .i64 width, .int .i64 flags, .slice a args.length c, .int .u32 imm] 47)) wk → wk.cell? ⟨w.heap.size + 1, 0, none⟩ = some (.int .i64 op) := fun wk h => by rw [(bcell (show Below _ _ _ from h)).1 _ _ (by simp; try omega)]; simp [go_sem]
        have l2 : ∀ wk, Since ((w.alloc (.cells #[.int .i64 k] 3)).alloc (.cells #[.int .i64 op, .int .i64 width, .int .i64 flags, .slice a args.length c, .int .u32 imm] 47)) wk → wk.cell? ⟨w.heap.size + 1, 1, none⟩ = some (.int .i64 width) := fun wk h => by rw [(bcell (show Below _ _ _ from h)).1 _ _ (by simp; try omega)]; simp [go_sem]
        have l3 : ∀ wk, Since ((w.alloc (.cells #[.int .i64 k] 3)).alloc (.cells #[.int .i64 op, .int .i64 width, .int .i64 flags, .slice a args.length c, .int .u32 imm] 47)) wk → wk.cell? ⟨w.heap.size + 1, 2, none⟩ = some (.int .i64 flags) := fun wk h => by rw [(bcell (show Below _ _ _ from h)).1 _ _ (by simp; try omega)]; simp [go_sem]
        have l4 : ∀ wk, Since ((w.alloc (.cells #[.int .i64 k] 3)).alloc (.cells #[.int .i64 op, .int .i64 width, .int .i64 flags, .slice a args.length c, .int .u32 imm] 47)) wk → wk.cell? ⟨w.heap.size + 1, 3, none⟩ = some (.slice a args.length c) := fun wk h => by rw [(bcell (show Below _ _ _ from h)).1 _ _ (by simp; try omega)]; simp [go_sem]
        have l5 : ∀ wk, Since ((w.alloc (.cells #[.int .i64 k] 3)).alloc (.cells #[.int .i64 op, .int .i64 width, .int .i64 flags, .slice a args.length c, .int .u32 imm] 47)) wk → wk.cell? ⟨w.heap.size + 1, 4, none⟩ = some (.int .u32 imm) := fun wk h => by rw [(bcell (show Below _ _ _ from h)).1 _ _ (by simp; try omega)]; simp [go_sem]
        have hlk : ∀ wk, Since ((w.alloc (.cells #[.int .i64 k] 3)).alloc (.cells #[.int .i64 op, .int .i64 width, .int .i64 flags, .slice a args.length c, .int .u32 imm] 47)) wk → wk.cell? ⟨w.heap.size, 0, none⟩ = some (.int .i64 k) := l0
        have hin : ∀ wk, Since ((w.alloc (.cells #[.int .i64 k] 3)).alloc (.cells #[.int .i64 op, .int .i64 width, .int .i64 flags, .slice a args.length c, .int .u32 imm] 47)) wk → Ints .i64 wk (.slice a args.length c) args := fun wk h => HV.out.stays (below_box (below_box h))
        go_wp2_with (first | (go_at_call 65; refine (arity_yes _ _ (by assumption)).mono ?_; rintro e w' ⟨rfl, rfl⟩) | (go_at_call 65; refine (arity_no _ _ (by assumption)).mono ?_; rintro e w' ⟨rfl, rfl⟩) | (go_at_call 73; refine (acc_p (isImm_any ⟨op, width, flags, args, imm⟩ _ _ ⟨_, _, _, rfl⟩ i1 i2) (by assumption)).mono ?_; rintro e w' ⟨rfl, hb⟩) | (go_at_call 74; refine (acc_e (contains_bad k args _ _ _ (hlk _ (by assumption)) (hin _ (by assumption))) (by assumption)).mono ?_; rintro e w' ⟨rfl, hb⟩))
        go_ret
        exact ⟨rfl, below_box (below_box ‹_›)⟩
      · skip
        cases c4 : (flags != 0)
        rotate_left
        · have e : shaped k ⟨op, width, flags, args, imm⟩ = false := by simp only [shaped, c1, c2, c3, c4]; simp
          rw [e]
          clear e
          go_enter Try.func46, Try.ntmps46
          go_wp2_with fail
          have h00 := Since.refl ((w.alloc (.cells #[.int .i64 k] 3)).alloc (.cells #[.int .i64 op, .int .i64 width, .int .i64 flags, .slice a args.length c, .int .u32 imm] 47))
          have l0 : ∀ wk, Since ((w.alloc (.cells #[.int .i64 k] 3)).alloc (.cells #[.int .i64 op, .int .i64 width, .int .i64 flags, .slice a args.length c, .int .u32 imm] 47)) wk → wk.cell? ⟨w.heap.size, 0, none⟩ = some (.int .i64 k) := fun wk h => by rw [(bcell (show Below _ _ _ from h)).1 _ _ (by simp; try omega)]; simp [go_sem]
          have l1 : ∀ wk, Since ((w.alloc (.cells #[.int .i64 k] 3)).alloc (.cells #[.int .i64 op, .int .i64 width, .int .i64 flags, .slice a args.length c, .int .u32 imm] 47)) wk → wk.cell? ⟨w.heap.size + 1, 0, none⟩ = some (.int .i64 op) := fun wk h => by rw [(bcell (show Below _ _ _ from h)).1 _ _ (by simp; try omega)]; simp [go_sem]
          have l2 : ∀ wk, Since ((w.alloc (.cells #[.int .i64 k] 3)).alloc (.cells #[.int .i64 op, .int .i64 width, .int .i64 flags, .slice a args.length c, .int .u32 imm] 47)) wk → wk.cell? ⟨w.heap.size + 1, 1, none⟩ = some (.int .i64 width) := fun wk h => by rw [(bcell (show Below _ _ _ from h)).1 _ _ (by simp; try omega)]; simp [go_sem]
          have l3 : ∀ wk, Since ((w.alloc (.cells #[.int .i64 k] 3)).alloc (.cells #[.int .i64 op, .int .i64 width, .int .i64 flags, .slice a args.length c, .int .u32 imm] 47)) wk → wk.cell? ⟨w.heap.size + 1, 2, none⟩ = some (.int .i64 flags) := fun wk h => by rw [(bcell (show Below _ _ _ from h)).1 _ _ (by simp; try omega)]; simp [go_sem]
          have l4 : ∀ wk, Since ((w.alloc (.cells #[.int .i64 k] 3)).alloc (.cells #[.int .i64 op, .int .i64 width, .int .i64 flags, .slice a args.length c, .int .u32 imm] 47)) wk → wk.cell? ⟨w.heap.size + 1, 3, none⟩ = some (.slice a args.length c) := fun wk h => by rw [(bcell (show Below _ _ _ from h)).1 _ _ (by simp; try omega)]; simp [go_sem]
          have l5 : ∀ wk, Since ((w.alloc (.cells #[.int .i64 k] 3)).alloc (.cells #[.int .i64 op, .int .i64 width, .int .i64 flags, .slice a args.length c, .int .u32 imm] 47)) wk → wk.cell? ⟨w.heap.size + 1, 4, none⟩ = some (.int .u32 imm) := fun wk h => by rw [(bcell (show Below _ _ _ from h)).1 _ _ (by simp; try omega)]; simp [go_sem]
          have hlk : ∀ wk, Since ((w.alloc (.cells #[.int .i64 k] 3)).alloc (.cells #[.int .i64 op, .int .i64 width, .int .i64 flags, .slice a args.length c, .int .u32 imm] 47)) wk → wk.cell? ⟨w.heap.size, 0, none⟩ = some (.int .i64 k) := l0
          have hin : ∀ wk, Since ((w.alloc (.cells #[.int .i64 k] 3)).alloc (.cells #[.int .i64 op, .int .i64 width, .int .i64 flags, .slice a args.length c, .int .u32 imm] 47)) wk → Ints .i64 wk (.slice a args.length c) args := fun wk h => HV.out.stays (below_box (below_box h))
          go_wp2_with (first | (go_at_call 65; refine (arity_yes _ _ (by assumption)).mono ?_; rintro e w' ⟨rfl, rfl⟩) | (go_at_call 65; refine (arity_no _ _ (by assumption)).mono ?_; rintro e w' ⟨rfl, rfl⟩) | (go_at_call 73; refine (acc_p (isImm_any ⟨op, width, flags, args, imm⟩ _ _ ⟨_, _, _, rfl⟩ i1 i2) (by assumption)).mono ?_; rintro e w' ⟨rfl, hb⟩) | (go_at_call 74; refine (acc_e (contains_bad k args _ _ _ (hlk _ (by assumption)) (hin _ (by assumption))) (by assumption)).mono ?_; rintro e w' ⟨rfl, hb⟩))
          go_ret
          exact ⟨rfl, below_box (below_box ‹_›)⟩
        · skip
          cases c5 : ((args.length : Int) != arV op)
          rotate_left
          · have e : shaped k ⟨op, width, flags, args, imm⟩ = false := by simp only [shaped, c1, c2, c3, c4, c5]; simp
            rw [e]
            clear e
            go_enter Try.func46, Try.ntmps46
            go_wp2_with fail
            have h00 := Since.refl ((w.alloc (.cells #[.int .i64 k] 3)).alloc (.cells #[.int .i64 op, .int .i64 width, .int .i64 flags, .slice a args.length c, .int .u32 imm] 47))
            have l0 : ∀ wk, Since ((w.alloc (.cells #[.int .i64 k] 3)).alloc (.cells #[.int .i64 op, .int .i64 width, .int .i64 flags, .slice a args.length c, .int .u32 imm] 47)) wk → wk.cell? ⟨w.heap.size, 0, none⟩ = some (.int .i64 k) := fun wk h => by rw [(bcell (show Below _ _ _ from h)).1 _ _ (by simp; try omega)]; simp [go_sem]
            have l1 : ∀ wk, Since ((w.alloc (.cells #[.int .i64 k] 3)).alloc (.cells #[.int .i64 op, .int .i64 width, .int .i64 flags, .slice a args.length c, .int .u32 imm] 47)) wk → wk.cell? ⟨w.heap.size + 1, 0, none⟩ = some (.int .i64 op) := fun wk h => by rw [(bcell (show Below _ _ _ from h)).1 _ _ (by simp; try omega)]; simp [go_sem]
            have l2 : ∀ wk, Since ((w.alloc (.cells #[.int .i64 k] 3)).alloc (.cells #[.int .i64 op, .int .i64 width, .int .i64 flags, .slice a args.length c, .int .u32 imm] 47)) wk → wk.cell? ⟨w.heap.size + 1, 1, none⟩ = some (.int .i64 width) := fun wk h => by rw [(bcell (show Below _ _ _ from h)).1 _ _ (by simp; try omega)]; simp [go_sem]
            have l3 : ∀ wk, Since ((w.alloc (.cells #[.int .i64 k] 3)).alloc (.cells #[.int .i64 op, .int .i64 width, .int .i64 flags, .slice a args.length c, .int .u32 imm] 47)) wk → wk.cell? ⟨w.heap.size + 1, 2, none⟩ = some (.int .i64 flags) := fun wk h => by rw [(bcell (show Below _ _ _ from h)).1 _ _ (by simp; try omega)]; simp [go_sem]
            have l4 : ∀ wk, Since ((w.alloc (.cells #[.int .i64 k] 3)).alloc (.cells #[.int .i64 op, .int .i64 width, .int .i64 flags, .slice a args.length c, .int .u32 imm] 47)) wk → wk.cell? ⟨w.heap.size + 1, 3, none⟩ = some (.slice a args.length c) := fun wk h => by rw [(bcell (show Below _ _ _ from h)).1 _ _ (by simp; try omega)]; simp [go_sem]
            have l5 : ∀ wk, Since ((w.alloc (.cells #[.int .i64 k] 3)).alloc (.cells #[.int .i64 op, .int .i64 width, .int .i64 flags, .slice a args.length c, .int .u32 imm] 47)) wk → wk.cell? ⟨w.heap.size + 1, 4, none⟩ = some (.int .u32 imm) := fun wk h => by rw [(bcell (show Below _ _ _ from h)).1 _ _ (by simp; try omega)]; simp [go_sem]
            have hlk : ∀ wk, Since ((w.alloc (.cells #[.int .i64 k] 3)).alloc (.cells #[.int .i64 op, .int .i64 width, .int .i64 flags, .slice a args.length c, .int .u32 imm] 47)) wk → wk.cell? ⟨w.heap.size, 0, none⟩ = some (.int .i64 k) := l0
            have hin : ∀ wk, Since ((w.alloc (.cells #[.int .i64 k] 3)).alloc (.cells #[.int .i64 op, .int .i64 width, .int .i64 flags, .slice a args.length c, .int .u32 imm] 47)) wk → Ints .i64 wk (.slice a args.length c) args := fun wk h => HV.out.stays (below_box (below_box h))
            go_wp2_with (first | (go_at_call 65; refine (arity_yes _ _ (by assumption)).mono ?_; rintro e w' ⟨rfl, rfl⟩) | (go_at_call 65; refine (arity_no _ _ (by assumption)).mono ?_; rintro e w' ⟨rfl, rfl⟩) | (go_at_call 73; refine (acc_p (isImm_any ⟨op, width, flags, args, imm⟩ _ _ ⟨_, _, _, rfl⟩ i1 i2) (by assumption)).mono ?_; rintro e w' ⟨rfl, hb⟩) | (go_at_call 74; refine (acc_e (contains_bad k args _ _ _ (hlk _ (by assumption)) (hin _ (by assumption))) (by assumption)).mono ?_; rintro e w' ⟨rfl, hb⟩))
            go_ret
            exact ⟨rfl, below_box (below_box ‹_›)⟩
          · skip
            cases c6 : immOk ⟨op, width, flags, args, imm⟩
            · have e : shaped k ⟨op, width, flags, args, imm⟩ = false := by simp only [shaped, c1, c2, c3, c4, c5, c6]; simp
              rw [e]
              clear e
              go_enter Try.func46, Try.ntmps46
              go_wp2_with fail
              have h00 := Since.refl ((w.alloc (.cells #[.int .i64 k] 3)).alloc (.cells #[.int .i64 op, .int .i64 width, .int .i64 flags, .slice a args.length c, .int .u32 imm] 47))
              have l0 : ∀ wk, Since ((w.alloc (.cells #[.int .i64 k] 3)).alloc (.cells #[.int .i64 op, .int .i64 width, .int .i64 flags, .slice a args.length c, .int .u32 imm] 47)) wk → wk.cell? ⟨w.heap.size, 0, none⟩ = some (.int .i64 k) := fun wk h => by rw [(bcell (show Below _ _ _ from h)).1 _ _ (by simp; try omega)]; simp [go_sem]
              have l1 : ∀ wk, Since ((w.alloc (.cells #[.int .i64 k] 3)).alloc (.cells #[.int .i64 op, .int .i64 width, .int .i64 flags, .slice a args.length c, .int .u32 imm] 47)) wk → wk.cell? ⟨w.heap.size + 1, 0, none⟩ = some (.int .i64 op) := fun wk h => by rw [(bcell (show Below _ _ _ from h)).1 _ _ (by simp; try omega)]; simp [go_sem]
              have l2 : ∀ wk, Since ((w.alloc (.cells #[.int .i64 k] 3)).alloc (.cells #[.int .i64 op, .int .i64 width, .int .i64 flags, .slice a args.length c, .int .u32 imm] 47)) wk → wk.cell? ⟨w.heap.size + 1, 1, none⟩ = some (.int .i64 width) := fun wk h => by rw [(bcell (show Below _ _ _ from h)).1 _ _ (by simp; try omega)]; simp [go_sem]
              have l3 : ∀ wk, Since ((w.alloc (.cells #[.int .i64 k] 3)).alloc (.cells #[.int .i64 op, .int .i64 width, .int .i64 flags, .slice a args.length c, .int .u32 imm] 47)) wk → wk.cell? ⟨w.heap.size + 1, 2, none⟩ = some (.int .i64 flags) := fun wk h => by rw [(bcell (show Below _ _ _ from h)).1 _ _ (by simp; try omega)]; simp [go_sem]
              have l4 : ∀ wk, Since ((w.alloc (.cells #[.int .i64 k] 3)).alloc (.cells #[.int .i64 op, .int .i64 width, .int .i64 flags, .slice a args.length c, .int .u32 imm] 47)) wk → wk.cell? ⟨w.heap.size + 1, 3, none⟩ = some (.slice a args.length c) := fun wk h => by rw [(bcell (show Below _ _ _ from h)).1 _ _ (by simp; try omega)]; simp [go_sem]
              have l5 : ∀ wk, Since ((w.alloc (.cells #[.int .i64 k] 3)).alloc (.cells #[.int .i64 op, .int .i64 width, .int .i64 flags, .slice a args.length c, .int .u32 imm] 47)) wk → wk.cell? ⟨w.heap.size + 1, 4, none⟩ = some (.int .u32 imm) := fun wk h => by rw [(bcell (show Below _ _ _ from h)).1 _ _ (by simp; try omega)]; simp [go_sem]
              have hlk : ∀ wk, Since ((w.alloc (.cells #[.int .i64 k] 3)).alloc (.cells #[.int .i64 op, .int .i64 width, .int .i64 flags, .slice a args.length c, .int .u32 imm] 47)) wk → wk.cell? ⟨w.heap.size, 0, none⟩ = some (.int .i64 k) := l0
              have hin : ∀ wk, Since ((w.alloc (.cells #[.int .i64 k] 3)).alloc (.cells #[.int .i64 op, .int .i64 width, .int .i64 flags, .slice a args.length c, .int .u32 imm] 47)) wk → Ints .i64 wk (.slice a args.length c) args := fun wk h => HV.out.stays (below_box (below_box h))
              go_wp2_with (first | (go_at_call 65; refine (arity_yes _ _ (by assumption)).mono ?_; rintro e w' ⟨rfl, rfl⟩) | (go_at_call 65; refine (arity_no _ _ (by assumption)).mono ?_; rintro e w' ⟨rfl, rfl⟩) | (go_at_call 73; refine (acc_p (isImm_any ⟨op, width, flags, args, imm⟩ _ _ ⟨_, _, _, rfl⟩ i1 i2) (by assumption)).mono ?_; rintro e w' ⟨rfl, hb⟩) | (go_at_call 74; refine (acc_e (contains_bad k args _ _ _ (hlk _ (by assumption)) (hin _ (by assumption))) (by assumption)).mono ?_; rintro e w' ⟨rfl, hb⟩))
              go_ret
              exact ⟨rfl, below_box (below_box ‹_›)⟩
            · skip
              cases c7 : (op == 14)
              · have e : shaped k ⟨op, width, flags, args, imm⟩ = !(args.any (bad k)) := by simp only [shaped, c1, c2, c3, c4, c5, c6, c7]; simp
                rw [e]
                clear e
                go_enter Try.func46, Try.ntmps46
                go_wp2_with fail
                have h00 := Since.refl ((w.alloc (.cells #[.int .i64 k] 3)).alloc (.cells #[.int .i64 op, .int .i64 width, .int .i64 flags, .slice a args.length c, .int .u32 imm] 47))
                have l0 : ∀ wk, Since ((w.alloc (.cells #[.int .i64 k] 3)).alloc (.cells #[.int .i64 op, .int .i64 width, .int .i64 flags, .slice a args.length c, .int .u32 imm] 47)) wk → wk.cell? ⟨w.heap.size, 0, none⟩ = some (.int .i64 k) := fun wk h => by rw [(bcell (show Below _ _ _ from h)).1 _ _ (by simp; try omega)]; simp [go_sem]
                have l1 : ∀ wk, Since ((w.alloc (.cells #[.int .i64 k] 3)).alloc (.cells #[.int .i64 op, .int .i64 width, .int .i64 flags, .slice a args.length c, .int .u32 imm] 47)) wk → wk.cell? ⟨w.heap.size + 1, 0, none⟩ = some (.int .i64 op) := fun wk h => by rw [(bcell (show Below _ _ _ from h)).1 _ _ (by simp; try omega)]; simp [go_sem]
                have l2 : ∀ wk, Since ((w.alloc (.cells #[.int .i64 k] 3)).alloc (.cells #[.int .i64 op, .int .i64 width, .int .i64 flags, .slice a args.length c, .int .u32 imm] 47)) wk → wk.cell? ⟨w.heap.size + 1, 1, none⟩ = some (.int .i64 width) := fun wk h => by rw [(bcell (show Below _ _ _ from h)).1 _ _ (by simp; try omega)]; simp [go_sem]
                have l3 : ∀ wk, Since ((w.alloc (.cells #[.int .i64 k] 3)).alloc (.cells #[.int .i64 op, .int .i64 width, .int .i64 flags, .slice a args.length c, .int .u32 imm] 47)) wk → wk.cell? ⟨w.heap.size + 1, 2, none⟩ = some (.int .i64 flags) := fun wk h => by rw [(bcell (show Below _ _ _ from h)).1 _ _ (by simp; try omega)]; simp [go_sem]
                have l4 : ∀ wk, Since ((w.alloc (.cells #[.int .i64 k] 3)).alloc (.cells #[.int .i64 op, .int .i64 width, .int .i64 flags, .slice a args.length c, .int .u32 imm] 47)) wk → wk.cell? ⟨w.heap.size + 1, 3, none⟩ = some (.slice a args.length c) := fun wk h => by rw [(bcell (show Below _ _ _ from h)).1 _ _ (by simp; try omega)]; simp [go_sem]
                have l5 : ∀ wk, Since ((w.alloc (.cells #[.int .i64 k] 3)).alloc (.cells #[.int .i64 op, .int .i64 width, .int .i64 flags, .slice a args.length c, .int .u32 imm] 47)) wk → wk.cell? ⟨w.heap.size + 1, 4, none⟩ = some (.int .u32 imm) := fun wk h => by rw [(bcell (show Below _ _ _ from h)).1 _ _ (by simp; try omega)]; simp [go_sem]
                have hlk : ∀ wk, Since ((w.alloc (.cells #[.int .i64 k] 3)).alloc (.cells #[.int .i64 op, .int .i64 width, .int .i64 flags, .slice a args.length c, .int .u32 imm] 47)) wk → wk.cell? ⟨w.heap.size, 0, none⟩ = some (.int .i64 k) := l0
                have hin : ∀ wk, Since ((w.alloc (.cells #[.int .i64 k] 3)).alloc (.cells #[.int .i64 op, .int .i64 width, .int .i64 flags, .slice a args.length c, .int .u32 imm] 47)) wk → Ints .i64 wk (.slice a args.length c) args := fun wk h => HV.out.stays (below_box (below_box h))
                go_wp2_with (first | (go_at_call 65; refine (arity_yes _ _ (by assumption)).mono ?_; rintro e w' ⟨rfl, rfl⟩) | (go_at_call 65; refine (arity_no _ _ (by assumption)).mono ?_; rintro e w' ⟨rfl, rfl⟩) | (go_at_call 73; refine (acc_p (isImm_any ⟨op, width, flags, args, imm⟩ _ _ ⟨_, _, _, rfl⟩ i1 i2) (by assumption)).mono ?_; rintro e w' ⟨rfl, hb⟩) | (go_at_call 74; refine (acc_e (contains_bad k args _ _ _ (hlk _ (by assumption)) (hin _ (by assumption))) (by assumption)).mono ?_; rintro e w' ⟨rfl, hb⟩))
                go_ret
                exact ⟨rfl, below_box (below_box ‹_›)⟩
              · cases c8 : (width != 1)
                · have e : shaped k ⟨op, width, flags, args, imm⟩ = !(args.any (bad k)) := by simp only [shaped, c1, c2, c3, c4, c5, c6, c7, c8]; simp
                  rw [e]
                  clear e
                  go_enter Try.func46, Try.ntmps46
                  go_wp2_with fail
                  have h00 := Since.refl ((w.alloc (.cells #[.int .i64 k] 3)).alloc (.cells #[.int .i64 op, .int .i64 width, .int .i64 flags, .slice a args.length c, .int .u32 imm] 47))
                  have l0 : ∀ wk, Since ((w.alloc (.cells #[.int .i64 k] 3)).alloc (.cells #[.int .i64 op, .int .i64 width, .int .i64 flags, .slice a args.length c, .int .u32 imm] 47)) wk → wk.cell? ⟨w.heap.size, 0, none⟩ = some (.int .i64 k) := fun wk h => by rw [(bcell (show Below _ _ _ from h)).1 _ _ (by simp; try omega)]; simp [go_sem]
                  have l1 : ∀ wk, Since ((w.alloc (.cells #[.int .i64 k] 3)).alloc (.cells #[.int .i64 op, .int .i64 width, .int .i64 flags, .slice a args.length c, .int .u32 imm] 47)) wk → wk.cell? ⟨w.heap.size + 1, 0, none⟩ = some (.int .i64 op) := fun wk h => by rw [(bcell (show Below _ _ _ from h)).1 _ _ (by simp; try omega)]; simp [go_sem]
                  have l2 : ∀ wk, Since ((w.alloc (.cells #[.int .i64 k] 3)).alloc (.cells #[.int .i64 op, .int .i64 width, .int .i64 flags, .slice a args.length c, .int .u32 imm] 47)) wk → wk.cell? ⟨w.heap.size + 1, 1, none⟩ = some (.int .i64 width) := fun wk h => by rw [(bcell (show Below _ _ _ from h)).1 _ _ (by simp; try omega)]; simp [go_sem]
                  have l3 : ∀ wk, Since ((w.alloc (.cells #[.int .i64 k] 3)).alloc (.cells #[.int .i64 op, .int .i64 width, .int .i64 flags, .slice a args.length c, .int .u32 imm] 47)) wk → wk.cell? ⟨w.heap.size + 1, 2, none⟩ = some (.int .i64 flags) := fun wk h => by rw [(bcell (show Below _ _ _ from h)).1 _ _ (by simp; try omega)]; simp [go_sem]
                  have l4 : ∀ wk, Since ((w.alloc (.cells #[.int .i64 k] 3)).alloc (.cells #[.int .i64 op, .int .i64 width, .int .i64 flags, .slice a args.length c, .int .u32 imm] 47)) wk → wk.cell? ⟨w.heap.size + 1, 3, none⟩ = some (.slice a args.length c) := fun wk h => by rw [(bcell (show Below _ _ _ from h)).1 _ _ (by simp; try omega)]; simp [go_sem]
                  have l5 : ∀ wk, Since ((w.alloc (.cells #[.int .i64 k] 3)).alloc (.cells #[.int .i64 op, .int .i64 width, .int .i64 flags, .slice a args.length c, .int .u32 imm] 47)) wk → wk.cell? ⟨w.heap.size + 1, 4, none⟩ = some (.int .u32 imm) := fun wk h => by rw [(bcell (show Below _ _ _ from h)).1 _ _ (by simp; try omega)]; simp [go_sem]
                  have hlk : ∀ wk, Since ((w.alloc (.cells #[.int .i64 k] 3)).alloc (.cells #[.int .i64 op, .int .i64 width, .int .i64 flags, .slice a args.length c, .int .u32 imm] 47)) wk → wk.cell? ⟨w.heap.size, 0, none⟩ = some (.int .i64 k) := l0
                  have hin : ∀ wk, Since ((w.alloc (.cells #[.int .i64 k] 3)).alloc (.cells #[.int .i64 op, .int .i64 width, .int .i64 flags, .slice a args.length c, .int .u32 imm] 47)) wk → Ints .i64 wk (.slice a args.length c) args := fun wk h => HV.out.stays (below_box (below_box h))
                  go_wp2_with (first | (go_at_call 65; refine (arity_yes _ _ (by assumption)).mono ?_; rintro e w' ⟨rfl, rfl⟩) | (go_at_call 65; refine (arity_no _ _ (by assumption)).mono ?_; rintro e w' ⟨rfl, rfl⟩) | (go_at_call 73; refine (acc_p (isImm_any ⟨op, width, flags, args, imm⟩ _ _ ⟨_, _, _, rfl⟩ i1 i2) (by assumption)).mono ?_; rintro e w' ⟨rfl, hb⟩) | (go_at_call 74; refine (acc_e (contains_bad k args _ _ _ (hlk _ (by assumption)) (hin _ (by assumption))) (by assumption)).mono ?_; rintro e w' ⟨rfl, hb⟩))
                  go_ret
                  exact ⟨rfl, below_box (below_box ‹_›)⟩
                · have e : shaped k ⟨op, width, flags, args, imm⟩ = false := by simp only [shaped, c1, c2, c3, c4, c5, c6, c7, c8]; simp
                  rw [e]
                  clear e
                  go_enter Try.func46, Try.ntmps46
                  go_wp2_with fail
                  have h00 := Since.refl ((w.alloc (.cells #[.int .i64 k] 3)).alloc (.cells #[.int .i64 op, .int .i64 width, .int .i64 flags, .slice a args.length c, .int .u32 imm] 47))
                  have l0 : ∀ wk, Since ((w.alloc (.cells #[.int .i64 k] 3)).alloc (.cells #[.int .i64 op, .int .i64 width, .int .i64 flags, .slice a args.length c, .int .u32 imm] 47)) wk → wk.cell? ⟨w.heap.size, 0, none⟩ = some (.int .i64 k) := fun wk h => by rw [(bcell (show Below _ _ _ from h)).1 _ _ (by simp; try omega)]; simp [go_sem]
                  have l1 : ∀ wk, Since ((w.alloc (.cells #[.int .i64 k] 3)).alloc (.cells #[.int .i64 op, .int .i64 width, .int .i64 flags, .slice a args.length c, .int .u32 imm] 47)) wk → wk.cell? ⟨w.heap.size + 1, 0, none⟩ = some (.int .i64 op) := fun wk h => by rw [(bcell (show Below _ _ _ from h)).1 _ _ (by simp; try omega)]; simp [go_sem]
                  have l2 : ∀ wk, Since ((w.alloc (.cells #[.int .i64 k] 3)).alloc (.cells #[.int .i64 op, .int .i64 width, .int .i64 flags, .slice a args.length c, .int .u32 imm] 47)) wk → wk.cell? ⟨w.heap.size + 1, 1, none⟩ = some (.int .i64 width) := fun wk h => by rw [(bcell (show Below _ _ _ from h)).1 _ _ (by simp; try omega)]; simp [go_sem]
                  have l3 : ∀ wk, Since ((w.alloc (.cells #[.int .i64 k] 3)).alloc (.cells #[.int .i64 op, .int .i64 width, .int .i64 flags, .slice a args.length c, .int .u32 imm] 47)) wk → wk.cell? ⟨w.heap.size + 1, 2, none⟩ = some (.int .i64 flags) := fun wk h => by rw [(bcell (show Below _ _ _ from h)).1 _ _ (by simp; try omega)]; simp [go_sem]
                  have l4 : ∀ wk, Since ((w.alloc (.cells #[.int .i64 k] 3)).alloc (.cells #[.int .i64 op, .int .i64 width, .int .i64 flags, .slice a args.length c, .int .u32 imm] 47)) wk → wk.cell? ⟨w.heap.size + 1, 3, none⟩ = some (.slice a args.length c) := fun wk h => by rw [(bcell (show Below _ _ _ from h)).1 _ _ (by simp; try omega)]; simp [go_sem]
                  have l5 : ∀ wk, Since ((w.alloc (.cells #[.int .i64 k] 3)).alloc (.cells #[.int .i64 op, .int .i64 width, .int .i64 flags, .slice a args.length c, .int .u32 imm] 47)) wk → wk.cell? ⟨w.heap.size + 1, 4, none⟩ = some (.int .u32 imm) := fun wk h => by rw [(bcell (show Below _ _ _ from h)).1 _ _ (by simp; try omega)]; simp [go_sem]
                  have hlk : ∀ wk, Since ((w.alloc (.cells #[.int .i64 k] 3)).alloc (.cells #[.int .i64 op, .int .i64 width, .int .i64 flags, .slice a args.length c, .int .u32 imm] 47)) wk → wk.cell? ⟨w.heap.size, 0, none⟩ = some (.int .i64 k) := l0
                  have hin : ∀ wk, Since ((w.alloc (.cells #[.int .i64 k] 3)).alloc (.cells #[.int .i64 op, .int .i64 width, .int .i64 flags, .slice a args.length c, .int .u32 imm] 47)) wk → Ints .i64 wk (.slice a args.length c) args := fun wk h => HV.out.stays (below_box (below_box h))
                  go_wp2_with (first | (go_at_call 65; refine (arity_yes _ _ (by assumption)).mono ?_; rintro e w' ⟨rfl, rfl⟩) | (go_at_call 65; refine (arity_no _ _ (by assumption)).mono ?_; rintro e w' ⟨rfl, rfl⟩) | (go_at_call 73; refine (acc_p (isImm_any ⟨op, width, flags, args, imm⟩ _ _ ⟨_, _, _, rfl⟩ i1 i2) (by assumption)).mono ?_; rintro e w' ⟨rfl, hb⟩) | (go_at_call 74; refine (acc_e (contains_bad k args _ _ _ (hlk _ (by assumption)) (hin _ (by assumption))) (by assumption)).mono ?_; rintro e w' ⟨rfl, hb⟩))
                  go_ret
                  exact ⟨rfl, below_box (below_box ‹_›)⟩

end Go.Proofs.Ythopdfikikdcbaa
