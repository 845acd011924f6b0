/- Walks of package term: which nodes are shaped and typed. -/
import Derived.Deep.QuietTactic
import Derived.Test.YthopdfikikdcbaaZj3
namespace Go.Proofs.Ythopdfikikdcbaa
open Go.RowKit Wd
set_option linter.unusedVariables false
set_option linter.unusedSimpArgs false
/-- a is no number of a node before the node number k. -/
def bad (k a : Int) : Bool := decide (a < 0) || decide (k ≤ a)
theorem any_getD {p : Int → Bool} {xs : List Int} {j : Nat} (hj : j < xs.length) (h : p (xs.getD j 0) = true) : xs.any p = true := by
  rw [List.any_eq_true]
  refine ⟨xs.getD j 0, ?_, h⟩
  rw [List.getD_eq_getElem?_getD, List.getElem?_eq_getElem hj]
  exact List.getElem_mem hj
theorem none_getD {p : Int → Bool} {xs : List Int} (h : ∀ i, i < xs.length → p (xs.getD i 0) = false) : xs.any p = false := by
  rw [Bool.eq_false_iff]
  intro ha
  obtain ⟨a, hm, hp⟩ := List.any_eq_true.1 ha
  obtain ⟨i, hi, rfl⟩ := List.getElem_of_mem hm
  have := h i hi
  rw [List.getD_eq_getElem?_getD, List.getElem?_eq_getElem hi] at this
  simp at this
  rw [this] at hp; cases hp

theorem shaped1 (k a : Int) (b : Nat) (w : World) (hk : w.cell? ⟨b, 0, none⟩ = some (.int .i64 k)) : Calls Try.prog 75 #[.int .i64 a, .pointer (some ⟨b, 0, none⟩)] w fun e w' => e = .returned (.bool (bad k a)) ∧ w = w' := by
  cases c1 : decide (a < 0)
  · have e : bad k a = decide (k ≤ a) := by simp [bad, c1]
    rw [e]
    clear e
    go_enter Try.func75, Try.ntmps75
    go_wp2
    go_ret
    exact ⟨rfl, rfl⟩
  · have e : bad k a = true := by simp [bad, c1]
    rw [e]
    clear e
    go_enter Try.func75, Try.ntmps75
    go_wp2
    go_ret
    exact ⟨rfl, rfl⟩

theorem index_yes (k : Int) (xs : List Int) (v : Value) (b : Nat) (w : World) (hk : w.cell? ⟨b, 0, none⟩ = some (.int .i64 k)) (hv : Ints .i64 w v xs) (ha : xs.any (bad k) = true) : Calls Try.prog 101 #[v, .func (.func 75) #[] #[.pointer (some ⟨b, 0, none⟩)]] w fun e w' => ∃ r : Nat, e = .returned (.int .i64 r) ∧ w = w' := by
  obtain ⟨a, c, rfl, hc1, hc2, hc3, hcell⟩ := hv
  have HC := Lib.hid hcell
  clear hcell hc3
  go_enter Try.func101, Try.ntmps101
  go_wp2_with fail
  go_loop [5, 8] (fun _ i => ∃ j : Nat, j ≤ xs.length ∧ i = .int .i64 j ∧ Hid (∀ i, i < j → bad k (xs.getD i 0) = false)) (fun _ i => xs.length - (intOf i).toNat)
  case atStart => exact ⟨0, Nat.zero_le _, rfl, fun i hi => absurd hi (by omega)⟩
  case round =>
    obtain ⟨j, hj, rfl, hno⟩ := hrel
    by_cases hlt : j < xs.length
    · obtain ⟨b2, o2, rfl, _, hcell⟩ := HC.out j hlt
      simp only [Nat.mul_one] at hcell
      generalize hy : xs.getD j 0 = y at *
      have HY := Lib.hid hy
      clear hy
      cases hb : bad k y
      · have HB := Lib.hid hb
        go_wp2_with (first | (go_at_call 75; refine (shaped1 k _ _ _ (by assumption)).mono ?_; rintro e w' ⟨rfl, rfl⟩))
        go_round
        case rel => exact ⟨j + 1, by omega, by go_num, fun i hi => by
          by_cases e : i = j
          · rw [e, HY.out]; exact HB.out
          · exact hno.out i (by omega)⟩
        case measure => simp [intOf]; omega
      · go_wp2_with (first | (go_at_call 75; refine (shaped1 k _ _ _ (by assumption)).mono ?_; rintro e w' ⟨rfl, rfl⟩))
        go_ret
        exact ⟨j, rfl, rfl⟩
    · obtain rfl : j = xs.length := by omega
      exfalso
      have := none_getD hno.out
      rw [ha] at this; cases this

theorem index_no (k : Int) (xs : List Int) (v : Value) (b : Nat) (w : World) (hk : w.cell? ⟨b, 0, none⟩ = some (.int .i64 k)) (hv : Ints .i64 w v xs) (ha : xs.any (bad k) = false) : Calls Try.prog 101 #[v, .func (.func 75) #[] #[.pointer (some ⟨b, 0, none⟩)]] w fun e w' => e = .returned (.int .i64 (-1)) ∧ w = w' := by
  obtain ⟨a, c, rfl, hc1, hc2, hc3, hcell⟩ := hv
  have HC := Lib.hid hcell
  clear hcell hc3
  go_enter Try.func101, Try.ntmps101
  go_wp2_with fail
  go_loop [5, 8] (fun _ i => ∃ j : Nat, j ≤ xs.length ∧ i = .int .i64 j ∧ Hid (∀ i, i < j → bad k (xs.getD i 0) = false)) (fun _ i => xs.length - (intOf i).toNat)
  case atStart => exact ⟨0, Nat.zero_le _, rfl, fun i hi => absurd hi (by omega)⟩
  case round =>
    obtain ⟨j, hj, rfl, hno⟩ := hrel
    by_cases hlt : j < xs.length
    · obtain ⟨b2, o2, rfl, _, hcell⟩ := HC.out j hlt
      simp only [Nat.mul_one] at hcell
      generalize hy : xs.getD j 0 = y at *
      have HY := Lib.hid hy
      clear hy
      cases hb : bad k y
      · have HB := Lib.hid hb
        go_wp2_with (first | (go_at_call 75; refine (shaped1 k _ _ _ (by assumption)).mono ?_; rintro e w' ⟨rfl, rfl⟩))
        go_round
        case rel => exact ⟨j + 1, by omega, by go_num, fun i hi => by
          by_cases e : i = j
          · rw [e, HY.out]; exact HB.out
          · exact hno.out i (by omega)⟩
        case measure => simp [intOf]; omega
      · exfalso
        have := any_getD (p := bad k) hlt (by rw [HY.out]; exact hb)
        rw [ha] at this; cases this
    · obtain rfl : j = xs.length := by omega
      go_wp2_with fail
      go_ret
      exact ⟨rfl, rfl⟩

theorem contains_bad (k : Int) (xs : List Int) (v : Value) (b : Nat) (w : World) (hk : w.cell? ⟨b, 0, none⟩ = some (.int .i64 k)) (hv : Ints .i64 w v xs) : Calls Try.prog 74 #[v, .func (.func 75) #[] #[.pointer (some ⟨b, 0, none⟩)]] w fun e w' => e = .returned (.bool (xs.any (bad k))) ∧ w = w' := by
  cases ha : xs.any (bad k)
  · go_enter Try.func74, Try.ntmps74
    go_wp2_with (first | (go_at_call 101; refine (index_no k xs _ _ _ (by assumption) (by assumption) (by assumption)).mono ?_; rintro e w' ⟨rfl, rfl⟩))
    go_ret
    exact ⟨rfl, rfl⟩
  · go_enter Try.func74, Try.ntmps74
    go_wp2_with (first | (go_at_call 101; refine (index_yes k xs _ _ _ (by assumption) (by assumption) (by assumption)).mono ?_; rintro e w' ⟨r, rfl, rfl⟩))
    go_ret
    exact ⟨rfl, rfl⟩

/-- The node number k is right, but for the widths of its Args. -/
def shaped (k : Int) (x : Nd) : Bool :=
  (arV x.op != -1) && !decide (x.width < 1) && !decide (32 < x.width) && !(x.flags != 0) && !((x.args.length : Int) != arV x.op) && immOk x && !((x.op == 14) && (x.width != 1)) && !(x.args.any (bad k))

set_option maxHeartbeats 4000000 in
theorem isShaped_any (k : Int) (x : Nd) (v : Value) (w : World) (hv : Ints .i64 w v x.args) (i1 : 0 ≤ x.imm) (i2 : x.imm ≤ 4294967295) : Calls Try.prog 46 #[.int .i64 k, .agg #[.int .i64 x.op, .int .i64 x.width, .int .i64 x.flags, v, .int .u32 x.imm]] w fun e w' => e = .returned (.bool (shaped k x)) ∧ Below w.heap.size w w' := by
  obtain ⟨op, width, flags, args, imm⟩ := x
  simp only at hv i1 i2 ⊢
  have HV := Lib.hid hv
  obtain ⟨a, c, rfl, hc1, hc2, hc3, hcell⟩ := hv
  clear hcell hc3
  cases c1 : (arV op != -1)
  · have e : shaped k ⟨op, width, flags, args, imm⟩ = false := by simp only [shaped, c1]; simp
    rw [e]
    clear e
    go_enter Try.func46, Try.ntmps46
    go_wp2_with fail
    have h00 := Since.refl ((w.alloc (.cells #[.int .i64 k] 3)).alloc (.cells #[.int .i64 op, .int .i64 width, .int .i64 flags, .slice a args.length c, .int .u32 imm] 47))
    have l0 : ∀ wk, Since ((w.alloc (.cells #[.int .i64 k] 3)).alloc (.cells #[.int .i64 op, .int .i64 width, .int .i64 flags, .slice a args.length c, .int .u32 imm] 47)) wk → wk.cell? ⟨w.heap.size, 0, none⟩ = some (.int .i64 k) := fun wk h => by rw [(bcell (show Below _ _ _ from h)).1 _ _ (by simp; try omega)]; simp [go_sem]
    have l1 : ∀ wk, Since ((w.alloc (.cells #[.int .i64 k] 3)).alloc (.cells #[.int .i64 op, .int .i64 width, .int .i64 flags, .slice a args.length c, .int .u32 imm] 47)) wk → wk.cell? ⟨w.heap.size + 1, 0, none⟩ = some (.int .i64 op) := fun wk h => by rw [(bcell (show Below _ _ _ from h)).1 _ _ (by simp; try omega)]; simp [go_sem]
    have l2 : ∀ wk, Since ((w.alloc (.cells #[.int .i64 k] 3)).alloc (.cells #[.int .i64 op, .int .i64 width, .int .i64 flags, .slice a args.length c, .int .u32 imm] 47)) wk → wk.cell? ⟨w.heap.size + 1, 1, none⟩ = some (.int .i64 width) := fun wk h => by rw [(bcell (show Below _ _ _ from h)).1 _ _ (by simp; try omega)]; simp [go_sem]
    have l3 : ∀ wk, Since ((w.alloc (.cells #[.int .i64 k] 3)).alloc (.cells #[.int .i64 op, .int .i64 width, .int .i64 flags, .slice a args.length c, .int .u32 imm] 47)) wk → wk.cell? ⟨w.heap.size + 1, 2, none⟩ = some (.int .i64 flags) := fun wk h => by rw [(bcell (show Below _ _ _ from h)).1 _ _ (by simp; try omega)]; simp [go_sem]
    have l4 : ∀ wk, Since ((w.alloc (.cells #[.int .i64 k] 3)).alloc (.cells #[.int .i64 op, .int .i64 width, .int .i64 flags, .slice a args.length c, .int .u32 imm] 47)) wk → wk.cell? ⟨w.heap.size + 1, 3, none⟩ = some (.slice a args.length c) := fun wk h => by rw [(bcell (show Below _ _ _ from h)).1 _ _ (by simp; try omega)]; simp [go_sem]
    have l5 : ∀ wk, Since ((w.alloc (.cells #[.int .i64 k] 3)).alloc (.cells #[.int .i64 op, .int .i64 width, .int .i64 flags, .slice a args.length c, .int .u32 imm] 47)) wk → wk.cell? ⟨w.heap.size + 1, 4, none⟩ = some (.int .u32 imm) := fun wk h => by rw [(bcell (show Below _ _ _ from h)).1 _ _ (by simp; try omega)]; simp [go_sem]
    have hlk : ∀ wk, Since ((w.alloc (.cells #[.int .i64 k] 3)).alloc (.cells #[.int .i64 op, .int .i64 width, .int .i64 flags, .slice a args.length c, .int .u32 imm] 47)) wk → wk.cell? ⟨w.heap.size, 0, none⟩ = some (.int .i64 k) := l0
    have hin : ∀ wk, Since ((w.alloc (.cells #[.int .i64 k] 3)).alloc (.cells #[.int .i64 op, .int .i64 width, .int .i64 flags, .slice a args.length c, .int .u32 imm] 47)) wk → Ints .i64 wk (.slice a args.length c) args := fun wk h => HV.out.stays (below_box (below_box h))
    go_wp2_with (first | (go_at_call 65; refine (arity_yes _ _ (by assumption)).mono ?_; rintro e w' ⟨rfl, rfl⟩) | (go_at_call 65; refine (arity_no _ _ (by assumption)).mono ?_; rintro e w' ⟨rfl, rfl⟩) | (go_at_call 73; refine (acc_p (isImm_any ⟨op, width, flags, args, imm⟩ _ _ ⟨_, _, _, rfl⟩ i1 i2) (by assumption)).mono ?_; rintro e w' ⟨rfl, hb⟩) | (go_at_call 74; refine (acc_e (contains_bad k args _ _ _ (hlk _ (by assumption)) (hin _ (by assumption))) (by assumption)).mono ?_; rintro e w' ⟨rfl, hb⟩))
    go_ret
    exact ⟨rfl, below_box (below_box ‹_›)⟩
  · skip
    cases c2 : decide (width < 1)
    rotate_left
    · have e : shaped k ⟨op, width, flags, args, imm⟩ = false := by simp only [shaped, c1, c2]; simp
      rw [e]
      clear e
      go_enter Try.func46, Try.ntmps46
      go_wp2_with fail
      have h00 := Since.refl ((w.alloc (.cells #[.int .i64 k] 3)).alloc (.cells #[.int .i64 op, .int .i64 width, .int .i64 flags, .slice a args.length c, .int .u32 imm] 47))
      have l0 : ∀ wk, Since ((w.alloc (.cells #[.int .i64 k] 3)).alloc (.cells #[.int .i64 op, .int .i64 width, .int .i64 flags, .slice a args.length c, .int .u32 imm] 47)) wk → wk.cell? ⟨w.heap.size, 0, none⟩ = some (.int .i64 k) := fun wk h => by rw [(bcell (show Below _ _ _ from h)).1 _ _ (by simp; try omega)]; simp [go_sem]
      have l1 : ∀ wk, Since ((w.alloc (.cells #[.int .i64 k] 3)).alloc (.cells #[.int .i64 op, .int .i64 width, .int .i64 flags, .slice a args.length c, .int .u32 imm] 47)) wk → wk.cell? ⟨w.heap.size + 1, 0, none⟩ = some (.int .i64 op) := fun wk h => by rw [(bcell (show Below _ _ _ from h)).1 _ _ (by simp; try omega)]; simp [go_sem]
      have l2 : ∀ wk, Since ((w.alloc (.cells #[.int .i64 k] 3)).alloc (.cells #[.int .i64 op, .int .i64 width, .int .i64 flags, .slice a args.length c, .int .u32 imm] 47)) wk → wk.cell? ⟨w.heap.size + 1, 1, none⟩ = some (.int .i64 width) := fun wk h => by rw [(bcell (show Below _ _ _ from h)).1 _ _ (by simp; try omega)]; simp [go_sem]
      have l3 : ∀ wk, Since ((w.alloc (.cells #[.int .i64 k] 3)).alloc (.cells #[.int .i64 op, .int .i64 width, .int .i64 flags, .slice a args.length c, .int .u32 imm] 47)) wk → wk.cell? ⟨w.heap.size + 1, 2, none⟩ = some (.int .i64 flags) := fun wk h => by rw [(bcell (show Below _ _ _ from h)).1 _ _ (by simp; try omega)]; simp [go_sem]
      have l4 : ∀ wk, Since ((w.alloc (.cells #[.int .i64 k] 3)).alloc (.cells #[.int .i64 op, .int .i64 width, .int .i64 flags, .slice a args.length c, .int .u32 imm] 47)) wk → wk.cell? ⟨w.heap.size + 1, 3, none⟩ = some (.slice a args.length c) := fun wk h => by rw [(bcell (show Below _ _ _ from h)).1 _ _ (by simp; try omega)]; simp [go_sem]
      have l5 : ∀ wk, Since ((w.alloc (.cells #[.int .i64 k] 3)).alloc (.cells #[.int .i64 op, .int .i64 width, .int .i64 flags, .slice a args.length c, .int .u32 imm] 47)) wk → wk.cell? ⟨w.heap.size + 1, 4, none⟩ = some (.int .u32 imm) := fun wk h => by rw [(bcell (show Below _ _ _ from h)).1 _ _ (by simp; try omega)]; simp [go_sem]
      have hlk : ∀ wk, Since ((w.alloc (.cells #[.int .i64 k] 3)).alloc (.cells #[.int .i64 op, .int .i64 width, .int .i64 flags, .slice a args.length c, .int .u32 imm] 47)) wk → wk.cell? ⟨w.heap.size, 0, none⟩ = some (.int .i64 k) := l0
      have hin : ∀ wk, Since ((w.alloc (.cells #[.int .i64 k] 3)).alloc (.cells #[.int .i64 op, .int .i64 width, .int .i64 flags, .slice a args.length c, .int .u32 imm] 47)) wk → Ints .i64 wk (.slice a args.length c) args := fun wk h => HV.out.stays (below_box (below_box h))
      go_wp2_with (first | (go_at_call 65; refine (arity_yes _ _ (by assumption)).mono ?_; rintro e w' ⟨rfl, rfl⟩) | (go_at_call 65; refine (arity_no _ _ (by assumption)).mono ?_; rintro e w' ⟨rfl, rfl⟩) | (go_at_call 73; refine (acc_p (isImm_any ⟨op, width, flags, args, imm⟩ _ _ ⟨_, _, _, rfl⟩ i1 i2) (by assumption)).mono ?_; rintro e w' ⟨rfl, hb⟩) | (go_at_call 74; refine (acc_e (contains_bad k args _ _ _ (hlk _ (by assumption)) (hin _ (by assumption))) (by assumption)).mono ?_; rintro e w' ⟨rfl, hb⟩))
      go_ret
      exact ⟨rfl, below_box (below_box ‹_›)⟩
    · skip
      cases c3 : decide (32 < width)
      rotate_left
      · have e : shaped k ⟨op, width, flags, args, imm⟩ = false := by simp only [shaped, c1, c2, c3]; simp
        rw [e]
        clear e
        go_enter Try.func46, Try.ntmps46
        go_wp2_with fail
        have h00 := Since.refl ((w.alloc (.cells #[.int .i64 k] 3)).alloc (.cells #[.int .i64 op, .int .i64 width, .int .i64 flags, .slice a args.length c, .int .u32 imm] 47))
        have l0 : ∀ wk, Since ((w.alloc (.cells #[.int .i64 k] 3)).alloc (.cells #[.int .i64 op, .int .i64 width, .int .i64 flags, .slice a args.length c, .int .u32 imm] 47)) wk → wk.cell? ⟨w.heap.size, 0, none⟩ = some (.int .i64 k) := fun wk h => by rw [(bcell (show Below _ _ _ from h)).1 _ _ (by simp; try omega)]; simp [go_sem]
        have l1 : ∀ wk, Since ((w.alloc (.cells #[.int .i64 k] 3)).alloc (.cells #[.int .i64 op, .int .i64 width, .int .i64 flags, .slice a args.length c, .int .u32 imm] 47)) wk → wk.cell? ⟨w.heap.size + 1, 0, none⟩ = some (.int .i64 op) := fun wk h => by rw [(bcell (show Below _ _ _ from h)).1 _ _ (by simp; try omega)]; simp [go_sem]
        have l2 : ∀ wk, Since ((w.alloc (.cells #[.int .i64 k] 3)).alloc (.cells #[.int .i64 op, .int .i64 width, .int .i64 flags, .slice a args.length c, .int .u32 imm] 47)) wk → wk.cell? ⟨w.heap.size + 1, 1, none⟩ = some (.int .i64 width) := fun wk h => by rw [(bcell (show Below _ _ _ from h)).1 _ _ (by simp; try omega)]; simp [go_sem]
        have l3 : ∀ wk, Since ((w.alloc (.cells #[.int .i64 k] 3)).alloc (.cells #[.int .i64 op, .int .i64 width, .int .i64 flags, .slice a args.length c, .int .u32 imm] 47)) wk → wk.cell? ⟨w.heap.size + 1, 2, none⟩ = some (.int .i64 flags) := fun wk h => by rw [(bcell (show Below _ _ _ from h)).1 _ _ (by simp; try omega)]; simp [go_sem]
        have l4 : ∀ wk, Since ((w.alloc (.cells #[.int .i64 k] 3)).alloc (.cells #[.int .i64 op, .int .i64 width, .int .i64 flags, .slice a args.length c, .int .u32 imm] 47)) wk → wk.cell? ⟨w.heap.size + 1, 3, none⟩ = some (.slice a args.length c) := fun wk h => by rw [(bcell (show Below _ _ _ from h)).1 _ _ (by simp; try omega)]; simp [go_sem]
        have l5 : ∀ wk, Since ((w.alloc (.cells #[.int .i64 k] 3)).alloc (.cells #[.int .i64 op, .int .i64 width, .int .i64 flags, .slice a args.length c, .int .u32 imm] 47)) wk → wk.cell? ⟨w.heap.size + 1, 4, none⟩ = some (.int .u32 imm) := fun wk h => by rw [(bcell (show Below _ _ _ from h)).1 _ _ (by simp; try omega)]; simp [go_sem]
        have hlk : ∀ wk, Since ((w.alloc (.cells #[.int .i64 k] 3)).alloc (.cells #[.int .i64 op, .int .i64 width, .int .i64 flags, .slice a args.length c, .int .u32 imm] 47)) wk → wk.cell? ⟨w.heap.size, 0, none⟩ = some (.int .i64 k) := l0
        have hin : ∀ wk, Since ((w.alloc (.cells #[.int .i64 k] 3)).alloc (.cells #[.int .i64 op, .int .i64 width, .int .i64 flags, .slice a args.length c, .int .u32 imm] 47)) wk → Ints .i64 wk (.slice a args.length c) args := fun wk h => HV.out.stays (below_box (below_box h))
        go_wp2_with (first | (go_at_call 65; refine (arity_yes _ _ (by assumption)).mono ?_; rintro e w' ⟨rfl, rfl⟩) | (go_at_call 65; refine (arity_no _ _ (by assumption)).mono ?_; rintro e w' ⟨rfl, rfl⟩) | (go_at_call 73; refine (acc_p (isImm_any ⟨op, width, flags, args, imm⟩ _ _ ⟨_, _, _, rfl⟩ i1 i2) (by assumption)).mono ?_; rintro e w' ⟨rfl, hb⟩) | (go_at_call 74; refine (acc_e (contains_bad k args _ _ _ (hlk _ (by assumption)) (hin _ (by assumption))) (by assumption)).mono ?_; rintro e w' ⟨rfl, hb⟩))
        go_ret
        exact ⟨rfl, below_box (below_box ‹_›)⟩
      · skip
        cases c4 : (flags != 0)
        rotate_left
        · have e : shaped k ⟨op, width, flags, args, imm⟩ = false := by simp only [shaped, c1, c2, c3, c4]; simp
          rw [e]
          clear e
          go_enter Try.func46, Try.ntmps46
          go_wp2_with fail
          have h00 := Since.refl ((w.alloc (.cells #[.int .i64 k] 3)).alloc (.cells #[.int .i64 op, .int .i64 width, .int .i64 flags, .slice a args.length c, .int .u32 imm] 47))
          have l0 : ∀ wk, Since ((w.alloc (.cells #[.int .i64 k] 3)).alloc (.cells #[.int .i64 op, .int .i64 width, .int .i64 flags, .slice a args.length c, .int .u32 imm] 47)) wk → wk.cell? ⟨w.heap.size, 0, none⟩ = some (.int .i64 k) := fun wk h => by rw [(bcell (show Below _ _ _ from h)).1 _ _ (by simp; try omega)]; simp [go_sem]
          have l1 : ∀ wk, Since ((w.alloc (.cells #[.int .i64 k] 3)).alloc (.cells #[.int .i64 op, .int .i64 width, .int .i64 flags, .slice a args.length c, .int .u32 imm] 47)) wk → wk.cell? ⟨w.heap.size + 1, 0, none⟩ = some (.int .i64 op) := fun wk h => by rw [(bcell (show Below _ _ _ from h)).1 _ _ (by simp; try omega)]; simp [go_sem]
          have l2 : ∀ wk, Since ((w.alloc (.cells #[.int .i64 k] 3)).alloc (.cells #[.int .i64 op, .int .i64 width, .int .i64 flags, .slice a args.length c, .int .u32 imm] 47)) wk → wk.cell? ⟨w.heap.size + 1, 1, none⟩ = some (.int .i64 width) := fun wk h => by rw [(bcell (show Below _ _ _ from h)).1 _ _ (by simp; try omega)]; simp [go_sem]
          have l3 : ∀ wk, Since ((w.alloc (.cells #[.int .i64 k] 3)).alloc (.cells #[.int .i64 op, .int .i64 width, .int .i64 flags, .slice a args.length c, .int .u32 imm] 47)) wk → wk.cell? ⟨w.heap.size + 1, 2, none⟩ = some (.int .i64 flags) := fun wk h => by rw [(bcell (show Below _ _ _ from h)).1 _ _ (by simp; try omega)]; simp [go_sem]
          have l4 : ∀ wk, Since ((w.alloc (.cells #[.int .i64 k] 3)).alloc (.cells #[.int .i64 op, .int .i64 width, .int .i64 flags, .slice a args.length c, .int .u32 imm] 47)) wk → wk.cell? ⟨w.heap.size + 1, 3, none⟩ = some (.slice a args.length c) := fun wk h => by rw [(bcell (show Below _ _ _ from h)).1 _ _ (by simp; try omega)]; simp [go_sem]
          have l5 : ∀ wk, Since ((w.alloc (.cells #[.int .i64 k] 3)).alloc (.cells #[.int .i64 op, .int .i64 width, .int .i64 flags, .slice a args.length c, .int .u32 imm] 47)) wk → wk.cell? ⟨w.heap.size + 1, 4, none⟩ = some (.int .u32 imm) := fun wk h => by rw [(bcell (show Below _ _ _ from h)).1 _ _ (by simp; try omega)]; simp [go_sem]
          have hlk : ∀ wk, Since ((w.alloc (.cells #[.int .i64 k] 3)).alloc (.cells #[.int .i64 op, .int .i64 width, .int .i64 flags, .slice a args.length c, .int .u32 imm] 47)) wk → wk.cell? ⟨w.heap.size, 0, none⟩ = some (.int .i64 k) := l0
          have hin : ∀ wk, Since ((w.alloc (.cells #[.int .i64 k] 3)).alloc (.cells #[.int .i64 op, .int .i64 width, .int .i64 flags, .slice a args.length c, .int .u32 imm] 47)) wk → Ints .i64 wk (.slice a args.length c) args := fun wk h => HV.out.stays (below_box (below_box h))
          go_wp2_with (first | (go_at_call 65; refine (arity_yes _ _ (by assumption)).mono ?_; rintro e w' ⟨rfl, rfl⟩) | (go_at_call 65; refine (arity_no _ _ (by assumption)).mono ?_; rintro e w' ⟨rfl, rfl⟩) | (go_at_call 73; refine (acc_p (isImm_any ⟨op, width, flags, args, imm⟩ _ _ ⟨_, _, _, rfl⟩ i1 i2) (by assumption)).mono ?_; rintro e w' ⟨rfl, hb⟩) | (go_at_call 74; refine (acc_e (contains_bad k args _ _ _ (hlk _ (by assumption)) (hin _ (by assumption))) (by assumption)).mono ?_; rintro e w' ⟨rfl, hb⟩))
          go_ret
          exact ⟨rfl, below_box (below_box ‹_›)⟩
        · skip
          cases c5 : ((args.length : Int) != arV op)
          rotate_left
          · have e : shaped k ⟨op, width, flags, args, imm⟩ = false := by simp only [shaped, c1, c2, c3, c4, c5]; simp
            rw [e]
            clear e
            go_enter Try.func46, Try.ntmps46
            go_wp2_with fail
            have h00 := Since.refl ((w.alloc (.cells #[.int .i64 k] 3)).alloc (.cells #[.int .i64 op, .int .i64 width, .int .i64 flags, .slice a args.length c, .int .u32 imm] 47))
            have l0 : ∀ wk, Since ((w.alloc (.cells #[.int .i64 k] 3)).alloc (.cells #[.int .i64 op, .int .i64 width, .int .i64 flags, .slice a args.length c, .int .u32 imm] 47)) wk → wk.cell? ⟨w.heap.size, 0, none⟩ = some (.int .i64 k) := fun wk h => by rw [(bcell (show Below _ _ _ from h)).1 _ _ (by simp; try omega)]; simp [go_sem]
            have l1 : ∀ wk, Since ((w.alloc (.cells #[.int .i64 k] 3)).alloc (.cells #[.int .i64 op, .int .i64 width, .int .i64 flags, .slice a args.length c, .int .u32 imm] 47)) wk → wk.cell? ⟨w.heap.size + 1, 0, none⟩ = some (.int .i64 op) := fun wk h => by rw [(bcell (show Below _ _ _ from h)).1 _ _ (by simp; try omega)]; simp [go_sem]
            have l2 : ∀ wk, Since ((w.alloc (.cells #[.int .i64 k] 3)).alloc (.cells #[.int .i64 op, .int .i64 width, .int .i64 flags, .slice a args.length c, .int .u32 imm] 47)) wk → wk.cell? ⟨w.heap.size + 1, 1, none⟩ = some (.int .i64 width) := fun wk h => by rw [(bcell (show Below _ _ _ from h)).1 _ _ (by simp; try omega)]; simp [go_sem]
            have l3 : ∀ wk, Since ((w.alloc (.cells #[.int .i64 k] 3)).alloc (.cells #[.int .i64 op, .int .i64 width, .int .i64 flags, .slice a args.length c, .int .u32 imm] 47)) wk → wk.cell? ⟨w.heap.size + 1, 2, none⟩ = some (.int .i64 flags) := fun wk h => by rw [(bcell (show Below _ _ _ from h)).1 _ _ (by simp; try omega)]; simp [go_sem]
            have l4 : ∀ wk, Since ((w.alloc (.cells #[.int .i64 k] 3)).alloc (.cells #[.int .i64 op, .int .i64 width, .int .i64 flags, .slice a args.length c, .int .u32 imm] 47)) wk → wk.cell? ⟨w.heap.size + 1, 3, none⟩ = some (.slice a args.length c) := fun wk h => by rw [(bcell (show Below _ _ _ from h)).1 _ _ (by simp; try omega)]; simp [go_sem]
            have l5 : ∀ wk, Since ((w.alloc (.cells #[.int .i64 k] 3)).alloc (.cells #[.int .i64 op, .int .i64 width, .int .i64 flags, .slice a args.length c, .int .u32 imm] 47)) wk → wk.cell? ⟨w.heap.size + 1, 4, none⟩ = some (.int .u32 imm) := fun wk h => by rw [(bcell (show Below _ _ _ from h)).1 _ _ (by simp; try omega)]; simp [go_sem]
            have hlk : ∀ wk, Since ((w.alloc (.cells #[.int .i64 k] 3)).alloc (.cells #[.int .i64 op, .int .i64 width, .int .i64 flags, .slice a args.length c, .int .u32 imm] 47)) wk → wk.cell? ⟨w.heap.size, 0, none⟩ = some (.int .i64 k) := l0
            have hin : ∀ wk, Since ((w.alloc (.cells #[.int .i64 k] 3)).alloc (.cells #[.int .i64 op, .int .i64 width, .int .i64 flags, .slice a args.length c, .int .u32 imm] 47)) wk → Ints .i64 wk (.slice a args.length c) args := fun wk h => HV.out.stays (below_box (below_box h))
            go_wp2_with (first | (go_at_call 65; refine (arity_yes _ _ (by assumption)).mono ?_; rintro e w' ⟨rfl, rfl⟩) | (go_at_call 65; refine (arity_no _ _ (by assumption)).mono ?_; rintro e w' ⟨rfl, rfl⟩) | (go_at_call 73; refine (acc_p (isImm_any ⟨op, width, flags, args, imm⟩ _ _ ⟨_, _, _, rfl⟩ i1 i2) (by assumption)).mono ?_; rintro e w' ⟨rfl, hb⟩) | (go_at_call 74; refine (acc_e (contains_bad k args _ _ _ (hlk _ (by assumption)) (hin _ (by assumption))) (by assumption)).mono ?_; rintro e w' ⟨rfl, hb⟩))
            go_ret
            exact ⟨rfl, below_box (below_box ‹_›)⟩
          · skip
            cases c6 : immOk ⟨op, width, flags, args, imm⟩
            · have e : shaped k ⟨op, width, flags, args, imm⟩ = false := by simp only [shaped, c1, c2, c3, c4, c5, c6]; simp
              rw [e]
              clear e
              go_enter Try.func46, Try.ntmps46
              go_wp2_with fail
              have h00 := Since.refl ((w.alloc (.cells #[.int .i64 k] 3)).alloc (.cells #[.int .i64 op, .int .i64 width, .int .i64 flags, .slice a args.length c, .int .u32 imm] 47))
              have l0 : ∀ wk, Since ((w.alloc (.cells #[.int .i64 k] 3)).alloc (.cells #[.int .i64 op, .int .i64 width, .int .i64 flags, .slice a args.length c, .int .u32 imm] 47)) wk → wk.cell? ⟨w.heap.size, 0, none⟩ = some (.int .i64 k) := fun wk h => by rw [(bcell (show Below _ _ _ from h)).1 _ _ (by simp; try omega)]; simp [go_sem]
              have l1 : ∀ wk, Since ((w.alloc (.cells #[.int .i64 k] 3)).alloc (.cells #[.int .i64 op, .int .i64 width, .int .i64 flags, .slice a args.length c, .int .u32 imm] 47)) wk → wk.cell? ⟨w.heap.size + 1, 0, none⟩ = some (.int .i64 op) := fun wk h => by rw [(bcell (show Below _ _ _ from h)).1 _ _ (by simp; try omega)]; simp [go_sem]
              have l2 : ∀ wk, Since ((w.alloc (.cells #[.int .i64 k] 3)).alloc (.cells #[.int .i64 op, .int .i64 width, .int .i64 flags, .slice a args.length c, .int .u32 imm] 47)) wk → wk.cell? ⟨w.heap.size + 1, 1, none⟩ = some (.int .i64 width) := fun wk h => by rw [(bcell (show Below _ _ _ from h)).1 _ _ (by simp; try omega)]; simp [go_sem]
              have l3 : ∀ wk, Since ((w.alloc (.cells #[.int .i64 k] 3)).alloc (.cells #[.int .i64 op, .int .i64 width, .int .i64 flags, .slice a args.length c, .int .u32 imm] 47)) wk → wk.cell? ⟨w.heap.size + 1, 2, none⟩ = some (.int .i64 flags) := fun wk h => by rw [(bcell (show Below _ _ _ from h)).1 _ _ (by simp; try omega)]; simp [go_sem]
              have l4 : ∀ wk, Since ((w.alloc (.cells #[.int .i64 k] 3)).alloc (.cells #[.int .i64 op, .int .i64 width, .int .i64 flags, .slice a args.length c, .int .u32 imm] 47)) wk → wk.cell? ⟨w.heap.size + 1, 3, none⟩ = some (.slice a args.length c) := fun wk h => by rw [(bcell (show Below _ _ _ from h)).1 _ _ (by simp; try omega)]; simp [go_sem]
              have l5 : ∀ wk, Since ((w.alloc (.cells #[.int .i64 k] 3)).alloc (.cells #[.int .i64 op, .int .i64 width, .int .i64 flags, .slice a args.length c, .int .u32 imm] 47)) wk → wk.cell? ⟨w.heap.size + 1, 4, none⟩ = some (.int .u32 imm) := fun wk h => by rw [(bcell (show Below _ _ _ from h)).1 _ _ (by simp; try omega)]; simp [go_sem]
              have hlk : ∀ wk, Since ((w.alloc (.cells #[.int .i64 k] 3)).alloc (.cells #[.int .i64 op, .int .i64 width, .int .i64 flags, .slice a args.length c, .int .u32 imm] 47)) wk → wk.cell? ⟨w.heap.size, 0, none⟩ = some (.int .i64 k) := l0
              have hin : ∀ wk, Since ((w.alloc (.cells #[.int .i64 k] 3)).alloc (.cells #[.int .i64 op, .int .i64 width, .int .i64 flags, .slice a args.length c, .int .u32 imm] 47)) wk → Ints .i64 wk (.slice a args.length c) args := fun wk h => HV.out.stays (below_box (below_box h))
              go_wp2_with (first | (go_at_call 65; refine (arity_yes _ _ (by assumption)).mono ?_; rintro e w' ⟨rfl, rfl⟩) | (go_at_call 65; refine (arity_no _ _ (by assumption)).mono ?_; rintro e w' ⟨rfl, rfl⟩) | (go_at_call 73; refine (acc_p (isImm_any ⟨op, width, flags, args, imm⟩ _ _ ⟨_, _, _, rfl⟩ i1 i2) (by assumption)).mono ?_; rintro e w' ⟨rfl, hb⟩) | (go_at_call 74; refine (acc_e (contains_bad k args _ _ _ (hlk _ (by assumption)) (hin _ (by assumption))) (by assumption)).mono ?_; rintro e w' ⟨rfl, hb⟩))
              go_ret
              exact ⟨rfl, below_box (below_box ‹_›)⟩
            · skip
              cases c7 : (op == 14)
              · have e : shaped k ⟨op, width, flags, args, imm⟩ = !(args.any (bad k)) := by simp only [shaped, c1, c2, c3, c4, c5, c6, c7]; simp
                rw [e]
                clear e
                go_enter Try.func46, Try.ntmps46
                go_wp2_with fail
                have h00 := Since.refl ((w.alloc (.cells #[.int .i64 k] 3)).alloc (.cells #[.int .i64 op, .int .i64 width, .int .i64 flags, .slice a args.length c, .int .u32 imm] 47))
                have l0 : ∀ wk, Since ((w.alloc (.cells #[.int .i64 k] 3)).alloc (.cells #[.int .i64 op, .int .i64 width, .int .i64 flags, .slice a args.length c, .int .u32 imm] 47)) wk → wk.cell? ⟨w.heap.size, 0, none⟩ = some (.int .i64 k) := fun wk h => by rw [(bcell (show Below _ _ _ from h)).1 _ _ (by simp; try omega)]; simp [go_sem]
                have l1 : ∀ wk, Since ((w.alloc (.cells #[.int .i64 k] 3)).alloc (.cells #[.int .i64 op, .int .i64 width, .int .i64 flags, .slice a args.length c, .int .u32 imm] 47)) wk → wk.cell? ⟨w.heap.size + 1, 0, none⟩ = some (.int .i64 op) := fun wk h => by rw [(bcell (show Below _ _ _ from h)).1 _ _ (by simp; try omega)]; simp [go_sem]
                have l2 : ∀ wk, Since ((w.alloc (.cells #[.int .i64 k] 3)).alloc (.cells #[.int .i64 op, .int .i64 width, .int .i64 flags, .slice a args.length c, .int .u32 imm] 47)) wk → wk.cell? ⟨w.heap.size + 1, 1, none⟩ = some (.int .i64 width) := fun wk h => by rw [(bcell (show Below _ _ _ from h)).1 _ _ (by simp; try omega)]; simp [go_sem]
                have l3 : ∀ wk, Since ((w.alloc (.cells #[.int .i64 k] 3)).alloc (.cells #[.int .i64 op, .int .i64 width, .int .i64 flags, .slice a args.length c, .int .u32 imm] 47)) wk → wk.cell? ⟨w.heap.size + 1, 2, none⟩ = some (.int .i64 flags) := fun wk h => by rw [(bcell (show Below _ _ _ from h)).1 _ _ (by simp; try omega)]; simp [go_sem]
                have l4 : ∀ wk, Since ((w.alloc (.cells #[.int .i64 k] 3)).alloc (.cells #[.int .i64 op, .int .i64 width, .int .i64 flags, .slice a args.length c, .int .u32 imm] 47)) wk → wk.cell? ⟨w.heap.size + 1, 3, none⟩ = some (.slice a args.length c) := fun wk h => by rw [(bcell (show Below _ _ _ from h)).1 _ _ (by simp; try omega)]; simp [go_sem]
                have l5 : ∀ wk, Since ((w.alloc (.cells #[.int .i64 k] 3)).alloc (.cells #[.int .i64 op, .int .i64 width, .int .i64 flags, .slice a args.length c, .int .u32 imm] 47)) wk → wk.cell? ⟨w.heap.size + 1, 4, none⟩ = some (.int .u32 imm) := fun wk h => by rw [(bcell (show Below _ _ _ from h)).1 _ _ (by simp; try omega)]; simp [go_sem]
                have hlk : ∀ wk, Since ((w.alloc (.cells #[.int .i64 k] 3)).alloc (.cells #[.int .i64 op, .int .i64 width, .int .i64 flags, .slice a args.length c, .int .u32 imm] 47)) wk → wk.cell? ⟨w.heap.size, 0, none⟩ = some (.int .i64 k) := l0
                have hin : ∀ wk, Since ((w.alloc (.cells #[.int .i64 k] 3)).alloc (.cells #[.int .i64 op, .int .i64 width, .int .i64 flags, .slice a args.length c, .int .u32 imm] 47)) wk → Ints .i64 wk (.slice a args.length c) args := fun wk h => HV.out.stays (below_box (below_box h))
                go_wp2_with (first | (go_at_call 65; refine (arity_yes _ _ (by assumption)).mono ?_; rintro e w' ⟨rfl, rfl⟩) | (go_at_call 65; refine (arity_no _ _ (by assumption)).mono ?_; rintro e w' ⟨rfl, rfl⟩) | (go_at_call 73; refine (acc_p (isImm_any ⟨op, width, flags, args, imm⟩ _ _ ⟨_, _, _, rfl⟩ i1 i2) (by assumption)).mono ?_; rintro e w' ⟨rfl, hb⟩) | (go_at_call 74; refine (acc_e (contains_bad k args _ _ _ (hlk _ (by assumption)) (hin _ (by assumption))) (by assumption)).mono ?_; rintro e w' ⟨rfl, hb⟩))
                go_ret
                exact ⟨rfl, below_box (below_box ‹_›)⟩
              · cases c8 : (width != 1)
                · have e : shaped k ⟨op, width, flags, args, imm⟩ = !(args.any (bad k)) := by simp only [shaped, c1, c2, c3, c4, c5, c6, c7, c8]; simp
                  rw [e]
                  clear e
                  go_enter Try.func46, Try.ntmps46
                  go_wp2_with fail
                  have h00 := Since.refl ((w.alloc (.cells #[.int .i64 k] 3)).alloc (.cells #[.int .i64 op, .int .i64 width, .int .i64 flags, .slice a args.length c, .int .u32 imm] 47))
                  have l0 : ∀ wk, Since ((w.alloc (.cells #[.int .i64 k] 3)).alloc (.cells #[.int .i64 op, .int .i64 width, .int .i64 flags, .slice a args.length c, .int .u32 imm] 47)) wk → wk.cell? ⟨w.heap.size, 0, none⟩ = some (.int .i64 k) := fun wk h => by rw [(bcell (show Below _ _ _ from h)).1 _ _ (by simp; try omega)]; simp [go_sem]
                  have l1 : ∀ wk, Since ((w.alloc (.cells #[.int .i64 k] 3)).alloc (.cells #[.int .i64 op, .int .i64 width, .int .i64 flags, .slice a args.length c, .int .u32 imm] 47)) wk → wk.cell? ⟨w.heap.size + 1, 0, none⟩ = some (.int .i64 op) := fun wk h => by rw [(bcell (show Below _ _ _ from h)).1 _ _ (by simp; try omega)]; simp [go_sem]
                  have l2 : ∀ wk, Since ((w.alloc (.cells #[.int .i64 k] 3)).alloc (.cells #[.int .i64 op, .int .i64 width, .int .i64 flags, .slice a args.length c, .int .u32 imm] 47)) wk → wk.cell? ⟨w.heap.size + 1, 1, none⟩ = some (.int .i64 width) := fun wk h => by rw [(bcell (show Below _ _ _ from h)).1 _ _ (by simp; try omega)]; simp [go_sem]
                  have l3 : ∀ wk, Since ((w.alloc (.cells #[.int .i64 k] 3)).alloc (.cells #[.int .i64 op, .int .i64 width, .int .i64 flags, .slice a args.length c, .int .u32 imm] 47)) wk → wk.cell? ⟨w.heap.size + 1, 2, none⟩ = some (.int .i64 flags) := fun wk h => by rw [(bcell (show Below _ _ _ from h)).1 _ _ (by simp; try omega)]; simp [go_sem]
                  have l4 : ∀ wk, Since ((w.alloc (.cells #[.int .i64 k] 3)).alloc (.cells #[.int .i64 op, .int .i64 width, .int .i64 flags, .slice a args.length c, .int .u32 imm] 47)) wk → wk.cell? ⟨w.heap.size + 1, 3, none⟩ = some (.slice a args.length c) := fun wk h => by rw [(bcell (show Below _ _ _ from h)).1 _ _ (by simp; try omega)]; simp [go_sem]
                  have l5 : ∀ wk, Since ((w.alloc (.cells #[.int .i64 k] 3)).alloc (.cells #[.int .i64 op, .int .i64 width, .int .i64 flags, .slice a args.length c, .int .u32 imm] 47)) wk → wk.cell? ⟨w.heap.size + 1, 4, none⟩ = some (.int .u32 imm) := fun wk h => by rw [(bcell (show Below _ _ _ from h)).1 _ _ (by simp; try omega)]; simp [go_sem]
                  have hlk : ∀ wk, Since ((w.alloc (.cells #[.int .i64 k] 3)).alloc (.cells #[.int .i64 op, .int .i64 width, .int .i64 flags, .slice a args.length c, .int .u32 imm] 47)) wk → wk.cell? ⟨w.heap.size, 0, none⟩ = some (.int .i64 k) := l0
                  have hin : ∀ wk, Since ((w.alloc (.cells #[.int .i64 k] 3)).alloc (.cells #[.int .i64 op, .int .i64 width, .int .i64 flags, .slice a args.length c, .int .u32 imm] 47)) wk → Ints .i64 wk (.slice a args.length c) args := fun wk h => HV.out.stays (below_box (below_box h))
                  go_wp2_with (first | (go_at_call 65; refine (arity_yes _ _ (by assumption)).mono ?_; rintro e w' ⟨rfl, rfl⟩) | (go_at_call 65; refine (arity_no _ _ (by assumption)).mono ?_; rintro e w' ⟨rfl, rfl⟩) | (go_at_call 73; refine (acc_p (isImm_any ⟨op, width, flags, args, imm⟩ _ _ ⟨_, _, _, rfl⟩ i1 i2) (by assumption)).mono ?_; rintro e w' ⟨rfl, hb⟩) | (go_at_call 74; refine (acc_e (contains_bad k args _ _ _ (hlk _ (by assumption)) (hin _ (by assumption))) (by assumption)).mono ?_; rintro e w' ⟨rfl, hb⟩))
                  go_ret
                  exact ⟨rfl, below_box (below_box ‹_›)⟩
                · have e : shaped k ⟨op, width, flags, args, imm⟩ = false := by simp only [shaped, c1, c2, c3, c4, c5, c6, c7, c8]; simp
                  rw [e]
                  clear e
                  go_enter Try.func46, Try.ntmps46
                  go_wp2_with fail
                  have h00 := Since.refl ((w.alloc (.cells #[.int .i64 k] 3)).alloc (.cells #[.int .i64 op, .int .i64 width, .int .i64 flags, .slice a args.length c, .int .u32 imm] 47))
                  have l0 : ∀ wk, Since ((w.alloc (.cells #[.int .i64 k] 3)).alloc (.cells #[.int .i64 op, .int .i64 width, .int .i64 flags, .slice a args.length c, .int .u32 imm] 47)) wk → wk.cell? ⟨w.heap.size, 0, none⟩ = some (.int .i64 k) := fun wk h => by rw [(bcell (show Below _ _ _ from h)).1 _ _ (by simp; try omega)]; simp [go_sem]
                  have l1 : ∀ wk, Since ((w.alloc (.cells #[.int .i64 k] 3)).alloc (.cells #[.int .i64 op, .int .i64 width, .int .i64 flags, .slice a args.length c, .int .u32 imm] 47)) wk → wk.cell? ⟨w.heap.size + 1, 0, none⟩ = some (.int .i64 op) := fun wk h => by rw [(bcell (show Below _ _ _ from h)).1 _ _ (by simp; try omega)]; simp [go_sem]
                  have l2 : ∀ wk, Since ((w.alloc (.cells #[.int .i64 k] 3)).alloc (.cells #[.int .i64 op, .int .i64 width, .int .i64 flags, .slice a args.length c, .int .u32 imm] 47)) wk → wk.cell? ⟨w.heap.size + 1, 1, none⟩ = some (.int .i64 width) := fun wk h => by rw [(bcell (show Below _ _ _ from h)).1 _ _ (by simp; try omega)]; simp [go_sem]
                  have l3 : ∀ wk, Since ((w.alloc (.cells #[.int .i64 k] 3)).alloc (.cells #[.int .i64 op, .int .i64 width, .int .i64 flags, .slice a args.length c, .int .u32 imm] 47)) wk → wk.cell? ⟨w.heap.size + 1, 2, none⟩ = some (.int .i64 flags) := fun wk h => by rw [(bcell (show Below _ _ _ from h)).1 _ _ (by simp; try omega)]; simp [go_sem]
                  have l4 : ∀ wk, Since ((w.alloc (.cells #[.int .i64 k] 3)).alloc (.cells #[.int .i64 op, .int .i64 width, .int .i64 flags, .slice a args.length c, .int .u32 imm] 47)) wk → wk.cell? ⟨w.heap.size + 1, 3, none⟩ = some (.slice a args.length c) := fun wk h => by rw [(bcell (show Below _ _ _ from h)).1 _ _ (by simp; try omega)]; simp [go_sem]
                  have l5 : ∀ wk, Since ((w.alloc (.cells #[.int .i64 k] 3)).alloc (.cells #[.int .i64 op, .int .i64 width, .int .i64 flags, .slice a args.length c, .int .u32 imm] 47)) wk → wk.cell? ⟨w.heap.size + 1, 4, none⟩ = some (.int .u32 imm) := fun wk h => by rw [(bcell (show Below _ _ _ from h)).1 _ _ (by simp; try omega)]; simp [go_sem]
                  have hlk : ∀ wk, Since ((w.alloc (.cells #[.int .i64 k] 3)).alloc (.cells #[.int .i64 op, .int .i64 width, .int .i64 flags, .slice a args.length c, .int .u32 imm] 47)) wk → wk.cell? ⟨w.heap.size, 0, none⟩ = some (.int .i64 k) := l0
                  have hin : ∀ wk, Since ((w.alloc (.cells #[.int .i64 k] 3)).alloc (.cells #[.int .i64 op, .int .i64 width, .int .i64 flags, .slice a args.length c, .int .u32 imm] 47)) wk → Ints .i64 wk (.slice a args.length c) args := fun wk h => HV.out.stays (below_box (below_box h))
                  go_wp2_with (first | (go_at_call 65; refine (arity_yes _ _ (by assumption)).mono ?_; rintro e w' ⟨rfl, rfl⟩) | (go_at_call 65; refine (arity_no _ _ (by assumption)).mono ?_; rintro e w' ⟨rfl, rfl⟩) | (go_at_call 73; refine (acc_p (isImm_any ⟨op, width, flags, args, imm⟩ _ _ ⟨_, _, _, rfl⟩ i1 i2) (by assumption)).mono ?_; rintro e w' ⟨rfl, hb⟩) | (go_at_call 74; refine (acc_e (contains_bad k args _ _ _ (hlk _ (by assumption)) (hin _ (by assumption))) (by assumption)).mono ?_; rintro e w' ⟨rfl, hb⟩))
                  go_ret
                  exact ⟨rfl, below_box (below_box ‹_›)⟩

end Go.Proofs.Ythopdfikikdcbaa
/- Walks of package term: which nodes are typed. -/
namespace Go.Proofs.Ythopdfikikdcbaa
open Go.RowKit Wd
set_option linter.unusedVariables false
set_option linter.unusedSimpArgs false
/-- The width of the node that stands as the i-th of the Args. -/
def wdt (ts : List Nd) (args : List Int) (i : Nat) : Int := (ts.getD (args.getD i 0).toNat default).width
def typed (ts : List Nd) (x : Nd) : Bool :=
  if 1 ≤ x.op ∧ x.op ≤ 13 then (wdt ts x.args 0 == x.width) && (wdt ts x.args 1 == x.width)
  else if x.op = 14 then wdt ts x.args 0 == wdt ts x.args 1
  else if x.op = 15 then (wdt ts x.args 0 == 1) && (wdt ts x.args 1 == x.width) && (wdt ts x.args 2 == x.width)
  else if x.op = 16 ∨ x.op = 17 then decide (wdt ts x.args 0 < x.width)
  else if x.op = 18 then decide (x.width < wdt ts x.args 0) else true

theorem typed1 (i : Nat) (ts : List Nd) (args : List Int) (bt bx : Nat) (tv av : Value) (w : World) (ht : w.cell? ⟨bt, 0, none⟩ = some tv) (hx : w.cell? ⟨bx, 3, none⟩ = some av) (hts : Nds w tv ts) (ha : Ints .i64 w av args) (hi : i < args.length) (h0 : 0 ≤ args.getD i 0) (h1 : args.getD i 0 < ts.length) : Calls Try.prog 76 #[.int .i64 i, .pointer (some ⟨bt, 0, none⟩), .pointer (some ⟨bx, 0, none⟩)] w fun e w' => e = .returned (.int .i64 (wdt ts args i)) ∧ Dr w w' := by
  obtain ⟨m, hm⟩ := Int.eq_ofNat_of_zero_le h0
  unfold wdt
  rw [hm] at h1 ⊢
  obtain ⟨a, c, rfl, ha1, ha2, ha3, hac⟩ := ha
  obtain ⟨b1, o1, rfl, hb1, hc1⟩ := hac i hi
  obtain ⟨a2, c2, rfl, ht1, ht2, ht3, htc⟩ := hts
  obtain ⟨b2, o2, rfl, hb2, hc2⟩ := htc m (by omega)
  rw [hm, Nat.mul_one] at hc1
  obtain ⟨_, hc3, _⟩ := hc2
  simp only [Int.toNat_natCast]
  generalize (ts.getD m default).width = y at *
  have q1 : (i : Int) < args.length := by omega
  clear hac htc hm h0
  go_enter Try.func76, Try.ntmps76
  go_wp2_with fail
  go_quiet (fail)
  go_wp2_with fail
  go_ret
  exact ⟨rfl, _, rfl⟩

theorem typed1_0 (ts : List Nd) (args : List Int) (bt bx : Nat) (tv av : Value) (w : World) (ht : w.cell? ⟨bt, 0, none⟩ = some tv) (hx : w.cell? ⟨bx, 3, none⟩ = some av) (hts : Nds w tv ts) (ha : Ints .i64 w av args) (hi : 0 < args.length) (hr : ∀ a ∈ args, 0 ≤ a ∧ a < ts.length) : Calls Try.prog 76 #[.int .i64 0, .pointer (some ⟨bt, 0, none⟩), .pointer (some ⟨bx, 0, none⟩)] w fun e w' => e = .returned (.int .i64 (wdt ts args 0)) ∧ ∃ m, w' = w.drewN m := by
  have h := hr (args.getD 0 0) (by rw [List.getD_eq_getElem?_getD, List.getElem?_eq_getElem hi]; exact List.getElem_mem hi)
  exact typed1 0 ts args bt bx tv av w ht hx hts ha hi h.1 h.2
theorem typed1_1 (ts : List Nd) (args : List Int) (bt bx : Nat) (tv av : Value) (w : World) (ht : w.cell? ⟨bt, 0, none⟩ = some tv) (hx : w.cell? ⟨bx, 3, none⟩ = some av) (hts : Nds w tv ts) (ha : Ints .i64 w av args) (hi : 1 < args.length) (hr : ∀ a ∈ args, 0 ≤ a ∧ a < ts.length) : Calls Try.prog 76 #[.int .i64 1, .pointer (some ⟨bt, 0, none⟩), .pointer (some ⟨bx, 0, none⟩)] w fun e w' => e = .returned (.int .i64 (wdt ts args 1)) ∧ ∃ m, w' = w.drewN m := by
  have h := hr (args.getD 1 0) (by rw [List.getD_eq_getElem?_getD, List.getElem?_eq_getElem hi]; exact List.getElem_mem hi)
  exact typed1 1 ts args bt bx tv av w ht hx hts ha hi h.1 h.2
theorem typed1_2 (ts : List Nd) (args : List Int) (bt bx : Nat) (tv av : Value) (w : World) (ht : w.cell? ⟨bt, 0, none⟩ = some tv) (hx : w.cell? ⟨bx, 3, none⟩ = some av) (hts : Nds w tv ts) (ha : Ints .i64 w av args) (hi : 2 < args.length) (hr : ∀ a ∈ args, 0 ≤ a ∧ a < ts.length) : Calls Try.prog 76 #[.int .i64 2, .pointer (some ⟨bt, 0, none⟩), .pointer (some ⟨bx, 0, none⟩)] w fun e w' => e = .returned (.int .i64 (wdt ts args 2)) ∧ ∃ m, w' = w.drewN m := by
  have h := hr (args.getD 2 0) (by rw [List.getD_eq_getElem?_getD, List.getElem?_eq_getElem hi]; exact List.getElem_mem hi)
  exact typed1 2 ts args bt bx tv av w ht hx hts ha hi h.1 h.2
set_option maxHeartbeats 4000000 in
theorem isTyped_any (ts : List Nd) (x : Nd) (tv v : Value) (w : World) (hts : Nds w tv ts) (hv : Ints .i64 w v x.args) (hlen : (x.args.length : Int) = arV x.op) (hr : ∀ a ∈ x.args, 0 ≤ a ∧ a < ts.length) : Calls Try.prog 47 #[tv, .agg #[.int .i64 x.op, .int .i64 x.width, .int .i64 x.flags, v, .int .u32 x.imm]] w fun e w' => e = .returned (.bool (typed ts x)) ∧ Below w.heap.size w w' := by
  obtain ⟨op, width, flags, args, imm⟩ := x
  simp only at hv hlen hr ⊢
  have HV := Lib.hid hv
  have HT := Lib.hid hts
  have HR := Lib.hid hr
  obtain ⟨a, c, rfl, hc1, hc2, hc3, hcell⟩ := hv
  obtain ⟨ta, tc, rfl, ht1, ht2, _⟩ := hts
  clear hcell hc3 hr
  have hpos := arV_cases op
  rcases arV_cases op with ⟨rfl | rfl, e0⟩ | ⟨⟨h1, h2⟩, e0⟩ | ⟨rfl, e0⟩ | ⟨⟨h1, h2⟩, e0⟩ | ⟨h, e0⟩
  · clear hlen hpos e0
    have e : typed ts ⟨0, width, flags, args, imm⟩ = true := by simp [typed]
    rw [e]
    clear e
    have h00 := Since.refl ((w.alloc (.cells #[.slice ta ts.length tc] 22)).alloc (.cells #[.int .i64 0, .int .i64 width, .int .i64 flags, .slice a args.length c, .int .u32 imm] 47))
    have l0 : ∀ wk, Since ((w.alloc (.cells #[.slice ta ts.length tc] 22)).alloc (.cells #[.int .i64 0, .int .i64 width, .int .i64 flags, .slice a args.length c, .int .u32 imm] 47)) wk → wk.cell? ⟨w.heap.size, 0, none⟩ = some (.slice ta ts.length tc) := fun wk h => by rw [(bcell (show Below _ _ _ from h)).1 _ _ (by simp; try omega)]; simp [go_sem]
    have l1 : ∀ wk, Since ((w.alloc (.cells #[.slice ta ts.length tc] 22)).alloc (.cells #[.int .i64 0, .int .i64 width, .int .i64 flags, .slice a args.length c, .int .u32 imm] 47)) wk → wk.cell? ⟨w.heap.size + 1, 0, none⟩ = some (.int .i64 0) := fun wk h => by rw [(bcell (show Below _ _ _ from h)).1 _ _ (by simp; try omega)]; simp [go_sem]
    have l2 : ∀ wk, Since ((w.alloc (.cells #[.slice ta ts.length tc] 22)).alloc (.cells #[.int .i64 0, .int .i64 width, .int .i64 flags, .slice a args.length c, .int .u32 imm] 47)) wk → wk.cell? ⟨w.heap.size + 1, 1, none⟩ = some (.int .i64 width) := fun wk h => by rw [(bcell (show Below _ _ _ from h)).1 _ _ (by simp; try omega)]; simp [go_sem]
    have l3 : ∀ wk, Since ((w.alloc (.cells #[.slice ta ts.length tc] 22)).alloc (.cells #[.int .i64 0, .int .i64 width, .int .i64 flags, .slice a args.length c, .int .u32 imm] 47)) wk → wk.cell? ⟨w.heap.size + 1, 2, none⟩ = some (.int .i64 flags) := fun wk h => by rw [(bcell (show Below _ _ _ from h)).1 _ _ (by simp; try omega)]; simp [go_sem]
    have l4 : ∀ wk, Since ((w.alloc (.cells #[.slice ta ts.length tc] 22)).alloc (.cells #[.int .i64 0, .int .i64 width, .int .i64 flags, .slice a args.length c, .int .u32 imm] 47)) wk → wk.cell? ⟨w.heap.size + 1, 3, none⟩ = some (.slice a args.length c) := fun wk h => by rw [(bcell (show Below _ _ _ from h)).1 _ _ (by simp; try omega)]; simp [go_sem]
    have l5 : ∀ wk, Since ((w.alloc (.cells #[.slice ta ts.length tc] 22)).alloc (.cells #[.int .i64 0, .int .i64 width, .int .i64 flags, .slice a args.length c, .int .u32 imm] 47)) wk → wk.cell? ⟨w.heap.size + 1, 4, none⟩ = some (.int .u32 imm) := fun wk h => by rw [(bcell (show Below _ _ _ from h)).1 _ _ (by simp; try omega)]; simp [go_sem]
    have hn : ∀ wk, Since ((w.alloc (.cells #[.slice ta ts.length tc] 22)).alloc (.cells #[.int .i64 0, .int .i64 width, .int .i64 flags, .slice a args.length c, .int .u32 imm] 47)) wk → Nds wk (.slice ta ts.length tc) ts := fun wk h => HT.out.stays (below_box (below_box h))
    have hin : ∀ wk, Since ((w.alloc (.cells #[.slice ta ts.length tc] 22)).alloc (.cells #[.int .i64 0, .int .i64 width, .int .i64 flags, .slice a args.length c, .int .u32 imm] 47)) wk → Ints .i64 wk (.slice a args.length c) args := fun wk h => HV.out.stays (below_box (below_box h))
    go_enter Try.func47, Try.ntmps47
    go_wp2_with fail
    go_ret
    exact ⟨rfl, by repeat (first | with_reducible exact Below.refl _ _ | with_reducible refine below_drewN ?_ _ | with_reducible refine Below.alloc ?_ (by simp; try omega) _)⟩
  · clear hlen hpos e0
    have e : typed ts ⟨33, width, flags, args, imm⟩ = true := by simp [typed]
    rw [e]
    clear e
    have h00 := Since.refl ((w.alloc (.cells #[.slice ta ts.length tc] 22)).alloc (.cells #[.int .i64 33, .int .i64 width, .int .i64 flags, .slice a args.length c, .int .u32 imm] 47))
    have l0 : ∀ wk, Since ((w.alloc (.cells #[.slice ta ts.length tc] 22)).alloc (.cells #[.int .i64 33, .int .i64 width, .int .i64 flags, .slice a args.length c, .int .u32 imm] 47)) wk → wk.cell? ⟨w.heap.size, 0, none⟩ = some (.slice ta ts.length tc) := fun wk h => by rw [(bcell (show Below _ _ _ from h)).1 _ _ (by simp; try omega)]; simp [go_sem]
    have l1 : ∀ wk, Since ((w.alloc (.cells #[.slice ta ts.length tc] 22)).alloc (.cells #[.int .i64 33, .int .i64 width, .int .i64 flags, .slice a args.length c, .int .u32 imm] 47)) wk → wk.cell? ⟨w.heap.size + 1, 0, none⟩ = some (.int .i64 33) := fun wk h => by rw [(bcell (show Below _ _ _ from h)).1 _ _ (by simp; try omega)]; simp [go_sem]
    have l2 : ∀ wk, Since ((w.alloc (.cells #[.slice ta ts.length tc] 22)).alloc (.cells #[.int .i64 33, .int .i64 width, .int .i64 flags, .slice a args.length c, .int .u32 imm] 47)) wk → wk.cell? ⟨w.heap.size + 1, 1, none⟩ = some (.int .i64 width) := fun wk h => by rw [(bcell (show Below _ _ _ from h)).1 _ _ (by simp; try omega)]; simp [go_sem]
    have l3 : ∀ wk, Since ((w.alloc (.cells #[.slice ta ts.length tc] 22)).alloc (.cells #[.int .i64 33, .int .i64 width, .int .i64 flags, .slice a args.length c, .int .u32 imm] 47)) wk → wk.cell? ⟨w.heap.size + 1, 2, none⟩ = some (.int .i64 flags) := fun wk h => by rw [(bcell (show Below _ _ _ from h)).1 _ _ (by simp; try omega)]; simp [go_sem]
    have l4 : ∀ wk, Since ((w.alloc (.cells #[.slice ta ts.length tc] 22)).alloc (.cells #[.int .i64 33, .int .i64 width, .int .i64 flags, .slice a args.length c, .int .u32 imm] 47)) wk → wk.cell? ⟨w.heap.size + 1, 3, none⟩ = some (.slice a args.length c) := fun wk h => by rw [(bcell (show Below _ _ _ from h)).1 _ _ (by simp; try omega)]; simp [go_sem]
    have l5 : ∀ wk, Since ((w.alloc (.cells #[.slice ta ts.length tc] 22)).alloc (.cells #[.int .i64 33, .int .i64 width, .int .i64 flags, .slice a args.length c, .int .u32 imm] 47)) wk → wk.cell? ⟨w.heap.size + 1, 4, none⟩ = some (.int .u32 imm) := fun wk h => by rw [(bcell (show Below _ _ _ from h)).1 _ _ (by simp; try omega)]; simp [go_sem]
    have hn : ∀ wk, Since ((w.alloc (.cells #[.slice ta ts.length tc] 22)).alloc (.cells #[.int .i64 33, .int .i64 width, .int .i64 flags, .slice a args.length c, .int .u32 imm] 47)) wk → Nds wk (.slice ta ts.length tc) ts := fun wk h => HT.out.stays (below_box (below_box h))
    have hin : ∀ wk, Since ((w.alloc (.cells #[.slice ta ts.length tc] 22)).alloc (.cells #[.int .i64 33, .int .i64 width, .int .i64 flags, .slice a args.length c, .int .u32 imm] 47)) wk → Ints .i64 wk (.slice a args.length c) args := fun wk h => HV.out.stays (below_box (below_box h))
    go_enter Try.func47, Try.ntmps47
    go_wp2_with fail
    go_ret
    exact ⟨rfl, by repeat (first | with_reducible exact Below.refl _ _ | with_reducible refine below_drewN ?_ _ | with_reducible refine Below.alloc ?_ (by simp; try omega) _)⟩
  · have n2 : 1 < args.length := by omega
    clear hlen hpos e0
    by_cases o14 : op = 14
    · subst o14
      have e : typed ts ⟨14, width, flags, args, imm⟩ = (wdt ts args 0 == wdt ts args 1) := by simp [typed]
      rw [e]
      clear e
      have h00 := Since.refl ((w.alloc (.cells #[.slice ta ts.length tc] 22)).alloc (.cells #[.int .i64 14, .int .i64 width, .int .i64 flags, .slice a args.length c, .int .u32 imm] 47))
      have l0 : ∀ wk, Since ((w.alloc (.cells #[.slice ta ts.length tc] 22)).alloc (.cells #[.int .i64 14, .int .i64 width, .int .i64 flags, .slice a args.length c, .int .u32 imm] 47)) wk → wk.cell? ⟨w.heap.size, 0, none⟩ = some (.slice ta ts.length tc) := fun wk h => by rw [(bcell (show Below _ _ _ from h)).1 _ _ (by simp; try omega)]; simp [go_sem]
      have l1 : ∀ wk, Since ((w.alloc (.cells #[.slice ta ts.length tc] 22)).alloc (.cells #[.int .i64 14, .int .i64 width, .int .i64 flags, .slice a args.length c, .int .u32 imm] 47)) wk → wk.cell? ⟨w.heap.size + 1, 0, none⟩ = some (.int .i64 14) := fun wk h => by rw [(bcell (show Below _ _ _ from h)).1 _ _ (by simp; try omega)]; simp [go_sem]
      have l2 : ∀ wk, Since ((w.alloc (.cells #[.slice ta ts.length tc] 22)).alloc (.cells #[.int .i64 14, .int .i64 width, .int .i64 flags, .slice a args.length c, .int .u32 imm] 47)) wk → wk.cell? ⟨w.heap.size + 1, 1, none⟩ = some (.int .i64 width) := fun wk h => by rw [(bcell (show Below _ _ _ from h)).1 _ _ (by simp; try omega)]; simp [go_sem]
      have l3 : ∀ wk, Since ((w.alloc (.cells #[.slice ta ts.length tc] 22)).alloc (.cells #[.int .i64 14, .int .i64 width, .int .i64 flags, .slice a args.length c, .int .u32 imm] 47)) wk → wk.cell? ⟨w.heap.size + 1, 2, none⟩ = some (.int .i64 flags) := fun wk h => by rw [(bcell (show Below _ _ _ from h)).1 _ _ (by simp; try omega)]; simp [go_sem]
      have l4 : ∀ wk, Since ((w.alloc (.cells #[.slice ta ts.length tc] 22)).alloc (.cells #[.int .i64 14, .int .i64 width, .int .i64 flags, .slice a args.length c, .int .u32 imm] 47)) wk → wk.cell? ⟨w.heap.size + 1, 3, none⟩ = some (.slice a args.length c) := fun wk h => by rw [(bcell (show Below _ _ _ from h)).1 _ _ (by simp; try omega)]; simp [go_sem]
      have l5 : ∀ wk, Since ((w.alloc (.cells #[.slice ta ts.length tc] 22)).alloc (.cells #[.int .i64 14, .int .i64 width, .int .i64 flags, .slice a args.length c, .int .u32 imm] 47)) wk → wk.cell? ⟨w.heap.size + 1, 4, none⟩ = some (.int .u32 imm) := fun wk h => by rw [(bcell (show Below _ _ _ from h)).1 _ _ (by simp; try omega)]; simp [go_sem]
      have hn : ∀ wk, Since ((w.alloc (.cells #[.slice ta ts.length tc] 22)).alloc (.cells #[.int .i64 14, .int .i64 width, .int .i64 flags, .slice a args.length c, .int .u32 imm] 47)) wk → Nds wk (.slice ta ts.length tc) ts := fun wk h => HT.out.stays (below_box (below_box h))
      have hin : ∀ wk, Since ((w.alloc (.cells #[.slice ta ts.length tc] 22)).alloc (.cells #[.int .i64 14, .int .i64 width, .int .i64 flags, .slice a args.length c, .int .u32 imm] 47)) wk → Ints .i64 wk (.slice a args.length c) args := fun wk h => HV.out.stays (below_box (below_box h))
      go_enter Try.func47, Try.ntmps47
      go_wp2_with fail
      go_at_call 76
      refine (typed1_0 ts args _ _ _ _ _ (l0 _ h00) (l4 _ h00) (hn _ h00) (hin _ h00) (by omega) HR.out).mono ?_
      rintro e w' ⟨rfl, m0, rfl⟩
      go_wp2_with fail
      go_at_call 76
      refine (typed1_1 ts args _ _ _ _ _ (l0 _ (h00.drewN _)) (l4 _ (h00.drewN _)) (hn _ (h00.drewN _)) (hin _ (h00.drewN _)) (by omega) HR.out).mono ?_
      rintro e w' ⟨rfl, m1, rfl⟩
      go_wp2_with fail
      go_ret
      exact ⟨rfl, by repeat (first | with_reducible exact Below.refl _ _ | with_reducible refine below_drewN ?_ _ | with_reducible refine Below.alloc ?_ (by simp; try omega) _)⟩
    · have h13 : op ≤ 13 := by omega
      have q0 : decide (1 ≤ op) = true := by simp; omega
      have q1 : decide (op ≤ 13) = true := by simp; omega
      clear o14 h2
      cases c1 : (wdt ts args 0 == width)
      · have e : typed ts ⟨op, width, flags, args, imm⟩ = false := by simp [typed, h1, h13, c1]
        rw [e]
        clear e
        have h00 := Since.refl ((w.alloc (.cells #[.slice ta ts.length tc] 22)).alloc (.cells #[.int .i64 op, .int .i64 width, .int .i64 flags, .slice a args.length c, .int .u32 imm] 47))
        have l0 : ∀ wk, Since ((w.alloc (.cells #[.slice ta ts.length tc] 22)).alloc (.cells #[.int .i64 op, .int .i64 width, .int .i64 flags, .slice a args.length c, .int .u32 imm] 47)) wk → wk.cell? ⟨w.heap.size, 0, none⟩ = some (.slice ta ts.length tc) := fun wk h => by rw [(bcell (show Below _ _ _ from h)).1 _ _ (by simp; try omega)]; simp [go_sem]
        have l1 : ∀ wk, Since ((w.alloc (.cells #[.slice ta ts.length tc] 22)).alloc (.cells #[.int .i64 op, .int .i64 width, .int .i64 flags, .slice a args.length c, .int .u32 imm] 47)) wk → wk.cell? ⟨w.heap.size + 1, 0, none⟩ = some (.int .i64 op) := fun wk h => by rw [(bcell (show Below _ _ _ from h)).1 _ _ (by simp; try omega)]; simp [go_sem]
        have l2 : ∀ wk, Since ((w.alloc (.cells #[.slice ta ts.length tc] 22)).alloc (.cells #[.int .i64 op, .int .i64 width, .int .i64 flags, .slice a args.length c, .int .u32 imm] 47)) wk → wk.cell? ⟨w.heap.size + 1, 1, none⟩ = some (.int .i64 width) := fun wk h => by rw [(bcell (show Below _ _ _ from h)).1 _ _ (by simp; try omega)]; simp [go_sem]
        have l3 : ∀ wk, Since ((w.alloc (.cells #[.slice ta ts.length tc] 22)).alloc (.cells #[.int .i64 op, .int .i64 width, .int .i64 flags, .slice a args.length c, .int .u32 imm] 47)) wk → wk.cell? ⟨w.heap.size + 1, 2, none⟩ = some (.int .i64 flags) := fun wk h => by rw [(bcell (show Below _ _ _ from h)).1 _ _ (by simp; try omega)]; simp [go_sem]
        have l4 : ∀ wk, Since ((w.alloc (.cells #[.slice ta ts.length tc] 22)).alloc (.cells #[.int .i64 op, .int .i64 width, .int .i64 flags, .slice a args.length c, .int .u32 imm] 47)) wk → wk.cell? ⟨w.heap.size + 1, 3, none⟩ = some (.slice a args.length c) := fun wk h => by rw [(bcell (show Below _ _ _ from h)).1 _ _ (by simp; try omega)]; simp [go_sem]
        have l5 : ∀ wk, Since ((w.alloc (.cells #[.slice ta ts.length tc] 22)).alloc (.cells #[.int .i64 op, .int .i64 width, .int .i64 flags, .slice a args.length c, .int .u32 imm] 47)) wk → wk.cell? ⟨w.heap.size + 1, 4, none⟩ = some (.int .u32 imm) := fun wk h => by rw [(bcell (show Below _ _ _ from h)).1 _ _ (by simp; try omega)]; simp [go_sem]
        have hn : ∀ wk, Since ((w.alloc (.cells #[.slice ta ts.length tc] 22)).alloc (.cells #[.int .i64 op, .int .i64 width, .int .i64 flags, .slice a args.length c, .int .u32 imm] 47)) wk → Nds wk (.slice ta ts.length tc) ts := fun wk h => HT.out.stays (below_box (below_box h))
        have hin : ∀ wk, Since ((w.alloc (.cells #[.slice ta ts.length tc] 22)).alloc (.cells #[.int .i64 op, .int .i64 width, .int .i64 flags, .slice a args.length c, .int .u32 imm] 47)) wk → Ints .i64 wk (.slice a args.length c) args := fun wk h => HV.out.stays (below_box (below_box h))
        go_enter Try.func47, Try.ntmps47
        go_wp2_with fail
        go_quiet (first | (go_at_call 76; with_reducible exact Calls.quiet_of (typed1_0 ts args _ _ _ _ _ (l0 _ (h00.drewN _)) (l4 _ (h00.drewN _)) (hn _ (h00.drewN _)) (hin _ (h00.drewN _)) (by omega) HR.out)) | (go_at_call 76; with_reducible exact Calls.quiet_of (typed1_1 ts args _ _ _ _ _ (l0 _ (h00.drewN _)) (l4 _ (h00.drewN _)) (hn _ (h00.drewN _)) (hin _ (h00.drewN _)) (by omega) HR.out)))
        go_wp2_with fail
        go_ret
        exact ⟨rfl, by repeat (first | with_reducible exact Below.refl _ _ | with_reducible refine below_drewN ?_ _ | with_reducible refine Below.alloc ?_ (by simp; try omega) _)⟩
      · have e : typed ts ⟨op, width, flags, args, imm⟩ = (wdt ts args 1 == width) := by simp [typed, h1, h13, c1]
        rw [e]
        clear e
        have h00 := Since.refl ((w.alloc (.cells #[.slice ta ts.length tc] 22)).alloc (.cells #[.int .i64 op, .int .i64 width, .int .i64 flags, .slice a args.length c, .int .u32 imm] 47))
        have l0 : ∀ wk, Since ((w.alloc (.cells #[.slice ta ts.length tc] 22)).alloc (.cells #[.int .i64 op, .int .i64 width, .int .i64 flags, .slice a args.length c, .int .u32 imm] 47)) wk → wk.cell? ⟨w.heap.size, 0, none⟩ = some (.slice ta ts.length tc) := fun wk h => by rw [(bcell (show Below _ _ _ from h)).1 _ _ (by simp; try omega)]; simp [go_sem]
        have l1 : ∀ wk, Since ((w.alloc (.cells #[.slice ta ts.length tc] 22)).alloc (.cells #[.int .i64 op, .int .i64 width, .int .i64 flags, .slice a args.length c, .int .u32 imm] 47)) wk → wk.cell? ⟨w.heap.size + 1, 0, none⟩ = some (.int .i64 op) := fun wk h => by rw [(bcell (show Below _ _ _ from h)).1 _ _ (by simp; try omega)]; simp [go_sem]
        have l2 : ∀ wk, Since ((w.alloc (.cells #[.slice ta ts.length tc] 22)).alloc (.cells #[.int .i64 op, .int .i64 width, .int .i64 flags, .slice a args.length c, .int .u32 imm] 47)) wk → wk.cell? ⟨w.heap.size + 1, 1, none⟩ = some (.int .i64 width) := fun wk h => by rw [(bcell (show Below _ _ _ from h)).1 _ _ (by simp; try omega)]; simp [go_sem]
        have l3 : ∀ wk, Since ((w.alloc (.cells #[.slice ta ts.length tc] 22)).alloc (.cells #[.int .i64 op, .int .i64 width, .int .i64 flags, .slice a args.length c, .int .u32 imm] 47)) wk → wk.cell? ⟨w.heap.size + 1, 2, none⟩ = some (.int .i64 flags) := fun wk h => by rw [(bcell (show Below _ _ _ from h)).1 _ _ (by simp; try omega)]; simp [go_sem]
        have l4 : ∀ wk, Since ((w.alloc (.cells #[.slice ta ts.length tc] 22)).alloc (.cells #[.int .i64 op, .int .i64 width, .int .i64 flags, .slice a args.length c, .int .u32 imm] 47)) wk → wk.cell? ⟨w.heap.size + 1, 3, none⟩ = some (.slice a args.length c) := fun wk h => by rw [(bcell (show Below _ _ _ from h)).1 _ _ (by simp; try omega)]; simp [go_sem]
        have l5 : ∀ wk, Since ((w.alloc (.cells #[.slice ta ts.length tc] 22)).alloc (.cells #[.int .i64 op, .int .i64 width, .int .i64 flags, .slice a args.length c, .int .u32 imm] 47)) wk → wk.cell? ⟨w.heap.size + 1, 4, none⟩ = some (.int .u32 imm) := fun wk h => by rw [(bcell (show Below _ _ _ from h)).1 _ _ (by simp; try omega)]; simp [go_sem]
        have hn : ∀ wk, Since ((w.alloc (.cells #[.slice ta ts.length tc] 22)).alloc (.cells #[.int .i64 op, .int .i64 width, .int .i64 flags, .slice a args.length c, .int .u32 imm] 47)) wk → Nds wk (.slice ta ts.length tc) ts := fun wk h => HT.out.stays (below_box (below_box h))
        have hin : ∀ wk, Since ((w.alloc (.cells #[.slice ta ts.length tc] 22)).alloc (.cells #[.int .i64 op, .int .i64 width, .int .i64 flags, .slice a args.length c, .int .u32 imm] 47)) wk → Ints .i64 wk (.slice a args.length c) args := fun wk h => HV.out.stays (below_box (below_box h))
        go_enter Try.func47, Try.ntmps47
        go_wp2_with fail
        go_quiet (first | (go_at_call 76; with_reducible exact Calls.quiet_of (typed1_0 ts args _ _ _ _ _ (l0 _ (h00.drewN _)) (l4 _ (h00.drewN _)) (hn _ (h00.drewN _)) (hin _ (h00.drewN _)) (by omega) HR.out)) | (go_at_call 76; with_reducible exact Calls.quiet_of (typed1_1 ts args _ _ _ _ _ (l0 _ (h00.drewN _)) (l4 _ (h00.drewN _)) (hn _ (h00.drewN _)) (hin _ (h00.drewN _)) (by omega) HR.out)))
        go_wp2_with fail
        go_ret
        exact ⟨rfl, by repeat (first | with_reducible exact Below.refl _ _ | with_reducible refine below_drewN ?_ _ | with_reducible refine Below.alloc ?_ (by simp; try omega) _)⟩
  · have n3 : 2 < args.length := by omega
    clear hlen hpos e0
    cases c1 : (wdt ts args 0 == 1)
    · have e : typed ts ⟨15, width, flags, args, imm⟩ = false := by simp [typed, c1]
      rw [e]
      clear e
      have h00 := Since.refl ((w.alloc (.cells #[.slice ta ts.length tc] 22)).alloc (.cells #[.int .i64 15, .int .i64 width, .int .i64 flags, .slice a args.length c, .int .u32 imm] 47))
      have l0 : ∀ wk, Since ((w.alloc (.cells #[.slice ta ts.length tc] 22)).alloc (.cells #[.int .i64 15, .int .i64 width, .int .i64 flags, .slice a args.length c, .int .u32 imm] 47)) wk → wk.cell? ⟨w.heap.size, 0, none⟩ = some (.slice ta ts.length tc) := fun wk h => by rw [(bcell (show Below _ _ _ from h)).1 _ _ (by simp; try omega)]; simp [go_sem]
      have l1 : ∀ wk, Since ((w.alloc (.cells #[.slice ta ts.length tc] 22)).alloc (.cells #[.int .i64 15, .int .i64 width, .int .i64 flags, .slice a args.length c, .int .u32 imm] 47)) wk → wk.cell? ⟨w.heap.size + 1, 0, none⟩ = some (.int .i64 15) := fun wk h => by rw [(bcell (show Below _ _ _ from h)).1 _ _ (by simp; try omega)]; simp [go_sem]
      have l2 : ∀ wk, Since ((w.alloc (.cells #[.slice ta ts.length tc] 22)).alloc (.cells #[.int .i64 15, .int .i64 width, .int .i64 flags, .slice a args.length c, .int .u32 imm] 47)) wk → wk.cell? ⟨w.heap.size + 1, 1, none⟩ = some (.int .i64 width) := fun wk h => by rw [(bcell (show Below _ _ _ from h)).1 _ _ (by simp; try omega)]; simp [go_sem]
      have l3 : ∀ wk, Since ((w.alloc (.cells #[.slice ta ts.length tc] 22)).alloc (.cells #[.int .i64 15, .int .i64 width, .int .i64 flags, .slice a args.length c, .int .u32 imm] 47)) wk → wk.cell? ⟨w.heap.size + 1, 2, none⟩ = some (.int .i64 flags) := fun wk h => by rw [(bcell (show Below _ _ _ from h)).1 _ _ (by simp; try omega)]; simp [go_sem]
      have l4 : ∀ wk, Since ((w.alloc (.cells #[.slice ta ts.length tc] 22)).alloc (.cells #[.int .i64 15, .int .i64 width, .int .i64 flags, .slice a args.length c, .int .u32 imm] 47)) wk → wk.cell? ⟨w.heap.size + 1, 3, none⟩ = some (.slice a args.length c) := fun wk h => by rw [(bcell (show Below _ _ _ from h)).1 _ _ (by simp; try omega)]; simp [go_sem]
      have l5 : ∀ wk, Since ((w.alloc (.cells #[.slice ta ts.length tc] 22)).alloc (.cells #[.int .i64 15, .int .i64 width, .int .i64 flags, .slice a args.length c, .int .u32 imm] 47)) wk → wk.cell? ⟨w.heap.size + 1, 4, none⟩ = some (.int .u32 imm) := fun wk h => by rw [(bcell (show Below _ _ _ from h)).1 _ _ (by simp; try omega)]; simp [go_sem]
      have hn : ∀ wk, Since ((w.alloc (.cells #[.slice ta ts.length tc] 22)).alloc (.cells #[.int .i64 15, .int .i64 width, .int .i64 flags, .slice a args.length c, .int .u32 imm] 47)) wk → Nds wk (.slice ta ts.length tc) ts := fun wk h => HT.out.stays (below_box (below_box h))
      have hin : ∀ wk, Since ((w.alloc (.cells #[.slice ta ts.length tc] 22)).alloc (.cells #[.int .i64 15, .int .i64 width, .int .i64 flags, .slice a args.length c, .int .u32 imm] 47)) wk → Ints .i64 wk (.slice a args.length c) args := fun wk h => HV.out.stays (below_box (below_box h))
      go_enter Try.func47, Try.ntmps47
      go_wp2_with fail
      go_quiet (first | (go_at_call 76; with_reducible exact Calls.quiet_of (typed1_0 ts args _ _ _ _ _ (l0 _ (h00.drewN _)) (l4 _ (h00.drewN _)) (hn _ (h00.drewN _)) (hin _ (h00.drewN _)) (by omega) HR.out)) | (go_at_call 76; with_reducible exact Calls.quiet_of (typed1_1 ts args _ _ _ _ _ (l0 _ (h00.drewN _)) (l4 _ (h00.drewN _)) (hn _ (h00.drewN _)) (hin _ (h00.drewN _)) (by omega) HR.out)) | (go_at_call 76; with_reducible exact Calls.quiet_of (typed1_2 ts args _ _ _ _ _ (l0 _ (h00.drewN _)) (l4 _ (h00.drewN _)) (hn _ (h00.drewN _)) (hin _ (h00.drewN _)) (by omega) HR.out)))
      go_wp2_with fail
      go_ret
      exact ⟨rfl, by repeat (first | with_reducible exact Below.refl _ _ | with_reducible refine below_drewN ?_ _ | with_reducible refine Below.alloc ?_ (by simp; try omega) _)⟩
    · cases c2 : (wdt ts args 1 == width)
      · have e : typed ts ⟨15, width, flags, args, imm⟩ = false := by simp [typed, c1, c2]
        rw [e]
        clear e
        have h00 := Since.refl ((w.alloc (.cells #[.slice ta ts.length tc] 22)).alloc (.cells #[.int .i64 15, .int .i64 width, .int .i64 flags, .slice a args.length c, .int .u32 imm] 47))
        have l0 : ∀ wk, Since ((w.alloc (.cells #[.slice ta ts.length tc] 22)).alloc (.cells #[.int .i64 15, .int .i64 width, .int .i64 flags, .slice a args.length c, .int .u32 imm] 47)) wk → wk.cell? ⟨w.heap.size, 0, none⟩ = some (.slice ta ts.length tc) := fun wk h => by rw [(bcell (show Below _ _ _ from h)).1 _ _ (by simp; try omega)]; simp [go_sem]
        have l1 : ∀ wk, Since ((w.alloc (.cells #[.slice ta ts.length tc] 22)).alloc (.cells #[.int .i64 15, .int .i64 width, .int .i64 flags, .slice a args.length c, .int .u32 imm] 47)) wk → wk.cell? ⟨w.heap.size + 1, 0, none⟩ = some (.int .i64 15) := fun wk h => by rw [(bcell (show Below _ _ _ from h)).1 _ _ (by simp; try omega)]; simp [go_sem]
        have l2 : ∀ wk, Since ((w.alloc (.cells #[.slice ta ts.length tc] 22)).alloc (.cells #[.int .i64 15, .int .i64 width, .int .i64 flags, .slice a args.length c, .int .u32 imm] 47)) wk → wk.cell? ⟨w.heap.size + 1, 1, none⟩ = some (.int .i64 width) := fun wk h => by rw [(bcell (show Below _ _ _ from h)).1 _ _ (by simp; try omega)]; simp [go_sem]
        have l3 : ∀ wk, Since ((w.alloc (.cells #[.slice ta ts.length tc] 22)).alloc (.cells #[.int .i64 15, .int .i64 width, .int .i64 flags, .slice a args.length c, .int .u32 imm] 47)) wk → wk.cell? ⟨w.heap.size + 1, 2, none⟩ = some (.int .i64 flags) := fun wk h => by rw [(bcell (show Below _ _ _ from h)).1 _ _ (by simp; try omega)]; simp [go_sem]
        have l4 : ∀ wk, Since ((w.alloc (.cells #[.slice ta ts.length tc] 22)).alloc (.cells #[.int .i64 15, .int .i64 width, .int .i64 flags, .slice a args.length c, .int .u32 imm] 47)) wk → wk.cell? ⟨w.heap.size + 1, 3, none⟩ = some (.slice a args.length c) := fun wk h => by rw [(bcell (show Below _ _ _ from h)).1 _ _ (by simp; try omega)]; simp [go_sem]
        have l5 : ∀ wk, Since ((w.alloc (.cells #[.slice ta ts.length tc] 22)).alloc (.cells #[.int .i64 15, .int .i64 width, .int .i64 flags, .slice a args.length c, .int .u32 imm] 47)) wk → wk.cell? ⟨w.heap.size + 1, 4, none⟩ = some (.int .u32 imm) := fun wk h => by rw [(bcell (show Below _ _ _ from h)).1 _ _ (by simp; try omega)]; simp [go_sem]
        have hn : ∀ wk, Since ((w.alloc (.cells #[.slice ta ts.length tc] 22)).alloc (.cells #[.int .i64 15, .int .i64 width, .int .i64 flags, .slice a args.length c, .int .u32 imm] 47)) wk → Nds wk (.slice ta ts.length tc) ts := fun wk h => HT.out.stays (below_box (below_box h))
        have hin : ∀ wk, Since ((w.alloc (.cells #[.slice ta ts.length tc] 22)).alloc (.cells #[.int .i64 15, .int .i64 width, .int .i64 flags, .slice a args.length c, .int .u32 imm] 47)) wk → Ints .i64 wk (.slice a args.length c) args := fun wk h => HV.out.stays (below_box (below_box h))
        go_enter Try.func47, Try.ntmps47
        go_wp2_with fail
        go_quiet (first | (go_at_call 76; with_reducible exact Calls.quiet_of (typed1_0 ts args _ _ _ _ _ (l0 _ (h00.drewN _)) (l4 _ (h00.drewN _)) (hn _ (h00.drewN _)) (hin _ (h00.drewN _)) (by omega) HR.out)) | (go_at_call 76; with_reducible exact Calls.quiet_of (typed1_1 ts args _ _ _ _ _ (l0 _ (h00.drewN _)) (l4 _ (h00.drewN _)) (hn _ (h00.drewN _)) (hin _ (h00.drewN _)) (by omega) HR.out)) | (go_at_call 76; with_reducible exact Calls.quiet_of (typed1_2 ts args _ _ _ _ _ (l0 _ (h00.drewN _)) (l4 _ (h00.drewN _)) (hn _ (h00.drewN _)) (hin _ (h00.drewN _)) (by omega) HR.out)))
        go_wp2_with fail
        go_ret
        exact ⟨rfl, by repeat (first | with_reducible exact Below.refl _ _ | with_reducible refine below_drewN ?_ _ | with_reducible refine Below.alloc ?_ (by simp; try omega) _)⟩
      · have e : typed ts ⟨15, width, flags, args, imm⟩ = (wdt ts args 2 == width) := by simp [typed, c1, c2]
        rw [e]
        clear e
        have h00 := Since.refl ((w.alloc (.cells #[.slice ta ts.length tc] 22)).alloc (.cells #[.int .i64 15, .int .i64 width, .int .i64 flags, .slice a args.length c, .int .u32 imm] 47))
        have l0 : ∀ wk, Since ((w.alloc (.cells #[.slice ta ts.length tc] 22)).alloc (.cells #[.int .i64 15, .int .i64 width, .int .i64 flags, .slice a args.length c, .int .u32 imm] 47)) wk → wk.cell? ⟨w.heap.size, 0, none⟩ = some (.slice ta ts.length tc) := fun wk h => by rw [(bcell (show Below _ _ _ from h)).1 _ _ (by simp; try omega)]; simp [go_sem]
        have l1 : ∀ wk, Since ((w.alloc (.cells #[.slice ta ts.length tc] 22)).alloc (.cells #[.int .i64 15, .int .i64 width, .int .i64 flags, .slice a args.length c, .int .u32 imm] 47)) wk → wk.cell? ⟨w.heap.size + 1, 0, none⟩ = some (.int .i64 15) := fun wk h => by rw [(bcell (show Below _ _ _ from h)).1 _ _ (by simp; try omega)]; simp [go_sem]
        have l2 : ∀ wk, Since ((w.alloc (.cells #[.slice ta ts.length tc] 22)).alloc (.cells #[.int .i64 15, .int .i64 width, .int .i64 flags, .slice a args.length c, .int .u32 imm] 47)) wk → wk.cell? ⟨w.heap.size + 1, 1, none⟩ = some (.int .i64 width) := fun wk h => by rw [(bcell (show Below _ _ _ from h)).1 _ _ (by simp; try omega)]; simp [go_sem]
        have l3 : ∀ wk, Since ((w.alloc (.cells #[.slice ta ts.length tc] 22)).alloc (.cells #[.int .i64 15, .int .i64 width, .int .i64 flags, .slice a args.length c, .int .u32 imm] 47)) wk → wk.cell? ⟨w.heap.size + 1, 2, none⟩ = some (.int .i64 flags) := fun wk h => by rw [(bcell (show Below _ _ _ from h)).1 _ _ (by simp; try omega)]; simp [go_sem]
        have l4 : ∀ wk, Since ((w.alloc (.cells #[.slice ta ts.length tc] 22)).alloc (.cells #[.int .i64 15, .int .i64 width, .int .i64 flags, .slice a args.length c, .int .u32 imm] 47)) wk → wk.cell? ⟨w.heap.size + 1, 3, none⟩ = some (.slice a args.length c) := fun wk h => by rw [(bcell (show Below _ _ _ from h)).1 _ _ (by simp; try omega)]; simp [go_sem]
        have l5 : ∀ wk, Since ((w.alloc (.cells #[.slice ta ts.length tc] 22)).alloc (.cells #[.int .i64 15, .int .i64 width, .int .i64 flags, .slice a args.length c, .int .u32 imm] 47)) wk → wk.cell? ⟨w.heap.size + 1, 4, none⟩ = some (.int .u32 imm) := fun wk h => by rw [(bcell (show Below _ _ _ from h)).1 _ _ (by simp; try omega)]; simp [go_sem]
        have hn : ∀ wk, Since ((w.alloc (.cells #[.slice ta ts.length tc] 22)).alloc (.cells #[.int .i64 15, .int .i64 width, .int .i64 flags, .slice a args.length c, .int .u32 imm] 47)) wk → Nds wk (.slice ta ts.length tc) ts := fun wk h => HT.out.stays (below_box (below_box h))
        have hin : ∀ wk, Since ((w.alloc (.cells #[.slice ta ts.length tc] 22)).alloc (.cells #[.int .i64 15, .int .i64 width, .int .i64 flags, .slice a args.length c, .int .u32 imm] 47)) wk → Ints .i64 wk (.slice a args.length c) args := fun wk h => HV.out.stays (below_box (below_box h))
        go_enter Try.func47, Try.ntmps47
        go_wp2_with fail
        go_quiet (first | (go_at_call 76; with_reducible exact Calls.quiet_of (typed1_0 ts args _ _ _ _ _ (l0 _ (h00.drewN _)) (l4 _ (h00.drewN _)) (hn _ (h00.drewN _)) (hin _ (h00.drewN _)) (by omega) HR.out)) | (go_at_call 76; with_reducible exact Calls.quiet_of (typed1_1 ts args _ _ _ _ _ (l0 _ (h00.drewN _)) (l4 _ (h00.drewN _)) (hn _ (h00.drewN _)) (hin _ (h00.drewN _)) (by omega) HR.out)) | (go_at_call 76; with_reducible exact Calls.quiet_of (typed1_2 ts args _ _ _ _ _ (l0 _ (h00.drewN _)) (l4 _ (h00.drewN _)) (hn _ (h00.drewN _)) (hin _ (h00.drewN _)) (by omega) HR.out)))
        go_wp2_with fail
        go_ret
        exact ⟨rfl, by repeat (first | with_reducible exact Below.refl _ _ | with_reducible refine below_drewN ?_ _ | with_reducible refine Below.alloc ?_ (by simp; try omega) _)⟩
  · have n1 : 0 < args.length := by omega
    clear hlen hpos e0
    have h3 : op = 16 ∨ op = 17 ∨ op = 18 := by omega
    rcases h3 with rfl | rfl | rfl
    · have e : typed ts ⟨16, width, flags, args, imm⟩ = decide (wdt ts args 0 < width) := by simp [typed]
      rw [e]
      clear e
      have h00 := Since.refl ((w.alloc (.cells #[.slice ta ts.length tc] 22)).alloc (.cells #[.int .i64 16, .int .i64 width, .int .i64 flags, .slice a args.length c, .int .u32 imm] 47))
      have l0 : ∀ wk, Since ((w.alloc (.cells #[.slice ta ts.length tc] 22)).alloc (.cells #[.int .i64 16, .int .i64 width, .int .i64 flags, .slice a args.length c, .int .u32 imm] 47)) wk → wk.cell? ⟨w.heap.size, 0, none⟩ = some (.slice ta ts.length tc) := fun wk h => by rw [(bcell (show Below _ _ _ from h)).1 _ _ (by simp; try omega)]; simp [go_sem]
      have l1 : ∀ wk, Since ((w.alloc (.cells #[.slice ta ts.length tc] 22)).alloc (.cells #[.int .i64 16, .int .i64 width, .int .i64 flags, .slice a args.length c, .int .u32 imm] 47)) wk → wk.cell? ⟨w.heap.size + 1, 0, none⟩ = some (.int .i64 16) := fun wk h => by rw [(bcell (show Below _ _ _ from h)).1 _ _ (by simp; try omega)]; simp [go_sem]
      have l2 : ∀ wk, Since ((w.alloc (.cells #[.slice ta ts.length tc] 22)).alloc (.cells #[.int .i64 16, .int .i64 width, .int .i64 flags, .slice a args.length c, .int .u32 imm] 47)) wk → wk.cell? ⟨w.heap.size + 1, 1, none⟩ = some (.int .i64 width) := fun wk h => by rw [(bcell (show Below _ _ _ from h)).1 _ _ (by simp; try omega)]; simp [go_sem]
      have l3 : ∀ wk, Since ((w.alloc (.cells #[.slice ta ts.length tc] 22)).alloc (.cells #[.int .i64 16, .int .i64 width, .int .i64 flags, .slice a args.length c, .int .u32 imm] 47)) wk → wk.cell? ⟨w.heap.size + 1, 2, none⟩ = some (.int .i64 flags) := fun wk h => by rw [(bcell (show Below _ _ _ from h)).1 _ _ (by simp; try omega)]; simp [go_sem]
      have l4 : ∀ wk, Since ((w.alloc (.cells #[.slice ta ts.length tc] 22)).alloc (.cells #[.int .i64 16, .int .i64 width, .int .i64 flags, .slice a args.length c, .int .u32 imm] 47)) wk → wk.cell? ⟨w.heap.size + 1, 3, none⟩ = some (.slice a args.length c) := fun wk h => by rw [(bcell (show Below _ _ _ from h)).1 _ _ (by simp; try omega)]; simp [go_sem]
      have l5 : ∀ wk, Since ((w.alloc (.cells #[.slice ta ts.length tc] 22)).alloc (.cells #[.int .i64 16, .int .i64 width, .int .i64 flags, .slice a args.length c, .int .u32 imm] 47)) wk → wk.cell? ⟨w.heap.size + 1, 4, none⟩ = some (.int .u32 imm) := fun wk h => by rw [(bcell (show Below _ _ _ from h)).1 _ _ (by simp; try omega)]; simp [go_sem]
      have hn : ∀ wk, Since ((w.alloc (.cells #[.slice ta ts.length tc] 22)).alloc (.cells #[.int .i64 16, .int .i64 width, .int .i64 flags, .slice a args.length c, .int .u32 imm] 47)) wk → Nds wk (.slice ta ts.length tc) ts := fun wk h => HT.out.stays (below_box (below_box h))
      have hin : ∀ wk, Since ((w.alloc (.cells #[.slice ta ts.length tc] 22)).alloc (.cells #[.int .i64 16, .int .i64 width, .int .i64 flags, .slice a args.length c, .int .u32 imm] 47)) wk → Ints .i64 wk (.slice a args.length c) args := fun wk h => HV.out.stays (below_box (below_box h))
      go_enter Try.func47, Try.ntmps47
      go_wp2_with fail
      go_quiet (first | (go_at_call 76; with_reducible exact Calls.quiet_of (typed1_0 ts args _ _ _ _ _ (l0 _ (h00.drewN _)) (l4 _ (h00.drewN _)) (hn _ (h00.drewN _)) (hin _ (h00.drewN _)) (by omega) HR.out)))
      go_wp2_with fail
      go_ret
      exact ⟨rfl, by repeat (first | with_reducible exact Below.refl _ _ | with_reducible refine below_drewN ?_ _ | with_reducible refine Below.alloc ?_ (by simp; try omega) _)⟩
    · have e : typed ts ⟨17, width, flags, args, imm⟩ = decide (wdt ts args 0 < width) := by simp [typed]
      rw [e]
      clear e
      have h00 := Since.refl ((w.alloc (.cells #[.slice ta ts.length tc] 22)).alloc (.cells #[.int .i64 17, .int .i64 width, .int .i64 flags, .slice a args.length c, .int .u32 imm] 47))
      have l0 : ∀ wk, Since ((w.alloc (.cells #[.slice ta ts.length tc] 22)).alloc (.cells #[.int .i64 17, .int .i64 width, .int .i64 flags, .slice a args.length c, .int .u32 imm] 47)) wk → wk.cell? ⟨w.heap.size, 0, none⟩ = some (.slice ta ts.length tc) := fun wk h => by rw [(bcell (show Below _ _ _ from h)).1 _ _ (by simp; try omega)]; simp [go_sem]
      have l1 : ∀ wk, Since ((w.alloc (.cells #[.slice ta ts.length tc] 22)).alloc (.cells #[.int .i64 17, .int .i64 width, .int .i64 flags, .slice a args.length c, .int .u32 imm] 47)) wk → wk.cell? ⟨w.heap.size + 1, 0, none⟩ = some (.int .i64 17) := fun wk h => by rw [(bcell (show Below _ _ _ from h)).1 _ _ (by simp; try omega)]; simp [go_sem]
      have l2 : ∀ wk, Since ((w.alloc (.cells #[.slice ta ts.length tc] 22)).alloc (.cells #[.int .i64 17, .int .i64 width, .int .i64 flags, .slice a args.length c, .int .u32 imm] 47)) wk → wk.cell? ⟨w.heap.size + 1, 1, none⟩ = some (.int .i64 width) := fun wk h => by rw [(bcell (show Below _ _ _ from h)).1 _ _ (by simp; try omega)]; simp [go_sem]
      have l3 : ∀ wk, Since ((w.alloc (.cells #[.slice ta ts.length tc] 22)).alloc (.cells #[.int .i64 17, .int .i64 width, .int .i64 flags, .slice a args.length c, .int .u32 imm] 47)) wk → wk.cell? ⟨w.heap.size + 1, 2, none⟩ = some (.int .i64 flags) := fun wk h => by rw [(bcell (show Below _ _ _ from h)).1 _ _ (by simp; try omega)]; simp [go_sem]
      have l4 : ∀ wk, Since ((w.alloc (.cells #[.slice ta ts.length tc] 22)).alloc (.cells #[.int .i64 17, .int .i64 width, .int .i64 flags, .slice a args.length c, .int .u32 imm] 47)) wk → wk.cell? ⟨w.heap.size + 1, 3, none⟩ = some (.slice a args.length c) := fun wk h => by rw [(bcell (show Below _ _ _ from h)).1 _ _ (by simp; try omega)]; simp [go_sem]
      have l5 : ∀ wk, Since ((w.alloc (.cells #[.slice ta ts.length tc] 22)).alloc (.cells #[.int .i64 17, .int .i64 width, .int .i64 flags, .slice a args.length c, .int .u32 imm] 47)) wk → wk.cell? ⟨w.heap.size + 1, 4, none⟩ = some (.int .u32 imm) := fun wk h => by rw [(bcell (show Below _ _ _ from h)).1 _ _ (by simp; try omega)]; simp [go_sem]
      have hn : ∀ wk, Since ((w.alloc (.cells #[.slice ta ts.length tc] 22)).alloc (.cells #[.int .i64 17, .int .i64 width, .int .i64 flags, .slice a args.length c, .int .u32 imm] 47)) wk → Nds wk (.slice ta ts.length tc) ts := fun wk h => HT.out.stays (below_box (below_box h))
      have hin : ∀ wk, Since ((w.alloc (.cells #[.slice ta ts.length tc] 22)).alloc (.cells #[.int .i64 17, .int .i64 width, .int .i64 flags, .slice a args.length c, .int .u32 imm] 47)) wk → Ints .i64 wk (.slice a args.length c) args := fun wk h => HV.out.stays (below_box (below_box h))
      go_enter Try.func47, Try.ntmps47
      go_wp2_with fail
      go_quiet (first | (go_at_call 76; with_reducible exact Calls.quiet_of (typed1_0 ts args _ _ _ _ _ (l0 _ (h00.drewN _)) (l4 _ (h00.drewN _)) (hn _ (h00.drewN _)) (hin _ (h00.drewN _)) (by omega) HR.out)))
      go_wp2_with fail
      go_ret
      exact ⟨rfl, by repeat (first | with_reducible exact Below.refl _ _ | with_reducible refine below_drewN ?_ _ | with_reducible refine Below.alloc ?_ (by simp; try omega) _)⟩
    · have e : typed ts ⟨18, width, flags, args, imm⟩ = decide (width < wdt ts args 0) := by simp [typed]
      rw [e]
      clear e
      have h00 := Since.refl ((w.alloc (.cells #[.slice ta ts.length tc] 22)).alloc (.cells #[.int .i64 18, .int .i64 width, .int .i64 flags, .slice a args.length c, .int .u32 imm] 47))
      have l0 : ∀ wk, Since ((w.alloc (.cells #[.slice ta ts.length tc] 22)).alloc (.cells #[.int .i64 18, .int .i64 width, .int .i64 flags, .slice a args.length c, .int .u32 imm] 47)) wk → wk.cell? ⟨w.heap.size, 0, none⟩ = some (.slice ta ts.length tc) := fun wk h => by rw [(bcell (show Below _ _ _ from h)).1 _ _ (by simp; try omega)]; simp [go_sem]
      have l1 : ∀ wk, Since ((w.alloc (.cells #[.slice ta ts.length tc] 22)).alloc (.cells #[.int .i64 18, .int .i64 width, .int .i64 flags, .slice a args.length c, .int .u32 imm] 47)) wk → wk.cell? ⟨w.heap.size + 1, 0, none⟩ = some (.int .i64 18) := fun wk h => by rw [(bcell (show Below _ _ _ from h)).1 _ _ (by simp; try omega)]; simp [go_sem]
      have l2 : ∀ wk, Since ((w.alloc (.cells #[.slice ta ts.length tc] 22)).alloc (.cells #[.int .i64 18, .int .i64 width, .int .i64 flags, .slice a args.length c, .int .u32 imm] 47)) wk → wk.cell? ⟨w.heap.size + 1, 1, none⟩ = some (.int .i64 width) := fun wk h => by rw [(bcell (show Below _ _ _ from h)).1 _ _ (by simp; try omega)]; simp [go_sem]
      have l3 : ∀ wk, Since ((w.alloc (.cells #[.slice ta ts.length tc] 22)).alloc (.cells #[.int .i64 18, .int .i64 width, .int .i64 flags, .slice a args.length c, .int .u32 imm] 47)) wk → wk.cell? ⟨w.heap.size + 1, 2, none⟩ = some (.int .i64 flags) := fun wk h => by rw [(bcell (show Below _ _ _ from h)).1 _ _ (by simp; try omega)]; simp [go_sem]
      have l4 : ∀ wk, Since ((w.alloc (.cells #[.slice ta ts.length tc] 22)).alloc (.cells #[.int .i64 18, .int .i64 width, .int .i64 flags, .slice a args.length c, .int .u32 imm] 47)) wk → wk.cell? ⟨w.heap.size + 1, 3, none⟩ = some (.slice a args.length c) := fun wk h => by rw [(bcell (show Below _ _ _ from h)).1 _ _ (by simp; try omega)]; simp [go_sem]
      have l5 : ∀ wk, Since ((w.alloc (.cells #[.slice ta ts.length tc] 22)).alloc (.cells #[.int .i64 18, .int .i64 width, .int .i64 flags, .slice a args.length c, .int .u32 imm] 47)) wk → wk.cell? ⟨w.heap.size + 1, 4, none⟩ = some (.int .u32 imm) := fun wk h => by rw [(bcell (show Below _ _ _ from h)).1 _ _ (by simp; try omega)]; simp [go_sem]
      have hn : ∀ wk, Since ((w.alloc (.cells #[.slice ta ts.length tc] 22)).alloc (.cells #[.int .i64 18, .int .i64 width, .int .i64 flags, .slice a args.length c, .int .u32 imm] 47)) wk → Nds wk (.slice ta ts.length tc) ts := fun wk h => HT.out.stays (below_box (below_box h))
      have hin : ∀ wk, Since ((w.alloc (.cells #[.slice ta ts.length tc] 22)).alloc (.cells #[.int .i64 18, .int .i64 width, .int .i64 flags, .slice a args.length c, .int .u32 imm] 47)) wk → Ints .i64 wk (.slice a args.length c) args := fun wk h => HV.out.stays (below_box (below_box h))
      go_enter Try.func47, Try.ntmps47
      go_wp2_with fail
      go_quiet (first | (go_at_call 76; with_reducible exact Calls.quiet_of (typed1_0 ts args _ _ _ _ _ (l0 _ (h00.drewN _)) (l4 _ (h00.drewN _)) (hn _ (h00.drewN _)) (hin _ (h00.drewN _)) (by omega) HR.out)))
      go_wp2_with fail
      go_ret
      exact ⟨rfl, by repeat (first | with_reducible exact Below.refl _ _ | with_reducible refine below_drewN ?_ _ | with_reducible refine Below.alloc ?_ (by simp; try omega) _)⟩
  · omega

end Go.Proofs.Ythopdfikikdcbaa
/- Walks of package term: the widths of the variables, and which terms are valid. -/
namespace Go.Proofs.Ythopdfikikdcbaa
open Go.RowKit Wd
set_option linter.unusedVariables false
set_option linter.unusedSimpArgs false
/-- The widths of the variables behind one node more; none if a variable has two. -/
def wstep (l : Option (List Int)) (x : Nd) : Option (List Int) :=
  match l with
  | none => none
  | some l => if x.op = 33 then (if l.getD x.imm.toNat 0 ≠ 0 ∧ l.getD x.imm.toNat 0 ≠ x.width then none else some (l.set x.imm.toNat x.width)) else some l
def wmap (ts : List Nd) : Option (List Int) := ts.foldl wstep (some [0, 0, 0, 0])
theorem take_snoc {α : Type} [Inhabited α] (l : List α) (j : Nat) (h : j < l.length) : l.take (j + 1) = l.take j ++ [l.getD j default] := by
  rw [List.take_succ_eq_append_getElem h, List.getD_eq_getElem?_getD, List.getElem?_eq_getElem h]; rfl
theorem wmap_snoc (ts : List Nd) (j : Nat) (h : j < ts.length) : wmap (ts.take (j + 1)) = wstep (wmap (ts.take j)) (ts.getD j default) := by
  unfold wmap; rw [take_snoc ts j h, List.foldl_append]; rfl
theorem wstep_none (ts : List Nd) : ts.foldl wstep none = none := by
  induction ts with
  | nil => rfl
  | cons x ts ih => exact ih
theorem wmap_dead (ts : List Nd) (j : Nat) (h : wmap (ts.take j) = none) : wmap ts = none := by
  have e : ts = ts.take j ++ ts.drop j := (List.take_append_drop j ts).symm
  unfold wmap at *
  rw [e, List.foldl_append, h, wstep_none]
theorem wstep_len {l l' : List Int} {x : Nd} (h : wstep (some l) x = some l') : l'.length = l.length := by
  simp only [wstep] at h
  by_cases c : x.op = 33
  · rw [if_pos c] at h
    by_cases d : l.getD x.imm.toNat 0 ≠ 0 ∧ l.getD x.imm.toNat 0 ≠ x.width
    · rw [if_pos d] at h; cases h
    · rw [if_neg d] at h; cases h; simp
  · rw [if_neg c] at h; cases h; rfl
theorem wstep_var {l : List Int} {w : Int} {f : Int} {g : List Int} {k : Nat} (h : l.getD k 0 = 0 ∨ l.getD k 0 = w) : wstep (some l) ⟨33, w, f, g, k⟩ = some (l.set k w) := by
  simp only [wstep, if_true, Int.toNat_natCast]
  rw [if_neg (by omega)]
theorem wstep_bad {l : List Int} {w : Int} {f : Int} {g : List Int} {k : Nat} (h : ¬ (l.getD k 0 = 0 ∨ l.getD k 0 = w)) : wstep (some l) ⟨33, w, f, g, k⟩ = none := by
  simp only [wstep, if_true, Int.toNat_natCast]
  rw [if_pos (by omega)]
theorem wstep_other {l : List Int} {x : Nd} (h : x.op ≠ 33) : wstep (some l) x = some l := by
  simp only [wstep, if_neg h]
theorem mem_getD {α : Type} [Inhabited α] {l : List α} {j : Nat} (h : j < l.length) : l.getD j default ∈ l := by
  rw [List.getD_eq_getElem?_getD, List.getElem?_eq_getElem h]; exact List.getElem_mem h

/-- Block B of w holds the integers xs, and may be written. -/
def OInts (k : IntKind) (w : World) (B : Nat) (xs : List Int) : Prop :=
  B < w.heap.size ∧ ∀ i, i < xs.length → w.cell? ⟨B, i, none⟩ = some (.int k (xs.getD i 0)) ∧ w.frozen? ⟨B, i, none⟩ = false
theorem OInts.cell {k : IntKind} {w : World} {B : Nat} {xs : List Int} (h : OInts k w B xs) {i : Nat} (hi : i < xs.length) : w.cell? ⟨B, i, none⟩ = some (.int k (xs.getD i 0)) := (h.2 i hi).1
theorem OInts.free {k : IntKind} {w : World} {B : Nat} {xs : List Int} (h : OInts k w B xs) {i : Nat} (hi : i < xs.length) : w.frozen? ⟨B, i, none⟩ = false := (h.2 i hi).2
theorem OInts.below {k : IntKind} {w w' : World} {B : Nat} {xs : List Int} (h : OInts k w B xs) (hb : Below w.heap.size w w') : OInts k w' B xs :=
  ⟨Nat.lt_of_lt_of_le h.1 hb.size, fun i hi => ⟨by rw [← h.cell hi]; exact hb.cell (p := ⟨B, i, none⟩) h.1, by rw [← h.free hi]; exact hb.frozen (p := ⟨B, i, none⟩) h.1⟩⟩
theorem OInts.alloc {k : IntKind} {w : World} {B : Nat} {xs : List Int} (h : OInts k w B xs) (ob : Obj) : OInts k (w.alloc ob) B xs := h.below ((Below.refl _ _).alloc (Nat.le_refl _) _)
theorem OInts.drewN {k : IntKind} {w : World} {B : Nat} {xs : List Int} (h : OInts k w B xs) (n : Nat) : OInts k (w.drewN n) B xs := h
theorem OInts.set {k : IntKind} {w : World} {B : Nat} {xs : List Int} (h : OInts k w B xs) {i : Nat} (hi : i < xs.length) (x : Int) : OInts k (w.setCell ⟨B, i, none⟩ (.int k x)) B (xs.set i x) := by
  refine ⟨by simpa using h.1, fun j hj => ?_⟩
  rw [List.length_set] at hj
  refine ⟨?_, by rw [World.frozen?_setCell]; exact h.free hj⟩
  by_cases e : i = j
  · subst e
    rw [World.cell?_setCell_same _ _ _ (h.cell hi), List.getD_eq_getElem?_getD, List.getElem?_set_self hi]; rfl
  · rw [World.cell?_setCell_other _ _ _ _ (by intro hh; cases hh; exact e rfl), h.cell hj, List.getD_eq_getElem?_getD, List.getD_eq_getElem?_getD, List.getElem?_set_ne e]
theorem OInts.ints {k : IntKind} {w : World} {B : Nat} {xs : List Int} (h : OInts k w B xs) (hl : xs.length ≤ 140737488351232) : Ints k w (.slice (some ⟨B, 0, none⟩) xs.length xs.length) xs :=
  ⟨some ⟨B, 0, none⟩, xs.length, rfl, Nat.le_refl _, ⟨hl, by omega⟩, (fun hh => by cases hh), fun i hi => ⟨B, 0, rfl, h.1, by rw [Nat.mul_one, Nat.zero_add]; exact h.cell hi⟩⟩
theorem wmap_len {ts : List Nd} {l : List Int} : wmap ts = some l → l.length = 4 := by
  have h : ∀ (ts : List Nd) (l0 : List Int), ts.foldl wstep (some l0) = some l → l.length = l0.length := by
    intro ts
    induction ts with
    | nil => intro l0 h; cases h; rfl
    | cons x ts ih =>
      intro l0 h
      rw [List.foldl_cons] at h
      cases e : wstep (some l0) x with
      | none => rw [e, wstep_none] at h; cases h
      | some l1 => rw [e] at h; rw [ih l1 h, wstep_len e]
  intro h'
  exact h ts [0, 0, 0, 0] h'

set_option maxRecDepth 100000 in
set_option maxHeartbeats 4000000 in
theorem widths_any (ts : List Nd) (tv : Value) (w : World) (hts : Nds w tv ts) (hi : ∀ x ∈ ts, 0 ≤ x.imm ∧ (x.op = 33 → x.imm < 4)) : Calls Try.prog 44 #[tv] w fun e w' => ∃ v, e = .returned (.tuple #[v, .bool (wmap ts).isSome]) ∧ (∀ l, wmap ts = some l → Ints .i64 w' v l) ∧ (wmap ts = none → v = .slice none 0 0) ∧ Below w.heap.size w w' := by
  have HT := Lib.hid hts
  have HI := Lib.hid hi
  obtain ⟨ta, tc, rfl, ht1, ht2, ht3, ht4⟩ := hts
  have hlen : ts.length ≤ 140737488351232 := by omega
  clear hi ht3 ht4
  have hmk : ∀ w : World, (Instr.makeSlice 25 (.int .i64 4) (.int .i64 4)).run Try.prog w = .ok (.slice (some ⟨w.heap.size, 0, none⟩) 4 4) (w.alloc (.cells #[.int .i64 0, .int .i64 0, .int .i64 0, .int .i64 0] 3)) := fun _ => by kernel_rfl
  go_enter Try.func44, Try.ntmps44
  go_wp2_with fail
  go_loopw [11] (fun i wr => ∃ (j : Nat) (l : List Int), j ≤ ts.length ∧ i = .int .i64 j ∧ Hid (wmap (ts.take j) = some l) ∧ l.length = 4 ∧ OInts .i64 wr w.heap.size l ∧ Below w.heap.size w wr) (fun i _ => ts.length - (intOf i).toNat)
  case atStart =>
    refine ⟨0, [0, 0, 0, 0], Nat.zero_le _, rfl, rfl, rfl, ⟨by simp, fun i hi => ?_⟩, (Below.refl _ _).alloc (Nat.le_refl _) _⟩
    have : i = 0 ∨ i = 1 ∨ i = 2 ∨ i = 3 := by simp at hi; omega
    rcases this with rfl | rfl | rfl | rfl <;> simp [go_sem]
  case round =>
    obtain ⟨j, l, hj, rfl, hm, h4, ho, hb⟩ := hrel
    have hBs := ho.1
    by_cases hlt : j < ts.length
    · have hx := HI.out _ (mem_getD hlt)
      have hn := HT.out.stays hb
      obtain ⟨a', c', e', _, _, _, hcell⟩ := hn
      cases e'
      obtain ⟨b, q, rfl, hbq, c0, c1, c2, ⟨av, c3, hav⟩, c4⟩ := hcell j hlt
      have HS := Lib.hid (wmap_snoc ts j hlt)
      clear hcell
      generalize ts.getD j default = x at *
      obtain ⟨op, width, flags, args, imm⟩ := x
      obtain ⟨aa, ac, rfl, _⟩ := hav
      simp only at hx c0 c1 c2 c3 c4
      obtain ⟨k, rfl⟩ := Int.eq_ofNat_of_zero_le hx.1
      cases h33 : (op != 33)
      · have e33 : op = 33 := by simpa using h33
        have hk := hx.2 e33
        subst e33
        have hk4 : k < l.length := by omega
        have d0 := ho.cell hk4
        have d1 := ho.free hk4
        clear hx
        generalize hy : l.getD k 0 = y at d0
        have HY := Lib.hid hy
        clear hy
        cases hz : (y != 0)
        · have HZ : Hid (y = 0) := by have : y = 0 := by simpa using hz
                                      exact this
          go_wp2_with fail
          go_roundw
          case rel => exact ⟨j + 1, l.set k width, by omega, by go_num, by rw [HS.out, hm.out]; exact wstep_var (.inl (by rw [HY.out, HZ.out])), by simp [h4], (ho.set hk4 width).alloc _, (below_at hb (Nat.le_refl _) _ _).alloc (by simp; omega) _⟩
          case measure => simp [intOf]; omega
        · have HZ : Hid (¬ y = 0) := by have : ¬ y = 0 := by simpa using hz
                                        exact this
          cases hq : (y != width)
          · have HQ : Hid (y = width) := by have : y = width := by simpa using hq
                                            exact this
            go_wp2_with fail
            go_roundw
            case rel => exact ⟨j + 1, l.set k width, by omega, by go_num, by rw [HS.out, hm.out]; exact wstep_var (.inr (by rw [HY.out, HQ.out])), by simp [h4], (ho.set hk4 width).alloc _, (below_at hb (Nat.le_refl _) _ _).alloc (by simp; omega) _⟩
            case measure => simp [intOf]; omega
          · have HQ : Hid (¬ y = width) := by have : ¬ y = width := by simpa using hq
                                              exact this
            have hd : wmap ts = none := wmap_dead ts (j + 1) (by rw [HS.out, hm.out]; exact wstep_bad (by rw [HY.out]; intro h; rcases h with h | h; exact HZ.out h; exact HQ.out h))
            have HD := Lib.hid hd
            clear hd
            go_wp2_with fail
            rw [HD.out]
            go_ret2
            exact ⟨_, rfl, (fun l' h' => by cases h'), (fun _ => rfl), hb.alloc hb.size _⟩
      · clear hx
        go_wp2_with fail
        go_roundw
        case rel => exact ⟨j + 1, l, by omega, by go_num, by rw [HS.out, hm.out]; exact wstep_other (by simpa using h33), h4, ho.alloc _, hb.alloc hb.size _⟩
        case measure => simp [intOf]; omega
    · obtain rfl : j = ts.length := by omega
      go_wp2_with fail
      have hm' := hm.out
      rw [List.take_length] at hm'
      rw [hm']
      go_ret2
      refine ⟨_, rfl, ?_, ?_, hb⟩
      · intro l' h'
        cases h'
        have := ho.ints (by omega)
        rw [h4] at this
        exact this
      · intro h'
        cases h'

end Go.Proofs.Ythopdfikikdcbaa
/- Walks of package backstayref07: which nodes are right. -/
namespace Go.Proofs.Ythopdfikikdcbaa
open Go.RowKit Wd
set_option linter.unusedVariables false
set_option linter.unusedSimpArgs false
theorem Nds.at {w : World} {v : Value} {ts : List Nd} (h : Nds w v ts) {k : Nat} (hk : k < ts.length) : ∃ b q c, v = .slice (some ⟨b, q, none⟩) ts.length c ∧ ts.length ≤ c ∧ ts.length ≤ 140737488351232 ∧ b < w.heap.size ∧ NdAt w b (q + k * 5) (ts.getD k default) := by
  obtain ⟨a, c, rfl, h1, h2, _, h4⟩ := h
  obtain ⟨b, q, rfl, h5, h6⟩ := h4 k hk
  exact ⟨b, q, c, rfl, h1, by omega, h5, h6⟩

set_option maxRecDepth 100000 in
theorem r7IsWidth_any (n : Int) (w : World) : Calls Try.prog 102 #[.int .i64 n] w fun e w' => e = .returned (.bool (isW n)) ∧ w = w' := by
  by_cases h1 : 1 ≤ n <;> by_cases h2 : n ≤ 32
  all_goals
    go_enter Try.func102, Try.ntmps102
    go_wp2
    go_ret
    exact ⟨ret_b (by simp [isW, h1, h2]), rfl⟩

set_option maxRecDepth 100000 in
set_option maxHeartbeats 8000000 in
theorem rArg (ts : List Nd) (tv : Value) (k : Nat) (w : World) (hts : Nds w tv ts) (hk : k < ts.length) (i1 : 0 ≤ (ts.getD k default).imm) (i2 : (ts.getD k default).imm ≤ 4294967295) : Calls Try.prog 77 #[tv, .int .i64 k, .bool true] w fun e w' => e = .returned (.bool (shaped k (ts.getD k default))) ∧ Below w.heap.size w w' := by
  obtain ⟨b, q, c, rfl, l1, l2, hbw, x0, x1, x2, ⟨av, x3, hV⟩, x4⟩ := hts.at hk
  clear hts
  generalize ts.length = tl at *
  generalize ts.getD k default = x at *
  obtain ⟨op, width, flags, args, imm⟩ := x
  simp only at i1 i2 x0 x1 x2 x3 x4 hV ⊢
  have HV := Lib.hid hV
  obtain ⟨av0, ac, rfl, a1, a2, _, a4⟩ := hV
  have HA := Lib.hid a4
  clear a4
  cases c1 : (arV op != (args.length : Int))
  · cases c2 : decide (arV op < 0)
    · cases c3 : isW width
      · have e : shaped (k : Int) ⟨op, width, flags, args, imm⟩ = false := by
          have : ¬ (1 ≤ width ∧ width ≤ 32) := by simpa [isW] using c3
          simp only [shaped]; simp; omega
        rw [e]
        clear e
        go_enter Try.func77, Try.ntmps77
        go_wp2_with fail
        go_quiet (first | (go_at_call 68; exact quiet_same (rArity_any _ _)) | (go_at_call 102; exact quiet_same (r7IsWidth_any _ _)))
        go_wp2_with fail
        go_ret
        exact ⟨rfl, by repeat (first | with_reducible exact Below.refl _ _ | with_reducible refine below_drewN ?_ _ | with_reducible refine Below.drew ?_ | with_reducible refine Below.alloc ?_ (by simp; try omega) _)⟩
      · cases c4 : (flags != 0)
        · have c1' : ((args.length : Int) != arV op) = false := by rw [bne_comm]; exact c1
          have c2' : (arV op != -1) = true := by have := of_decide_eq_false c2; rcases arV_cases op with h | h | h | h | h <;> simp <;> omega
          have e : shaped (k : Int) ⟨op, width, flags, args, imm⟩ = (immOk ⟨op, width, flags, args, imm⟩ && !((op == 14) && (width != 1)) && !(args.any (bad k))) := by
            have : 1 ≤ width ∧ width ≤ 32 := by simpa [isW] using c3
            have d1 : decide (width < 1) = false := by simp; omega
            have d2 : decide (32 < width) = false := by simp; omega
            simp only [shaped, c1', c2', d1, d2, c4]; simp
          have E := Lib.hid e
          clear e c1' c2'
          go_enter Try.func77, Try.ntmps77
          go_wp2_with fail
          go_quiet (first | (go_at_call 68; exact quiet_same (rArity_any _ _)) | (go_at_call 102; exact quiet_same (r7IsWidth_any _ _)))
          go_wp2_with fail
          go_loop [8] (fun i => ∃ j : Nat, j ≤ args.length ∧ i = .int .i64 j ∧ Hid (∀ i, i < j → bad k (args.getD i 0) = false)) (fun i => args.length - (intOf i).toNat)
          case atStart => exact ⟨0, Nat.zero_le _, rfl, fun i hi => absurd hi (by omega)⟩
          case round =>
            obtain ⟨j, hj, rfl, hno⟩ := hrel
            by_cases hlt : j < args.length
            · obtain ⟨b2, o2, rfl, hb2, hcell⟩ := HA.out j hlt
              simp only [Nat.mul_one] at hcell
              generalize hy : args.getD j 0 = y at *
              have HY := Lib.hid hy
              clear hy
              cases d1 : decide (y < 0)
              · cases d2 : decide ((k : Int) ≤ y)
                · have hd : bad k y = false := by simp [bad, d1, d2]
                  have HB := Lib.hid hd
                  clear hd
                  go_wp2_with fail
                  go_round
                  case rel => exact ⟨j + 1, by omega, by go_num, fun i hi => by
                    by_cases e : i = j
                    · rw [e, HY.out]; exact HB.out
                    · exact hno.out i (by omega)⟩
                  case measure => simp [intOf]; omega
                · have hd : bad k y = true := by simp [bad, d1, d2]
                  have ha : args.any (bad k) = true := any_getD hlt (by rw [HY.out]; exact hd)
                  have HF : Hid (shaped (k : Int) ⟨op, width, flags, args, imm⟩ = false) := by
                    show _ = _
                    rw [E.out]
                    rw [ha]; simp
                  clear hd ha
                  go_wp2_with fail
                  go_ret
                  exact ⟨ret_b HF.out.symm, by repeat (first | with_reducible exact Below.refl _ _ | with_reducible refine below_drewN ?_ _ | with_reducible refine Below.drew ?_ | with_reducible refine Below.alloc ?_ (by simp; try omega) _)⟩
              · have hd : bad k y = true := by simp [bad, d1]
                have ha : args.any (bad k) = true := any_getD hlt (by rw [HY.out]; exact hd)
                have HF : Hid (shaped (k : Int) ⟨op, width, flags, args, imm⟩ = false) := by
                  show _ = _
                  rw [E.out]
                  rw [ha]; simp
                clear hd ha
                go_wp2_with fail
                go_ret
                exact ⟨ret_b HF.out.symm, by repeat (first | with_reducible exact Below.refl _ _ | with_reducible refine below_drewN ?_ _ | with_reducible refine Below.drew ?_ | with_reducible refine Below.alloc ?_ (by simp; try omega) _)⟩
            · obtain rfl : j = args.length := by omega
              have ha := none_getD hno.out
              clear hno
              by_cases o0 : op = 0
              · subst o0
                have HF : Hid (shaped (k : Int) ⟨0, width, flags, args, imm⟩ = fit width imm) := by
                  show _ = _
                  rw [E.out]
                  rw [ha]; simp [immOk, c3]
                clear ha
                go_wp2_with (first | (go_at_call 85; refine (rIsWord_any _ _ _ (by omega) (by omega)).mono ?_; rintro e w' ⟨rfl, rfl⟩))
                go_ret
                exact ⟨ret_b HF.out.symm, by repeat (first | with_reducible exact Below.refl _ _ | with_reducible refine below_drewN ?_ _ | with_reducible refine Below.drew ?_ | with_reducible refine Below.alloc ?_ (by simp; try omega) _)⟩
              by_cases o33 : op = 33
              · subst o33
                have HF : Hid (shaped (k : Int) ⟨33, width, flags, args, imm⟩ = decide (imm < 4)) := by
                  show _ = _
                  rw [E.out]
                  rw [ha]; simp [immOk]
                clear ha
                go_wp2_with fail
                go_ret
                exact ⟨ret_b HF.out.symm, by repeat (first | with_reducible exact Below.refl _ _ | with_reducible refine below_drewN ?_ _ | with_reducible refine Below.drew ?_ | with_reducible refine Below.alloc ?_ (by simp; try omega) _)⟩
              by_cases o14 : op = 14
              · subst o14
                cases h1 : (width == 1)
                · have HF : Hid (shaped (k : Int) ⟨14, width, flags, args, imm⟩ = false) := by
                    show _ = _
                    rw [E.out]
                    have h2 : (width != 1) = true := by simp only [bne, h1]; rfl
                    rw [ha, h2]; simp [immOk]
                  clear ha
                  go_wp2_with fail
                  go_ret
                  exact ⟨ret_b HF.out.symm, by repeat (first | with_reducible exact Below.refl _ _ | with_reducible refine below_drewN ?_ _ | with_reducible refine Below.drew ?_ | with_reducible refine Below.alloc ?_ (by simp; try omega) _)⟩
                · have HF : Hid (shaped (k : Int) ⟨14, width, flags, args, imm⟩ = decide (imm ≤ 9)) := by
                    show _ = _
                    rw [E.out]
                    have h2 : (width != 1) = false := by simp only [bne, h1]; rfl
                    rw [ha, h2]; simp [immOk]
                  clear ha
                  go_wp2_with fail
                  go_ret
                  exact ⟨ret_b HF.out.symm, by repeat (first | with_reducible exact Below.refl _ _ | with_reducible refine below_drewN ?_ _ | with_reducible refine Below.drew ?_ | with_reducible refine Below.alloc ?_ (by simp; try omega) _)⟩
              have HF : Hid (shaped (k : Int) ⟨op, width, flags, args, imm⟩ = (imm == 0)) := by
                show _ = _
                rw [E.out]
                have h2 : (op == 14) = false := by simpa using o14
                rw [ha, h2]; simp [immOk, o0, o33, o14]
              have q0 : (op == 0) = false := by simpa using o0
              have q1 : (op == 33) = false := by simpa using o33
              have q2 : (op == 14) = false := by simpa using o14
              clear o0 o33 o14 ha
              go_wp2_with fail
              go_ret
              exact ⟨ret_b HF.out.symm, by repeat (first | with_reducible exact Below.refl _ _ | with_reducible refine below_drewN ?_ _ | with_reducible refine Below.drew ?_ | with_reducible refine Below.alloc ?_ (by simp; try omega) _)⟩
        · have e : shaped (k : Int) ⟨op, width, flags, args, imm⟩ = false := by simp only [shaped, c4]; simp
          rw [e]
          clear e
          go_enter Try.func77, Try.ntmps77
          go_wp2_with fail
          go_quiet (first | (go_at_call 68; exact quiet_same (rArity_any _ _)) | (go_at_call 102; exact quiet_same (r7IsWidth_any _ _)))
          go_wp2_with fail
          go_ret
          exact ⟨rfl, by repeat (first | with_reducible exact Below.refl _ _ | with_reducible refine below_drewN ?_ _ | with_reducible refine Below.drew ?_ | with_reducible refine Below.alloc ?_ (by simp; try omega) _)⟩
    · have c2' : (arV op != -1) = false := by have := of_decide_eq_true c2; rcases arV_cases op with h | h | h | h | h <;> simp <;> omega
      have e : shaped (k : Int) ⟨op, width, flags, args, imm⟩ = false := by simp only [shaped, c2']; simp
      rw [e]
      clear e
      clear c2'
      go_enter Try.func77, Try.ntmps77
      go_wp2_with fail
      go_quiet (first | (go_at_call 68; exact quiet_same (rArity_any _ _)) | (go_at_call 102; exact quiet_same (r7IsWidth_any _ _)))
      go_wp2_with fail
      go_ret
      exact ⟨rfl, by repeat (first | with_reducible exact Below.refl _ _ | with_reducible refine below_drewN ?_ _ | with_reducible refine Below.drew ?_ | with_reducible refine Below.alloc ?_ (by simp; try omega) _)⟩
  · have c1' : ((args.length : Int) != arV op) = true := by rw [bne_comm]; exact c1
    have e : shaped (k : Int) ⟨op, width, flags, args, imm⟩ = false := by simp only [shaped, c1']; simp
    rw [e]
    clear e
    clear c1'
    go_enter Try.func77, Try.ntmps77
    go_wp2_with fail
    go_quiet (first | (go_at_call 68; exact quiet_same (rArity_any _ _)) | (go_at_call 102; exact quiet_same (r7IsWidth_any _ _)))
    go_wp2_with fail
    go_ret
    exact ⟨rfl, by repeat (first | with_reducible exact Below.refl _ _ | with_reducible refine below_drewN ?_ _ | with_reducible refine Below.drew ?_ | with_reducible refine Below.alloc ?_ (by simp; try omega) _)⟩

end Go.Proofs.Ythopdfikikdcbaa
