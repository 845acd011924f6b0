/- Walks of package term: which nodes are typed. -/
import Derived.Test.YthopdfikikdcbaaZs3
namespace Go.Proofs.Ythopdfikikdcbaa
open Go.RowKit Wd
set_option linter.unusedVariables false
set_option linter.unusedSimpArgs false
/-- The width of the node that stands as the i-th of the Args. -/
def wdt (ts : List Nd) (args : List Int) (i : Nat) : Int := (ts.getD (args.getD i 0).toNat default).width
def typed (ts : List Nd) (x : Nd) : Bool :=
  if 1 ≤ x.op ∧ x.op ≤ 13 then (wdt ts x.args 0 == x.width) && (wdt ts x.args 1 == x.width)
  else if x.op = 14 then wdt ts x.args 0 == wdt ts x.args 1
  else if x.op = 15 then (wdt ts x.args 0 == 1) && (wdt ts x.args 1 == x.width) && (wdt ts x.args 2 == x.width)
  else if x.op = 16 ∨ x.op = 17 then decide (wdt ts x.args 0 < x.width)
  else if x.op = 18 then decide (x.width < wdt ts x.args 0) else true

theorem typed1 (i : Nat) (ts : List Nd) (args : List Int) (bt bx : Nat) (tv av : Value) (w : World) (ht : w.cell? ⟨bt, 0, none⟩ = some tv) (hx : w.cell? ⟨bx, 3, none⟩ = some av) (hts : Nds w tv ts) (ha : Ints .i64 w av args) (hi : i < args.length) (h0 : 0 ≤ args.getD i 0) (h1 : args.getD i 0 < ts.length) : Calls Try.prog 76 #[.int .i64 i, .pointer (some ⟨bt, 0, none⟩), .pointer (some ⟨bx, 0, none⟩)] w fun e w' => e = .returned (.int .i64 (wdt ts args i)) ∧ Dr w w' := by
  obtain ⟨m, hm⟩ := Int.eq_ofNat_of_zero_le h0
  unfold wdt
  rw [hm] at h1 ⊢
  obtain ⟨a, c, rfl, ha1, ha2, ha3, hac⟩ := ha
  obtain ⟨b1, o1, rfl, hb1, hc1⟩ := hac i hi
  obtain ⟨a2, c2, rfl, ht1, ht2, ht3, htc⟩ := hts
  obtain ⟨b2, o2, rfl, hb2, hc2⟩ := htc m (by omega)
  rw [hm, Nat.mul_one] at hc1
  obtain ⟨_, hc3, _⟩ := hc2
  simp only [Int.toNat_natCast]
  generalize (ts.getD m default).width = y at *
  have q1 : (i : Int) < args.length := by omega
  clear hac htc hm h0
  go_enter Try.func76, Try.ntmps76
  go_wp2_with fail
  go_quiet (fail)
  go_wp2_with fail
  go_ret
  exact ⟨rfl, _, rfl⟩

theorem typed1_0 (ts : List Nd) (args : List Int) (bt bx : Nat) (tv av : Value) (w : World) (ht : w.cell? ⟨bt, 0, none⟩ = some tv) (hx : w.cell? ⟨bx, 3, none⟩ = some av) (hts : Nds w tv ts) (ha : Ints .i64 w av args) (hi : 0 < args.length) (hr : ∀ a ∈ args, 0 ≤ a ∧ a < ts.length) : Calls Try.prog 76 #[.int .i64 0, .pointer (some ⟨bt, 0, none⟩), .pointer (some ⟨bx, 0, none⟩)] w fun e w' => e = .returned (.int .i64 (wdt ts args 0)) ∧ ∃ m, w' = w.drewN m := by
  have h := hr (args.getD 0 0) (by rw [List.getD_eq_getElem?_getD, List.getElem?_eq_getElem hi]; exact List.getElem_mem hi)
  exact typed1 0 ts args bt bx tv av w ht hx hts ha hi h.1 h.2
theorem typed1_1 (ts : List Nd) (args : List Int) (bt bx : Nat) (tv av : Value) (w : World) (ht : w.cell? ⟨bt, 0, none⟩ = some tv) (hx : w.cell? ⟨bx, 3, none⟩ = some av) (hts : Nds w tv ts) (ha : Ints .i64 w av args) (hi : 1 < args.length) (hr : ∀ a ∈ args, 0 ≤ a ∧ a < ts.length) : Calls Try.prog 76 #[.int .i64 1, .pointer (some ⟨bt, 0, none⟩), .pointer (some ⟨bx, 0, none⟩)] w fun e w' => e = .returned (.int .i64 (wdt ts args 1)) ∧ ∃ m, w' = w.drewN m := by
  have h := hr (args.getD 1 0) (by rw [List.getD_eq_getElem?_getD, List.getElem?_eq_getElem hi]; exact List.getElem_mem hi)
  exact typed1 1 ts args bt bx tv av w ht hx hts ha hi h.1 h.2
theorem typed1_2 (ts : List Nd) (args : List Int) (bt bx : Nat) (tv av : Value) (w : World) (ht : w.cell? ⟨bt, 0, none⟩ = some tv) (hx : w.cell? ⟨bx, 3, none⟩ = some av) (hts : Nds w tv ts) (ha : Ints .i64 w av args) (hi : 2 < args.length) (hr : ∀ a ∈ args, 0 ≤ a ∧ a < ts.length) : Calls Try.prog 76 #[.int .i64 2, .pointer (some ⟨bt, 0, none⟩), .pointer (some ⟨bx, 0, none⟩)] w fun e w' => e = .returned (.int .i64 (wdt ts args 2)) ∧ ∃ m, w' = w.drewN m := by
  have h := hr (args.getD 2 0) (by rw [List.getD_eq_getElem?_getD, List.getElem?_eq_getElem hi]; exact List.getElem_mem hi)
  exact typed1 2 ts args bt bx tv av w ht hx hts ha hi h.1 h.2
set_option maxHeartbeats 4000000 in
theorem isTyped_any (ts : List Nd) (x : Nd) (tv v : Value) (w : World) (hts : Nds w tv ts) (hv : Ints .i64 w v x.args) (hlen : (x.args.length : Int) = arV x.op) (hr : ∀ a ∈ x.args, 0 ≤ a ∧ a < ts.length) : Calls Try.prog 47 #[tv, .agg #[.int .i64 x.op, .int .i64 x.width, .int .i64 x.flags, v, .int .u32 x.imm]] w fun e w' => e = .returned (.bool (typed ts x)) ∧ Below w.heap.size w w' := by
  obtain ⟨op, width, flags, args, imm⟩ := x
  simp only at hv hlen hr ⊢
  have HV := Lib.hid hv
  have HT := Lib.hid hts
  have HR := Lib.hid hr
  obtain ⟨a, c, rfl, hc1, hc2, hc3, hcell⟩ := hv
  obtain ⟨ta, tc, rfl, ht1, ht2, _⟩ := hts
  clear hcell hc3 hr
  have hpos := arV_cases op
  rcases arV_cases op with ⟨rfl | rfl, e0⟩ | ⟨⟨h1, h2⟩, e0⟩ | ⟨rfl, e0⟩ | ⟨⟨h1, h2⟩, e0⟩ | ⟨h, e0⟩
  · clear hlen hpos e0
    have e : typed ts ⟨0, width, flags, args, imm⟩ = true := by simp [typed]
    rw [e]
    clear e
    have h00 := Since.refl ((w.alloc (.cells #[.slice ta ts.length tc] 22)).alloc (.cells #[.int .i64 0, .int .i64 width, .int .i64 flags, .slice a args.length c, .int .u32 imm] 47))
    have l0 : ∀ wk, Since ((w.alloc (.cells #[.slice ta ts.length tc] 22)).alloc (.cells #[.int .i64 0, .int .i64 width, .int .i64 flags, .slice a args.length c, .int .u32 imm] 47)) wk → wk.cell? ⟨w.heap.size, 0, none⟩ = some (.slice ta ts.length tc) := fun wk h => by rw [(bcell (show Below _ _ _ from h)).1 _ _ (by simp; try omega)]; simp [go_sem]
    have l1 : ∀ wk, Since ((w.alloc (.cells #[.slice ta ts.length tc] 22)).alloc (.cells #[.int .i64 0, .int .i64 width, .int .i64 flags, .slice a args.length c, .int .u32 imm] 47)) wk → wk.cell? ⟨w.heap.size + 1, 0, none⟩ = some (.int .i64 0) := fun wk h => by rw [(bcell (show Below _ _ _ from h)).1 _ _ (by simp; try omega)]; simp [go_sem]
    have l2 : ∀ wk, Since ((w.alloc (.cells #[.slice ta ts.length tc] 22)).alloc (.cells #[.int .i64 0, .int .i64 width, .int .i64 flags, .slice a args.length c, .int .u32 imm] 47)) wk → wk.cell? ⟨w.heap.size + 1, 1, none⟩ = some (.int .i64 width) := fun wk h => by rw [(bcell (show Below _ _ _ from h)).1 _ _ (by simp; try omega)]; simp [go_sem]
    have l3 : ∀ wk, Since ((w.alloc (.cells #[.slice ta ts.length tc] 22)).alloc (.cells #[.int .i64 0, .int .i64 width, .int .i64 flags, .slice a args.length c, .int .u32 imm] 47)) wk → wk.cell? ⟨w.heap.size + 1, 2, none⟩ = some (.int .i64 flags) := fun wk h => by rw [(bcell (show Below _ _ _ from h)).1 _ _ (by simp; try omega)]; simp [go_sem]
    have l4 : ∀ wk, Since ((w.alloc (.cells #[.slice ta ts.length tc] 22)).alloc (.cells #[.int .i64 0, .int .i64 width, .int .i64 flags, .slice a args.length c, .int .u32 imm] 47)) wk → wk.cell? ⟨w.heap.size + 1, 3, none⟩ = some (.slice a args.length c) := fun wk h => by rw [(bcell (show Below _ _ _ from h)).1 _ _ (by simp; try omega)]; simp [go_sem]
    have l5 : ∀ wk, Since ((w.alloc (.cells #[.slice ta ts.length tc] 22)).alloc (.cells #[.int .i64 0, .int .i64 width, .int .i64 flags, .slice a args.length c, .int .u32 imm] 47)) wk → wk.cell? ⟨w.heap.size + 1, 4, none⟩ = some (.int .u32 imm) := fun wk h => by rw [(bcell (show Below _ _ _ from h)).1 _ _ (by simp; try omega)]; simp [go_sem]
    have hn : ∀ wk, Since ((w.alloc (.cells #[.slice ta ts.length tc] 22)).alloc (.cells #[.int .i64 0, .int .i64 width, .int .i64 flags, .slice a args.length c, .int .u32 imm] 47)) wk → Nds wk (.slice ta ts.length tc) ts := fun wk h => HT.out.stays (below_box (below_box h))
    have hin : ∀ wk, Since ((w.alloc (.cells #[.slice ta ts.length tc] 22)).alloc (.cells #[.int .i64 0, .int .i64 width, .int .i64 flags, .slice a args.length c, .int .u32 imm] 47)) wk → Ints .i64 wk (.slice a args.length c) args := fun wk h => HV.out.stays (below_box (below_box h))
    go_enter Try.func47, Try.ntmps47
    go_wp2_with fail
    go_ret
    exact ⟨rfl, by repeat (first | with_reducible exact Below.refl _ _ | with_reducible refine below_drewN ?_ _ | with_reducible refine Below.alloc ?_ (by simp; try omega) _)⟩
  · clear hlen hpos e0
    have e : typed ts ⟨33, width, flags, args, imm⟩ = true := by simp [typed]
    rw [e]
    clear e
    have h00 := Since.refl ((w.alloc (.cells #[.slice ta ts.length tc] 22)).alloc (.cells #[.int .i64 33, .int .i64 width, .int .i64 flags, .slice a args.length c, .int .u32 imm] 47))
    have l0 : ∀ wk, Since ((w.alloc (.cells #[.slice ta ts.length tc] 22)).alloc (.cells #[.int .i64 33, .int .i64 width, .int .i64 flags, .slice a args.length c, .int .u32 imm] 47)) wk → wk.cell? ⟨w.heap.size, 0, none⟩ = some (.slice ta ts.length tc) := fun wk h => by rw [(bcell (show Below _ _ _ from h)).1 _ _ (by simp; try omega)]; simp [go_sem]
    have l1 : ∀ wk, Since ((w.alloc (.cells #[.slice ta ts.length tc] 22)).alloc (.cells #[.int .i64 33, .int .i64 width, .int .i64 flags, .slice a args.length c, .int .u32 imm] 47)) wk → wk.cell? ⟨w.heap.size + 1, 0, none⟩ = some (.int .i64 33) := fun wk h => by rw [(bcell (show Below _ _ _ from h)).1 _ _ (by simp; try omega)]; simp [go_sem]
    have l2 : ∀ wk, Since ((w.alloc (.cells #[.slice ta ts.length tc] 22)).alloc (.cells #[.int .i64 33, .int .i64 width, .int .i64 flags, .slice a args.length c, .int .u32 imm] 47)) wk → wk.cell? ⟨w.heap.size + 1, 1, none⟩ = some (.int .i64 width) := fun wk h => by rw [(bcell (show Below _ _ _ from h)).1 _ _ (by simp; try omega)]; simp [go_sem]
    have l3 : ∀ wk, Since ((w.alloc (.cells #[.slice ta ts.length tc] 22)).alloc (.cells #[.int .i64 33, .int .i64 width, .int .i64 flags, .slice a args.length c, .int .u32 imm] 47)) wk → wk.cell? ⟨w.heap.size + 1, 2, none⟩ = some (.int .i64 flags) := fun wk h => by rw [(bcell (show Below _ _ _ from h)).1 _ _ (by simp; try omega)]; simp [go_sem]
    have l4 : ∀ wk, Since ((w.alloc (.cells #[.slice ta ts.length tc] 22)).alloc (.cells #[.int .i64 33, .int .i64 width, .int .i64 flags, .slice a args.length c, .int .u32 imm] 47)) wk → wk.cell? ⟨w.heap.size + 1, 3, none⟩ = some (.slice a args.length c) := fun wk h => by rw [(bcell (show Below _ _ _ from h)).1 _ _ (by simp; try omega)]; simp [go_sem]
    have l5 : ∀ wk, Since ((w.alloc (.cells #[.slice ta ts.length tc] 22)).alloc (.cells #[.int .i64 33, .int .i64 width, .int .i64 flags, .slice a args.length c, .int .u32 imm] 47)) wk → wk.cell? ⟨w.heap.size + 1, 4, none⟩ = some (.int .u32 imm) := fun wk h => by rw [(bcell (show Below _ _ _ from h)).1 _ _ (by simp; try omega)]; simp [go_sem]
    have hn : ∀ wk, Since ((w.alloc (.cells #[.slice ta ts.length tc] 22)).alloc (.cells #[.int .i64 33, .int .i64 width, .int .i64 flags, .slice a args.length c, .int .u32 imm] 47)) wk → Nds wk (.slice ta ts.length tc) ts := fun wk h => HT.out.stays (below_box (below_box h))
    have hin : ∀ wk, Since ((w.alloc (.cells #[.slice ta ts.length tc] 22)).alloc (.cells #[.int .i64 33, .int .i64 width, .int .i64 flags, .slice a args.length c, .int .u32 imm] 47)) wk → Ints .i64 wk (.slice a args.length c) args := fun wk h => HV.out.stays (below_box (below_box h))
    go_enter Try.func47, Try.ntmps47
    go_wp2_with fail
    go_ret
    exact ⟨rfl, by repeat (first | with_reducible exact Below.refl _ _ | with_reducible refine below_drewN ?_ _ | with_reducible refine Below.alloc ?_ (by simp; try omega) _)⟩
  · have n2 : 1 < args.length := by omega
    clear hlen hpos e0
    by_cases o14 : op = 14
    · subst o14
      have e : typed ts ⟨14, width, flags, args, imm⟩ = (wdt ts args 0 == wdt ts args 1) := by simp [typed]
      rw [e]
      clear e
      have h00 := Since.refl ((w.alloc (.cells #[.slice ta ts.length tc] 22)).alloc (.cells #[.int .i64 14, .int .i64 width, .int .i64 flags, .slice a args.length c, .int .u32 imm] 47))
      have l0 : ∀ wk, Since ((w.alloc (.cells #[.slice ta ts.length tc] 22)).alloc (.cells #[.int .i64 14, .int .i64 width, .int .i64 flags, .slice a args.length c, .int .u32 imm] 47)) wk → wk.cell? ⟨w.heap.size, 0, none⟩ = some (.slice ta ts.length tc) := fun wk h => by rw [(bcell (show Below _ _ _ from h)).1 _ _ (by simp; try omega)]; simp [go_sem]
      have l1 : ∀ wk, Since ((w.alloc (.cells #[.slice ta ts.length tc] 22)).alloc (.cells #[.int .i64 14, .int .i64 width, .int .i64 flags, .slice a args.length c, .int .u32 imm] 47)) wk → wk.cell? ⟨w.heap.size + 1, 0, none⟩ = some (.int .i64 14) := fun wk h => by rw [(bcell (show Below _ _ _ from h)).1 _ _ (by simp; try omega)]; simp [go_sem]
      have l2 : ∀ wk, Since ((w.alloc (.cells #[.slice ta ts.length tc] 22)).alloc (.cells #[.int .i64 14, .int .i64 width, .int .i64 flags, .slice a args.length c, .int .u32 imm] 47)) wk → wk.cell? ⟨w.heap.size + 1, 1, none⟩ = some (.int .i64 width) := fun wk h => by rw [(bcell (show Below _ _ _ from h)).1 _ _ (by simp; try omega)]; simp [go_sem]
      have l3 : ∀ wk, Since ((w.alloc (.cells #[.slice ta ts.length tc] 22)).alloc (.cells #[.int .i64 14, .int .i64 width, .int .i64 flags, .slice a args.length c, .int .u32 imm] 47)) wk → wk.cell? ⟨w.heap.size + 1, 2, none⟩ = some (.int .i64 flags) := fun wk h => by rw [(bcell (show Below _ _ _ from h)).1 _ _ (by simp; try omega)]; simp [go_sem]
      have l4 : ∀ wk, Since ((w.alloc (.cells #[.slice ta ts.length tc] 22)).alloc (.cells #[.int .i64 14, .int .i64 width, .int .i64 flags, .slice a args.length c, .int .u32 imm] 47)) wk → wk.cell? ⟨w.heap.size + 1, 3, none⟩ = some (.slice a args.length c) := fun wk h => by rw [(bcell (show Below _ _ _ from h)).1 _ _ (by simp; try omega)]; simp [go_sem]
      have l5 : ∀ wk, Since ((w.alloc (.cells #[.slice ta ts.length tc] 22)).alloc (.cells #[.int .i64 14, .int .i64 width, .int .i64 flags, .slice a args.length c, .int .u32 imm] 47)) wk → wk.cell? ⟨w.heap.size + 1, 4, none⟩ = some (.int .u32 imm) := fun wk h => by rw [(bcell (show Below _ _ _ from h)).1 _ _ (by simp; try omega)]; simp [go_sem]
      have hn : ∀ wk, Since ((w.alloc (.cells #[.slice ta ts.length tc] 22)).alloc (.cells #[.int .i64 14, .int .i64 width, .int .i64 flags, .slice a args.length c, .int .u32 imm] 47)) wk → Nds wk (.slice ta ts.length tc) ts := fun wk h => HT.out.stays (below_box (below_box h))
      have hin : ∀ wk, Since ((w.alloc (.cells #[.slice ta ts.length tc] 22)).alloc (.cells #[.int .i64 14, .int .i64 width, .int .i64 flags, .slice a args.length c, .int .u32 imm] 47)) wk → Ints .i64 wk (.slice a args.length c) args := fun wk h => HV.out.stays (below_box (below_box h))
      go_enter Try.func47, Try.ntmps47
      go_wp2_with fail
      go_at_call 76
      refine (typed1_0 ts args _ _ _ _ _ (l0 _ h00) (l4 _ h00) (hn _ h00) (hin _ h00) (by omega) HR.out).mono ?_
      rintro e w' ⟨rfl, m0, rfl⟩
      go_wp2_with fail
      go_at_call 76
      refine (typed1_1 ts args _ _ _ _ _ (l0 _ (h00.drewN _)) (l4 _ (h00.drewN _)) (hn _ (h00.drewN _)) (hin _ (h00.drewN _)) (by omega) HR.out).mono ?_
      rintro e w' ⟨rfl, m1, rfl⟩
      go_wp2_with fail
      go_ret
      exact ⟨rfl, by repeat (first | with_reducible exact Below.refl _ _ | with_reducible refine below_drewN ?_ _ | with_reducible refine Below.alloc ?_ (by simp; try omega) _)⟩
    · have h13 : op ≤ 13 := by omega
      have q0 : decide (1 ≤ op) = true := by simp; omega
      have q1 : decide (op ≤ 13) = true := by simp; omega
      clear o14 h2
      cases c1 : (wdt ts args 0 == width)
      · have e : typed ts ⟨op, width, flags, args, imm⟩ = false := by simp [typed, h1, h13, c1]
        rw [e]
        clear e
        have h00 := Since.refl ((w.alloc (.cells #[.slice ta ts.length tc] 22)).alloc (.cells #[.int .i64 op, .int .i64 width, .int .i64 flags, .slice a args.length c, .int .u32 imm] 47))
        have l0 : ∀ wk, Since ((w.alloc (.cells #[.slice ta ts.length tc] 22)).alloc (.cells #[.int .i64 op, .int .i64 width, .int .i64 flags, .slice a args.length c, .int .u32 imm] 47)) wk → wk.cell? ⟨w.heap.size, 0, none⟩ = some (.slice ta ts.length tc) := fun wk h => by rw [(bcell (show Below _ _ _ from h)).1 _ _ (by simp; try omega)]; simp [go_sem]
        have l1 : ∀ wk, Since ((w.alloc (.cells #[.slice ta ts.length tc] 22)).alloc (.cells #[.int .i64 op, .int .i64 width, .int .i64 flags, .slice a args.length c, .int .u32 imm] 47)) wk → wk.cell? ⟨w.heap.size + 1, 0, none⟩ = some (.int .i64 op) := fun wk h => by rw [(bcell (show Below _ _ _ from h)).1 _ _ (by simp; try omega)]; simp [go_sem]
        have l2 : ∀ wk, Since ((w.alloc (.cells #[.slice ta ts.length tc] 22)).alloc (.cells #[.int .i64 op, .int .i64 width, .int .i64 flags, .slice a args.length c, .int .u32 imm] 47)) wk → wk.cell? ⟨w.heap.size + 1, 1, none⟩ = some (.int .i64 width) := fun wk h => by rw [(bcell (show Below _ _ _ from h)).1 _ _ (by simp; try omega)]; simp [go_sem]
        have l3 : ∀ wk, Since ((w.alloc (.cells #[.slice ta ts.length tc] 22)).alloc (.cells #[.int .i64 op, .int .i64 width, .int .i64 flags, .slice a args.length c, .int .u32 imm] 47)) wk → wk.cell? ⟨w.heap.size + 1, 2, none⟩ = some (.int .i64 flags) := fun wk h => by rw [(bcell (show Below _ _ _ from h)).1 _ _ (by simp; try omega)]; simp [go_sem]
        have l4 : ∀ wk, Since ((w.alloc (.cells #[.slice ta ts.length tc] 22)).alloc (.cells #[.int .i64 op, .int .i64 width, .int .i64 flags, .slice a args.length c, .int .u32 imm] 47)) wk → wk.cell? ⟨w.heap.size + 1, 3, none⟩ = some (.slice a args.length c) := fun wk h => by rw [(bcell (show Below _ _ _ from h)).1 _ _ (by simp; try omega)]; simp [go_sem]
        have l5 : ∀ wk, Since ((w.alloc (.cells #[.slice ta ts.length tc] 22)).alloc (.cells #[.int .i64 op, .int .i64 width, .int .i64 flags, .slice a args.length c, .int .u32 imm] 47)) wk → wk.cell? ⟨w.heap.size + 1, 4, none⟩ = some (.int .u32 imm) := fun wk h => by rw [(bcell (show Below _ _ _ from h)).1 _ _ (by simp; try omega)]; simp [go_sem]
        have hn : ∀ wk, Since ((w.alloc (.cells #[.slice ta ts.length tc] 22)).alloc (.cells #[.int .i64 op, .int .i64 width, .int .i64 flags, .slice a args.length c, .int .u32 imm] 47)) wk → Nds wk (.slice ta ts.length tc) ts := fun wk h => HT.out.stays (below_box (below_box h))
        have hin : ∀ wk, Since ((w.alloc (.cells #[.slice ta ts.length tc] 22)).alloc (.cells #[.int .i64 op, .int .i64 width, .int .i64 flags, .slice a args.length c, .int .u32 imm] 47)) wk → Ints .i64 wk (.slice a args.length c) args := fun wk h => HV.out.stays (below_box (below_box h))
        go_enter Try.func47, Try.ntmps47
        go_wp2_with fail
        go_quiet (first | (go_at_call 76; with_reducible exact Calls.quiet_of (typed1_0 ts args _ _ _ _ _ (l0 _ (h00.drewN _)) (l4 _ (h00.drewN _)) (hn _ (h00.drewN _)) (hin _ (h00.drewN _)) (by omega) HR.out)) | (go_at_call 76; with_reducible exact Calls.quiet_of (typed1_1 ts args _ _ _ _ _ (l0 _ (h00.drewN _)) (l4 _ (h00.drewN _)) (hn _ (h00.drewN _)) (hin _ (h00.drewN _)) (by omega) HR.out)))
        go_wp2_with fail
        go_ret
        exact ⟨rfl, by repeat (first | with_reducible exact Below.refl _ _ | with_reducible refine below_drewN ?_ _ | with_reducible refine Below.alloc ?_ (by simp; try omega) _)⟩
      · have e : typed ts ⟨op, width, flags, args, imm⟩ = (wdt ts args 1 == width) := by simp [typed, h1, h13, c1]
        rw [e]
        clear e
        have h00 := Since.refl ((w.alloc (.cells #[.slice ta ts.length tc] 22)).alloc (.cells #[.int .i64 op, .int .i64 width, .int .i64 flags, .slice a args.length c, .int .u32 imm] 47))
        have l0 : ∀ wk, Since ((w.alloc (.cells #[.slice ta ts.length tc] 22)).alloc (.cells #[.int .i64 op, .int .i64 width, .int .i64 flags, .slice a args.length c, .int .u32 imm] 47)) wk → wk.cell? ⟨w.heap.size, 0, none⟩ = some (.slice ta ts.length tc) := fun wk h => by rw [(bcell (show Below _ _ _ from h)).1 _ _ (by simp; try omega)]; simp [go_sem]
        have l1 : ∀ wk, Since ((w.alloc (.cells #[.slice ta ts.length tc] 22)).alloc (.cells #[.int .i64 op, .int .i64 width, .int .i64 flags, .slice a args.length c, .int .u32 imm] 47)) wk → wk.cell? ⟨w.heap.size + 1, 0, none⟩ = some (.int .i64 op) := fun wk h => by rw [(bcell (show Below _ _ _ from h)).1 _ _ (by simp; try omega)]; simp [go_sem]
        have l2 : ∀ wk, Since ((w.alloc (.cells #[.slice ta ts.length tc] 22)).alloc (.cells #[.int .i64 op, .int .i64 width, .int .i64 flags, .slice a args.length c, .int .u32 imm] 47)) wk → wk.cell? ⟨w.heap.size + 1, 1, none⟩ = some (.int .i64 width) := fun wk h => by rw [(bcell (show Below _ _ _ from h)).1 _ _ (by simp; try omega)]; simp [go_sem]
        have l3 : ∀ wk, Since ((w.alloc (.cells #[.slice ta ts.length tc] 22)).alloc (.cells #[.int .i64 op, .int .i64 width, .int .i64 flags, .slice a args.length c, .int .u32 imm] 47)) wk → wk.cell? ⟨w.heap.size + 1, 2, none⟩ = some (.int .i64 flags) := fun wk h => by rw [(bcell (show Below _ _ _ from h)).1 _ _ (by simp; try omega)]; simp [go_sem]
        have l4 : ∀ wk, Since ((w.alloc (.cells #[.slice ta ts.length tc] 22)).alloc (.cells #[.int .i64 op, .int .i64 width, .int .i64 flags, .slice a args.length c, .int .u32 imm] 47)) wk → wk.cell? ⟨w.heap.size + 1, 3, none⟩ = some (.slice a args.length c) := fun wk h => by rw [(bcell (show Below _ _ _ from h)).1 _ _ (by simp; try omega)]; simp [go_sem]
        have l5 : ∀ wk, Since ((w.alloc (.cells #[.slice ta ts.length tc] 22)).alloc (.cells #[.int .i64 op, .int .i64 width, .int .i64 flags, .slice a args.length c, .int .u32 imm] 47)) wk → wk.cell? ⟨w.heap.size + 1, 4, none⟩ = some (.int .u32 imm) := fun wk h => by rw [(bcell (show Below _ _ _ from h)).1 _ _ (by simp; try omega)]; simp [go_sem]
        have hn : ∀ wk, Since ((w.alloc (.cells #[.slice ta ts.length tc] 22)).alloc (.cells #[.int .i64 op, .int .i64 width, .int .i64 flags, .slice a args.length c, .int .u32 imm] 47)) wk → Nds wk (.slice ta ts.length tc) ts := fun wk h => HT.out.stays (below_box (below_box h))
        have hin : ∀ wk, Since ((w.alloc (.cells #[.slice ta ts.length tc] 22)).alloc (.cells #[.int .i64 op, .int .i64 width, .int .i64 flags, .slice a args.length c, .int .u32 imm] 47)) wk → Ints .i64 wk (.slice a args.length c) args := fun wk h => HV.out.stays (below_box (below_box h))
        go_enter Try.func47, Try.ntmps47
        go_wp2_with fail
        go_quiet (first | (go_at_call 76; with_reducible exact Calls.quiet_of (typed1_0 ts args _ _ _ _ _ (l0 _ (h00.drewN _)) (l4 _ (h00.drewN _)) (hn _ (h00.drewN _)) (hin _ (h00.drewN _)) (by omega) HR.out)) | (go_at_call 76; with_reducible exact Calls.quiet_of (typed1_1 ts args _ _ _ _ _ (l0 _ (h00.drewN _)) (l4 _ (h00.drewN _)) (hn _ (h00.drewN _)) (hin _ (h00.drewN _)) (by omega) HR.out)))
        go_wp2_with fail
        go_ret
        exact ⟨rfl, by repeat (first | with_reducible exact Below.refl _ _ | with_reducible refine below_drewN ?_ _ | with_reducible refine Below.alloc ?_ (by simp; try omega) _)⟩
  · have n3 : 2 < args.length := by omega
    clear hlen hpos e0
    cases c1 : (wdt ts args 0 == 1)
    · have e : typed ts ⟨15, width, flags, args, imm⟩ = false := by simp [typed, c1]
      rw [e]
      clear e
      have h00 := Since.refl ((w.alloc (.cells #[.slice ta ts.length tc] 22)).alloc (.cells #[.int .i64 15, .int .i64 width, .int .i64 flags, .slice a args.length c, .int .u32 imm] 47))
      have l0 : ∀ wk, Since ((w.alloc (.cells #[.slice ta ts.length tc] 22)).alloc (.cells #[.int .i64 15, .int .i64 width, .int .i64 flags, .slice a args.length c, .int .u32 imm] 47)) wk → wk.cell? ⟨w.heap.size, 0, none⟩ = some (.slice ta ts.length tc) := fun wk h => by rw [(bcell (show Below _ _ _ from h)).1 _ _ (by simp; try omega)]; simp [go_sem]
      have l1 : ∀ wk, Since ((w.alloc (.cells #[.slice ta ts.length tc] 22)).alloc (.cells #[.int .i64 15, .int .i64 width, .int .i64 flags, .slice a args.length c, .int .u32 imm] 47)) wk → wk.cell? ⟨w.heap.size + 1, 0, none⟩ = some (.int .i64 15) := fun wk h => by rw [(bcell (show Below _ _ _ from h)).1 _ _ (by simp; try omega)]; simp [go_sem]
      have l2 : ∀ wk, Since ((w.alloc (.cells #[.slice ta ts.length tc] 22)).alloc (.cells #[.int .i64 15, .int .i64 width, .int .i64 flags, .slice a args.length c, .int .u32 imm] 47)) wk → wk.cell? ⟨w.heap.size + 1, 1, none⟩ = some (.int .i64 width) := fun wk h => by rw [(bcell (show Below _ _ _ from h)).1 _ _ (by simp; try omega)]; simp [go_sem]
      have l3 : ∀ wk, Since ((w.alloc (.cells #[.slice ta ts.length tc] 22)).alloc (.cells #[.int .i64 15, .int .i64 width, .int .i64 flags, .slice a args.length c, .int .u32 imm] 47)) wk → wk.cell? ⟨w.heap.size + 1, 2, none⟩ = some (.int .i64 flags) := fun wk h => by rw [(bcell (show Below _ _ _ from h)).1 _ _ (by simp; try omega)]; simp [go_sem]
      have l4 : ∀ wk, Since ((w.alloc (.cells #[.slice ta ts.length tc] 22)).alloc (.cells #[.int .i64 15, .int .i64 width, .int .i64 flags, .slice a args.length c, .int .u32 imm] 47)) wk → wk.cell? ⟨w.heap.size + 1, 3, none⟩ = some (.slice a args.length c) := fun wk h => by rw [(bcell (show Below _ _ _ from h)).1 _ _ (by simp; try omega)]; simp [go_sem]
      have l5 : ∀ wk, Since ((w.alloc (.cells #[.slice ta ts.length tc] 22)).alloc (.cells #[.int .i64 15, .int .i64 width, .int .i64 flags, .slice a args.length c, .int .u32 imm] 47)) wk → wk.cell? ⟨w.heap.size + 1, 4, none⟩ = some (.int .u32 imm) := fun wk h => by rw [(bcell (show Below _ _ _ from h)).1 _ _ (by simp; try omega)]; simp [go_sem]
      have hn : ∀ wk, Since ((w.alloc (.cells #[.slice ta ts.length tc] 22)).alloc (.cells #[.int .i64 15, .int .i64 width, .int .i64 flags, .slice a args.length c, .int .u32 imm] 47)) wk → Nds wk (.slice ta ts.length tc) ts := fun wk h => HT.out.stays (below_box (below_box h))
      have hin : ∀ wk, Since ((w.alloc (.cells #[.slice ta ts.length tc] 22)).alloc (.cells #[.int .i64 15, .int .i64 width, .int .i64 flags, .slice a args.length c, .int .u32 imm] 47)) wk → Ints .i64 wk (.slice a args.length c) args := fun wk h => HV.out.stays (below_box (below_box h))
      go_enter Try.func47, Try.ntmps47
      go_wp2_with fail
      go_quiet (first | (go_at_call 76; with_reducible exact Calls.quiet_of (typed1_0 ts args _ _ _ _ _ (l0 _ (h00.drewN _)) (l4 _ (h00.drewN _)) (hn _ (h00.drewN _)) (hin _ (h00.drewN _)) (by omega) HR.out)) | (go_at_call 76; with_reducible exact Calls.quiet_of (typed1_1 ts args _ _ _ _ _ (l0 _ (h00.drewN _)) (l4 _ (h00.drewN _)) (hn _ (h00.drewN _)) (hin _ (h00.drewN _)) (by omega) HR.out)) | (go_at_call 76; with_reducible exact Calls.quiet_of (typed1_2 ts args _ _ _ _ _ (l0 _ (h00.drewN _)) (l4 _ (h00.drewN _)) (hn _ (h00.drewN _)) (hin _ (h00.drewN _)) (by omega) HR.out)))
      go_wp2_with fail
      go_ret
      exact ⟨rfl, by repeat (first | with_reducible exact Below.refl _ _ | with_reducible refine below_drewN ?_ _ | with_reducible refine Below.alloc ?_ (by simp; try omega) _)⟩
    · cases c2 : (wdt ts args 1 == width)
      · have e : typed ts ⟨15, width, flags, args, imm⟩ = false := by simp [typed, c1, c2]
        rw [e]
        clear e
        have h00 := Since.refl ((w.alloc (.cells #[.slice ta ts.length tc] 22)).alloc (.cells #[.int .i64 15, .int .i64 width, .int .i64 flags, .slice a args.length c, .int .u32 imm] 47))
        have l0 : ∀ wk, Since ((w.alloc (.cells #[.slice ta ts.length tc] 22)).alloc (.cells #[.int .i64 15, .int .i64 width, .int .i64 flags, .slice a args.length c, .int .u32 imm] 47)) wk → wk.cell? ⟨w.heap.size, 0, none⟩ = some (.slice ta ts.length tc) := fun wk h => by rw [(bcell (show Below _ _ _ from h)).1 _ _ (by simp; try omega)]; simp [go_sem]
        have l1 : ∀ wk, Since ((w.alloc (.cells #[.slice ta ts.length tc] 22)).alloc (.cells #[.int .i64 15, .int .i64 width, .int .i64 flags, .slice a args.length c, .int .u32 imm] 47)) wk → wk.cell? ⟨w.heap.size + 1, 0, none⟩ = some (.int .i64 15) := fun wk h => by rw [(bcell (show Below _ _ _ from h)).1 _ _ (by simp; try omega)]; simp [go_sem]
        have l2 : ∀ wk, Since ((w.alloc (.cells #[.slice ta ts.length tc] 22)).alloc (.cells #[.int .i64 15, .int .i64 width, .int .i64 flags, .slice a args.length c, .int .u32 imm] 47)) wk → wk.cell? ⟨w.heap.size + 1, 1, none⟩ = some (.int .i64 width) := fun wk h => by rw [(bcell (show Below _ _ _ from h)).1 _ _ (by simp; try omega)]; simp [go_sem]
        have l3 : ∀ wk, Since ((w.alloc (.cells #[.slice ta ts.length tc] 22)).alloc (.cells #[.int .i64 15, .int .i64 width, .int .i64 flags, .slice a args.length c, .int .u32 imm] 47)) wk → wk.cell? ⟨w.heap.size + 1, 2, none⟩ = some (.int .i64 flags) := fun wk h => by rw [(bcell (show Below _ _ _ from h)).1 _ _ (by simp; try omega)]; simp [go_sem]
        have l4 : ∀ wk, Since ((w.alloc (.cells #[.slice ta ts.length tc] 22)).alloc (.cells #[.int .i64 15, .int .i64 width, .int .i64 flags, .slice a args.length c, .int .u32 imm] 47)) wk → wk.cell? ⟨w.heap.size + 1, 3, none⟩ = some (.slice a args.length c) := fun wk h => by rw [(bcell (show Below _ _ _ from h)).1 _ _ (by simp; try omega)]; simp [go_sem]
        have l5 : ∀ wk, Since ((w.alloc (.cells #[.slice ta ts.length tc] 22)).alloc (.cells #[.int .i64 15, .int .i64 width, .int .i64 flags, .slice a args.length c, .int .u32 imm] 47)) wk → wk.cell? ⟨w.heap.size + 1, 4, none⟩ = some (.int .u32 imm) := fun wk h => by rw [(bcell (show Below _ _ _ from h)).1 _ _ (by simp; try omega)]; simp [go_sem]
        have hn : ∀ wk, Since ((w.alloc (.cells #[.slice ta ts.length tc] 22)).alloc (.cells #[.int .i64 15, .int .i64 width, .int .i64 flags, .slice a args.length c, .int .u32 imm] 47)) wk → Nds wk (.slice ta ts.length tc) ts := fun wk h => HT.out.stays (below_box (below_box h))
        have hin : ∀ wk, Since ((w.alloc (.cells #[.slice ta ts.length tc] 22)).alloc (.cells #[.int .i64 15, .int .i64 width, .int .i64 flags, .slice a args.length c, .int .u32 imm] 47)) wk → Ints .i64 wk (.slice a args.length c) args := fun wk h => HV.out.stays (below_box (below_box h))
        go_enter Try.func47, Try.ntmps47
        go_wp2_with fail
        go_quiet (first | (go_at_call 76; with_reducible exact Calls.quiet_of (typed1_0 ts args _ _ _ _ _ (l0 _ (h00.drewN _)) (l4 _ (h00.drewN _)) (hn _ (h00.drewN _)) (hin _ (h00.drewN _)) (by omega) HR.out)) | (go_at_call 76; with_reducible exact Calls.quiet_of (typed1_1 ts args _ _ _ _ _ (l0 _ (h00.drewN _)) (l4 _ (h00.drewN _)) (hn _ (h00.drewN _)) (hin _ (h00.drewN _)) (by omega) HR.out)) | (go_at_call 76; with_reducible exact Calls.quiet_of (typed1_2 ts args _ _ _ _ _ (l0 _ (h00.drewN _)) (l4 _ (h00.drewN _)) (hn _ (h00.drewN _)) (hin _ (h00.drewN _)) (by omega) HR.out)))
        go_wp2_with fail
        go_ret
        exact ⟨rfl, by repeat (first | with_reducible exact Below.refl _ _ | with_reducible refine below_drewN ?_ _ | with_reducible refine Below.alloc ?_ (by simp; try omega) _)⟩
      · have e : typed ts ⟨15, width, flags, args, imm⟩ = (wdt ts args 2 == width) := by simp [typed, c1, c2]
        rw [e]
        clear e
        have h00 := Since.refl ((w.alloc (.cells #[.slice ta ts.length tc] 22)).alloc (.cells #[.int .i64 15, .int .i64 width, .int .i64 flags, .slice a args.length c, .int .u32 imm] 47))
        have l0 : ∀ wk, Since ((w.alloc (.cells #[.slice ta ts.length tc] 22)).alloc (.cells #[.int .i64 15, .int .i64 width, .int .i64 flags, .slice a args.length c, .int .u32 imm] 47)) wk → wk.cell? ⟨w.heap.size, 0, none⟩ = some (.slice ta ts.length tc) := fun wk h => by rw [(bcell (show Below _ _ _ from h)).1 _ _ (by simp; try omega)]; simp [go_sem]
        have l1 : ∀ wk, Since ((w.alloc (.cells #[.slice ta ts.length tc] 22)).alloc (.cells #[.int .i64 15, .int .i64 width, .int .i64 flags, .slice a args.length c, .int .u32 imm] 47)) wk → wk.cell? ⟨w.heap.size + 1, 0, none⟩ = some (.int .i64 15) := fun wk h => by rw [(bcell (show Below _ _ _ from h)).1 _ _ (by simp; try omega)]; simp [go_sem]
        have l2 : ∀ wk, Since ((w.alloc (.cells #[.slice ta ts.length tc] 22)).alloc (.cells #[.int .i64 15, .int .i64 width, .int .i64 flags, .slice a args.length c, .int .u32 imm] 47)) wk → wk.cell? ⟨w.heap.size + 1, 1, none⟩ = some (.int .i64 width) := fun wk h => by rw [(bcell (show Below _ _ _ from h)).1 _ _ (by simp; try omega)]; simp [go_sem]
        have l3 : ∀ wk, Since ((w.alloc (.cells #[.slice ta ts.length tc] 22)).alloc (.cells #[.int .i64 15, .int .i64 width, .int .i64 flags, .slice a args.length c, .int .u32 imm] 47)) wk → wk.cell? ⟨w.heap.size + 1, 2, none⟩ = some (.int .i64 flags) := fun wk h => by rw [(bcell (show Below _ _ _ from h)).1 _ _ (by simp; try omega)]; simp [go_sem]
        have l4 : ∀ wk, Since ((w.alloc (.cells #[.slice ta ts.length tc] 22)).alloc (.cells #[.int .i64 15, .int .i64 width, .int .i64 flags, .slice a args.length c, .int .u32 imm] 47)) wk → wk.cell? ⟨w.heap.size + 1, 3, none⟩ = some (.slice a args.length c) := fun wk h => by rw [(bcell (show Below _ _ _ from h)).1 _ _ (by simp; try omega)]; simp [go_sem]
        have l5 : ∀ wk, Since ((w.alloc (.cells #[.slice ta ts.length tc] 22)).alloc (.cells #[.int .i64 15, .int .i64 width, .int .i64 flags, .slice a args.length c, .int .u32 imm] 47)) wk → wk.cell? ⟨w.heap.size + 1, 4, none⟩ = some (.int .u32 imm) := fun wk h => by rw [(bcell (show Below _ _ _ from h)).1 _ _ (by simp; try omega)]; simp [go_sem]
        have hn : ∀ wk, Since ((w.alloc (.cells #[.slice ta ts.length tc] 22)).alloc (.cells #[.int .i64 15, .int .i64 width, .int .i64 flags, .slice a args.length c, .int .u32 imm] 47)) wk → Nds wk (.slice ta ts.length tc) ts := fun wk h => HT.out.stays (below_box (below_box h))
        have hin : ∀ wk, Since ((w.alloc (.cells #[.slice ta ts.length tc] 22)).alloc (.cells #[.int .i64 15, .int .i64 width, .int .i64 flags, .slice a args.length c, .int .u32 imm] 47)) wk → Ints .i64 wk (.slice a args.length c) args := fun wk h => HV.out.stays (below_box (below_box h))
        go_enter Try.func47, Try.ntmps47
        go_wp2_with fail
        go_quiet (first | (go_at_call 76; with_reducible exact Calls.quiet_of (typed1_0 ts args _ _ _ _ _ (l0 _ (h00.drewN _)) (l4 _ (h00.drewN _)) (hn _ (h00.drewN _)) (hin _ (h00.drewN _)) (by omega) HR.out)) | (go_at_call 76; with_reducible exact Calls.quiet_of (typed1_1 ts args _ _ _ _ _ (l0 _ (h00.drewN _)) (l4 _ (h00.drewN _)) (hn _ (h00.drewN _)) (hin _ (h00.drewN _)) (by omega) HR.out)) | (go_at_call 76; with_reducible exact Calls.quiet_of (typed1_2 ts args _ _ _ _ _ (l0 _ (h00.drewN _)) (l4 _ (h00.drewN _)) (hn _ (h00.drewN _)) (hin _ (h00.drewN _)) (by omega) HR.out)))
        go_wp2_with fail
        go_ret
        exact ⟨rfl, by repeat (first | with_reducible exact Below.refl _ _ | with_reducible refine below_drewN ?_ _ | with_reducible refine Below.alloc ?_ (by simp; try omega) _)⟩
  · have n1 : 0 < args.length := by omega
    clear hlen hpos e0
    have h3 : op = 16 ∨ op = 17 ∨ op = 18 := by omega
    rcases h3 with rfl | rfl | rfl
    · have e : typed ts ⟨16, width, flags, args, imm⟩ = decide (wdt ts args 0 < width) := by simp [typed]
      rw [e]
      clear e
      have h00 := Since.refl ((w.alloc (.cells #[.slice ta ts.length tc] 22)).alloc (.cells #[.int .i64 16, .int .i64 width, .int .i64 flags, .slice a args.length c, .int .u32 imm] 47))
      have l0 : ∀ wk, Since ((w.alloc (.cells #[.slice ta ts.length tc] 22)).alloc (.cells #[.int .i64 16, .int .i64 width, .int .i64 flags, .slice a args.length c, .int .u32 imm] 47)) wk → wk.cell? ⟨w.heap.size, 0, none⟩ = some (.slice ta ts.length tc) := fun wk h => by rw [(bcell (show Below _ _ _ from h)).1 _ _ (by simp; try omega)]; simp [go_sem]
      have l1 : ∀ wk, Since ((w.alloc (.cells #[.slice ta ts.length tc] 22)).alloc (.cells #[.int .i64 16, .int .i64 width, .int .i64 flags, .slice a args.length c, .int .u32 imm] 47)) wk → wk.cell? ⟨w.heap.size + 1, 0, none⟩ = some (.int .i64 16) := fun wk h => by rw [(bcell (show Below _ _ _ from h)).1 _ _ (by simp; try omega)]; simp [go_sem]
      have l2 : ∀ wk, Since ((w.alloc (.cells #[.slice ta ts.length tc] 22)).alloc (.cells #[.int .i64 16, .int .i64 width, .int .i64 flags, .slice a args.length c, .int .u32 imm] 47)) wk → wk.cell? ⟨w.heap.size + 1, 1, none⟩ = some (.int .i64 width) := fun wk h => by rw [(bcell (show Below _ _ _ from h)).1 _ _ (by simp; try omega)]; simp [go_sem]
      have l3 : ∀ wk, Since ((w.alloc (.cells #[.slice ta ts.length tc] 22)).alloc (.cells #[.int .i64 16, .int .i64 width, .int .i64 flags, .slice a args.length c, .int .u32 imm] 47)) wk → wk.cell? ⟨w.heap.size + 1, 2, none⟩ = some (.int .i64 flags) := fun wk h => by rw [(bcell (show Below _ _ _ from h)).1 _ _ (by simp; try omega)]; simp [go_sem]
      have l4 : ∀ wk, Since ((w.alloc (.cells #[.slice ta ts.length tc] 22)).alloc (.cells #[.int .i64 16, .int .i64 width, .int .i64 flags, .slice a args.length c, .int .u32 imm] 47)) wk → wk.cell? ⟨w.heap.size + 1, 3, none⟩ = some (.slice a args.length c) := fun wk h => by rw [(bcell (show Below _ _ _ from h)).1 _ _ (by simp; try omega)]; simp [go_sem]
      have l5 : ∀ wk, Since ((w.alloc (.cells #[.slice ta ts.length tc] 22)).alloc (.cells #[.int .i64 16, .int .i64 width, .int .i64 flags, .slice a args.length c, .int .u32 imm] 47)) wk → wk.cell? ⟨w.heap.size + 1, 4, none⟩ = some (.int .u32 imm) := fun wk h => by rw [(bcell (show Below _ _ _ from h)).1 _ _ (by simp; try omega)]; simp [go_sem]
      have hn : ∀ wk, Since ((w.alloc (.cells #[.slice ta ts.length tc] 22)).alloc (.cells #[.int .i64 16, .int .i64 width, .int .i64 flags, .slice a args.length c, .int .u32 imm] 47)) wk → Nds wk (.slice ta ts.length tc) ts := fun wk h => HT.out.stays (below_box (below_box h))
      have hin : ∀ wk, Since ((w.alloc (.cells #[.slice ta ts.length tc] 22)).alloc (.cells #[.int .i64 16, .int .i64 width, .int .i64 flags, .slice a args.length c, .int .u32 imm] 47)) wk → Ints .i64 wk (.slice a args.length c) args := fun wk h => HV.out.stays (below_box (below_box h))
      go_enter Try.func47, Try.ntmps47
      go_wp2_with fail
      go_quiet (first | (go_at_call 76; with_reducible exact Calls.quiet_of (typed1_0 ts args _ _ _ _ _ (l0 _ (h00.drewN _)) (l4 _ (h00.drewN _)) (hn _ (h00.drewN _)) (hin _ (h00.drewN _)) (by omega) HR.out)))
      go_wp2_with fail
      go_ret
      exact ⟨rfl, by repeat (first | with_reducible exact Below.refl _ _ | with_reducible refine below_drewN ?_ _ | with_reducible refine Below.alloc ?_ (by simp; try omega) _)⟩
    · have e : typed ts ⟨17, width, flags, args, imm⟩ = decide (wdt ts args 0 < width) := by simp [typed]
      rw [e]
      clear e
      have h00 := Since.refl ((w.alloc (.cells #[.slice ta ts.length tc] 22)).alloc (.cells #[.int .i64 17, .int .i64 width, .int .i64 flags, .slice a args.length c, .int .u32 imm] 47))
      have l0 : ∀ wk, Since ((w.alloc (.cells #[.slice ta ts.length tc] 22)).alloc (.cells #[.int .i64 17, .int .i64 width, .int .i64 flags, .slice a args.length c, .int .u32 imm] 47)) wk → wk.cell? ⟨w.heap.size, 0, none⟩ = some (.slice ta ts.length tc) := fun wk h => by rw [(bcell (show Below _ _ _ from h)).1 _ _ (by simp; try omega)]; simp [go_sem]
      have l1 : ∀ wk, Since ((w.alloc (.cells #[.slice ta ts.length tc] 22)).alloc (.cells #[.int .i64 17, .int .i64 width, .int .i64 flags, .slice a args.length c, .int .u32 imm] 47)) wk → wk.cell? ⟨w.heap.size + 1, 0, none⟩ = some (.int .i64 17) := fun wk h => by rw [(bcell (show Below _ _ _ from h)).1 _ _ (by simp; try omega)]; simp [go_sem]
      have l2 : ∀ wk, Since ((w.alloc (.cells #[.slice ta ts.length tc] 22)).alloc (.cells #[.int .i64 17, .int .i64 width, .int .i64 flags, .slice a args.length c, .int .u32 imm] 47)) wk → wk.cell? ⟨w.heap.size + 1, 1, none⟩ = some (.int .i64 width) := fun wk h => by rw [(bcell (show Below _ _ _ from h)).1 _ _ (by simp; try omega)]; simp [go_sem]
      have l3 : ∀ wk, Since ((w.alloc (.cells #[.slice ta ts.length tc] 22)).alloc (.cells #[.int .i64 17, .int .i64 width, .int .i64 flags, .slice a args.length c, .int .u32 imm] 47)) wk → wk.cell? ⟨w.heap.size + 1, 2, none⟩ = some (.int .i64 flags) := fun wk h => by rw [(bcell (show Below _ _ _ from h)).1 _ _ (by simp; try omega)]; simp [go_sem]
      have l4 : ∀ wk, Since ((w.alloc (.cells #[.slice ta ts.length tc] 22)).alloc (.cells #[.int .i64 17, .int .i64 width, .int .i64 flags, .slice a args.length c, .int .u32 imm] 47)) wk → wk.cell? ⟨w.heap.size + 1, 3, none⟩ = some (.slice a args.length c) := fun wk h => by rw [(bcell (show Below _ _ _ from h)).1 _ _ (by simp; try omega)]; simp [go_sem]
      have l5 : ∀ wk, Since ((w.alloc (.cells #[.slice ta ts.length tc] 22)).alloc (.cells #[.int .i64 17, .int .i64 width, .int .i64 flags, .slice a args.length c, .int .u32 imm] 47)) wk → wk.cell? ⟨w.heap.size + 1, 4, none⟩ = some (.int .u32 imm) := fun wk h => by rw [(bcell (show Below _ _ _ from h)).1 _ _ (by simp; try omega)]; simp [go_sem]
      have hn : ∀ wk, Since ((w.alloc (.cells #[.slice ta ts.length tc] 22)).alloc (.cells #[.int .i64 17, .int .i64 width, .int .i64 flags, .slice a args.length c, .int .u32 imm] 47)) wk → Nds wk (.slice ta ts.length tc) ts := fun wk h => HT.out.stays (below_box (below_box h))
      have hin : ∀ wk, Since ((w.alloc (.cells #[.slice ta ts.length tc] 22)).alloc (.cells #[.int .i64 17, .int .i64 width, .int .i64 flags, .slice a args.length c, .int .u32 imm] 47)) wk → Ints .i64 wk (.slice a args.length c) args := fun wk h => HV.out.stays (below_box (below_box h))
      go_enter Try.func47, Try.ntmps47
      go_wp2_with fail
      go_quiet (first | (go_at_call 76; with_reducible exact Calls.quiet_of (typed1_0 ts args _ _ _ _ _ (l0 _ (h00.drewN _)) (l4 _ (h00.drewN _)) (hn _ (h00.drewN _)) (hin _ (h00.drewN _)) (by omega) HR.out)))
      go_wp2_with fail
      go_ret
      exact ⟨rfl, by repeat (first | with_reducible exact Below.refl _ _ | with_reducible refine below_drewN ?_ _ | with_reducible refine Below.alloc ?_ (by simp; try omega) _)⟩
    · have e : typed ts ⟨18, width, flags, args, imm⟩ = decide (width < wdt ts args 0) := by simp [typed]
      rw [e]
      clear e
      have h00 := Since.refl ((w.alloc (.cells #[.slice ta ts.length tc] 22)).alloc (.cells #[.int .i64 18, .int .i64 width, .int .i64 flags, .slice a args.length c, .int .u32 imm] 47))
      have l0 : ∀ wk, Since ((w.alloc (.cells #[.slice ta ts.length tc] 22)).alloc (.cells #[.int .i64 18, .int .i64 width, .int .i64 flags, .slice a args.length c, .int .u32 imm] 47)) wk → wk.cell? ⟨w.heap.size, 0, none⟩ = some (.slice ta ts.length tc) := fun wk h => by rw [(bcell (show Below _ _ _ from h)).1 _ _ (by simp; try omega)]; simp [go_sem]
      have l1 : ∀ wk, Since ((w.alloc (.cells #[.slice ta ts.length tc] 22)).alloc (.cells #[.int .i64 18, .int .i64 width, .int .i64 flags, .slice a args.length c, .int .u32 imm] 47)) wk → wk.cell? ⟨w.heap.size + 1, 0, none⟩ = some (.int .i64 18) := fun wk h => by rw [(bcell (show Below _ _ _ from h)).1 _ _ (by simp; try omega)]; simp [go_sem]
      have l2 : ∀ wk, Since ((w.alloc (.cells #[.slice ta ts.length tc] 22)).alloc (.cells #[.int .i64 18, .int .i64 width, .int .i64 flags, .slice a args.length c, .int .u32 imm] 47)) wk → wk.cell? ⟨w.heap.size + 1, 1, none⟩ = some (.int .i64 width) := fun wk h => by rw [(bcell (show Below _ _ _ from h)).1 _ _ (by simp; try omega)]; simp [go_sem]
      have l3 : ∀ wk, Since ((w.alloc (.cells #[.slice ta ts.length tc] 22)).alloc (.cells #[.int .i64 18, .int .i64 width, .int .i64 flags, .slice a args.length c, .int .u32 imm] 47)) wk → wk.cell? ⟨w.heap.size + 1, 2, none⟩ = some (.int .i64 flags) := fun wk h => by rw [(bcell (show Below _ _ _ from h)).1 _ _ (by simp; try omega)]; simp [go_sem]
      have l4 : ∀ wk, Since ((w.alloc (.cells #[.slice ta ts.length tc] 22)).alloc (.cells #[.int .i64 18, .int .i64 width, .int .i64 flags, .slice a args.length c, .int .u32 imm] 47)) wk → wk.cell? ⟨w.heap.size + 1, 3, none⟩ = some (.slice a args.length c) := fun wk h => by rw [(bcell (show Below _ _ _ from h)).1 _ _ (by simp; try omega)]; simp [go_sem]
      have l5 : ∀ wk, Since ((w.alloc (.cells #[.slice ta ts.length tc] 22)).alloc (.cells #[.int .i64 18, .int .i64 width, .int .i64 flags, .slice a args.length c, .int .u32 imm] 47)) wk → wk.cell? ⟨w.heap.size + 1, 4, none⟩ = some (.int .u32 imm) := fun wk h => by rw [(bcell (show Below _ _ _ from h)).1 _ _ (by simp; try omega)]; simp [go_sem]
      have hn : ∀ wk, Since ((w.alloc (.cells #[.slice ta ts.length tc] 22)).alloc (.cells #[.int .i64 18, .int .i64 width, .int .i64 flags, .slice a args.length c, .int .u32 imm] 47)) wk → Nds wk (.slice ta ts.length tc) ts := fun wk h => HT.out.stays (below_box (below_box h))
      have hin : ∀ wk, Since ((w.alloc (.cells #[.slice ta ts.length tc] 22)).alloc (.cells #[.int .i64 18, .int .i64 width, .int .i64 flags, .slice a args.length c, .int .u32 imm] 47)) wk → Ints .i64 wk (.slice a args.length c) args := fun wk h => HV.out.stays (below_box (below_box h))
      go_enter Try.func47, Try.ntmps47
      go_wp2_with fail
      go_quiet (first | (go_at_call 76; with_reducible exact Calls.quiet_of (typed1_0 ts args _ _ _ _ _ (l0 _ (h00.drewN _)) (l4 _ (h00.drewN _)) (hn _ (h00.drewN _)) (hin _ (h00.drewN _)) (by omega) HR.out)))
      go_wp2_with fail
      go_ret
      exact ⟨rfl, by repeat (first | with_reducible exact Below.refl _ _ | with_reducible refine below_drewN ?_ _ | with_reducible refine Below.alloc ?_ (by simp; try omega) _)⟩
  · omega

end Go.Proofs.Ythopdfikikdcbaa
/- Walks of package term: the widths of the variables, and which terms are valid. -/
namespace Go.Proofs.Ythopdfikikdcbaa
open Go.RowKit Wd
set_option linter.unusedVariables false
set_option linter.unusedSimpArgs false
/-- The widths of the variables behind one node more; none if a variable has two. -/
def wstep (l : Option (List Int)) (x : Nd) : Option (List Int) :=
  match l with
  | none => none
  | some l => if x.op = 33 then (if l.getD x.imm.toNat 0 ≠ 0 ∧ l.getD x.imm.toNat 0 ≠ x.width then none else some (l.set x.imm.toNat x.width)) else some l
def wmap (ts : List Nd) : Option (List Int) := ts.foldl wstep (some [0, 0, 0, 0])
theorem take_snoc {α : Type} [Inhabited α] (l : List α) (j : Nat) (h : j < l.length) : l.take (j + 1) = l.take j ++ [l.getD j default] := by
  rw [List.take_succ_eq_append_getElem h, List.getD_eq_getElem?_getD, List.getElem?_eq_getElem h]; rfl
theorem wmap_snoc (ts : List Nd) (j : Nat) (h : j < ts.length) : wmap (ts.take (j + 1)) = wstep (wmap (ts.take j)) (ts.getD j default) := by
  unfold wmap; rw [take_snoc ts j h, List.foldl_append]; rfl
theorem wstep_none (ts : List Nd) : ts.foldl wstep none = none := by
  induction ts with
  | nil => rfl
  | cons x ts ih => exact ih
theorem wmap_dead (ts : List Nd) (j : Nat) (h : wmap (ts.take j) = none) : wmap ts = none := by
  have e : ts = ts.take j ++ ts.drop j := (List.take_append_drop j ts).symm
  unfold wmap at *
  rw [e, List.foldl_append, h, wstep_none]
theorem wstep_len {l l' : List Int} {x : Nd} (h : wstep (some l) x = some l') : l'.length = l.length := by
  simp only [wstep] at h
  by_cases c : x.op = 33
  · rw [if_pos c] at h
    by_cases d : l.getD x.imm.toNat 0 ≠ 0 ∧ l.getD x.imm.toNat 0 ≠ x.width
    · rw [if_pos d] at h; cases h
    · rw [if_neg d] at h; cases h; simp
  · rw [if_neg c] at h; cases h; rfl
theorem wstep_var {l : List Int} {w : Int} {f : Int} {g : List Int} {k : Nat} (h : l.getD k 0 = 0 ∨ l.getD k 0 = w) : wstep (some l) ⟨33, w, f, g, k⟩ = some (l.set k w) := by
  simp only [wstep, if_true, Int.toNat_natCast]
  rw [if_neg (by omega)]
theorem wstep_bad {l : List Int} {w : Int} {f : Int} {g : List Int} {k : Nat} (h : ¬ (l.getD k 0 = 0 ∨ l.getD k 0 = w)) : wstep (some l) ⟨33, w, f, g, k⟩ = none := by
  simp only [wstep, if_true, Int.toNat_natCast]
  rw [if_pos (by omega)]
theorem wstep_other {l : List Int} {x : Nd} (h : x.op ≠ 33) : wstep (some l) x = some l := by
  simp only [wstep, if_neg h]
theorem mem_getD {α : Type} [Inhabited α] {l : List α} {j : Nat} (h : j < l.length) : l.getD j default ∈ l := by
  rw [List.getD_eq_getElem?_getD, List.getElem?_eq_getElem h]; exact List.getElem_mem h

/-- Block B of w holds the integers xs, and may be written. -/
def OInts (k : IntKind) (w : World) (B : Nat) (xs : List Int) : Prop :=
  B < w.heap.size ∧ ∀ i, i < xs.length → w.cell? ⟨B, i, none⟩ = some (.int k (xs.getD i 0)) ∧ w.frozen? ⟨B, i, none⟩ = false
theorem OInts.cell {k : IntKind} {w : World} {B : Nat} {xs : List Int} (h : OInts k w B xs) {i : Nat} (hi : i < xs.length) : w.cell? ⟨B, i, none⟩ = some (.int k (xs.getD i 0)) := (h.2 i hi).1
theorem OInts.free {k : IntKind} {w : World} {B : Nat} {xs : List Int} (h : OInts k w B xs) {i : Nat} (hi : i < xs.length) : w.frozen? ⟨B, i, none⟩ = false := (h.2 i hi).2
theorem OInts.below {k : IntKind} {w w' : World} {B : Nat} {xs : List Int} (h : OInts k w B xs) (hb : Below w.heap.size w w') : OInts k w' B xs :=
  ⟨Nat.lt_of_lt_of_le h.1 hb.size, fun i hi => ⟨by rw [← h.cell hi]; exact hb.cell (p := ⟨B, i, none⟩) h.1, by rw [← h.free hi]; exact hb.frozen (p := ⟨B, i, none⟩) h.1⟩⟩
theorem OInts.alloc {k : IntKind} {w : World} {B : Nat} {xs : List Int} (h : OInts k w B xs) (ob : Obj) : OInts k (w.alloc ob) B xs := h.below ((Below.refl _ _).alloc (Nat.le_refl _) _)
theorem OInts.drewN {k : IntKind} {w : World} {B : Nat} {xs : List Int} (h : OInts k w B xs) (n : Nat) : OInts k (w.drewN n) B xs := h
theorem OInts.set {k : IntKind} {w : World} {B : Nat} {xs : List Int} (h : OInts k w B xs) {i : Nat} (hi : i < xs.length) (x : Int) : OInts k (w.setCell ⟨B, i, none⟩ (.int k x)) B (xs.set i x) := by
  refine ⟨by simpa using h.1, fun j hj => ?_⟩
  rw [List.length_set] at hj
  refine ⟨?_, by rw [World.frozen?_setCell]; exact h.free hj⟩
  by_cases e : i = j
  · subst e
    rw [World.cell?_setCell_same _ _ _ (h.cell hi), List.getD_eq_getElem?_getD, List.getElem?_set_self hi]; rfl
  · rw [World.cell?_setCell_other _ _ _ _ (by intro hh; cases hh; exact e rfl), h.cell hj, List.getD_eq_getElem?_getD, List.getD_eq_getElem?_getD, List.getElem?_set_ne e]
theorem OInts.ints {k : IntKind} {w : World} {B : Nat} {xs : List Int} (h : OInts k w B xs) (hl : xs.length ≤ 140737488351232) : Ints k w (.slice (some ⟨B, 0, none⟩) xs.length xs.length) xs :=
  ⟨some ⟨B, 0, none⟩, xs.length, rfl, Nat.le_refl _, ⟨hl, by omega⟩, (fun hh => by cases hh), fun i hi => ⟨B, 0, rfl, h.1, by rw [Nat.mul_one, Nat.zero_add]; exact h.cell hi⟩⟩
theorem wmap_len {ts : List Nd} {l : List Int} : wmap ts = some l → l.length = 4 := by
  have h : ∀ (ts : List Nd) (l0 : List Int), ts.foldl wstep (some l0) = some l → l.length = l0.length := by
    intro ts
    induction ts with
    | nil => intro l0 h; cases h; rfl
    | cons x ts ih =>
      intro l0 h
      rw [List.foldl_cons] at h
      cases e : wstep (some l0) x with
      | none => rw [e, wstep_none] at h; cases h
      | some l1 => rw [e] at h; rw [ih l1 h, wstep_len e]
  intro h'
  exact h ts [0, 0, 0, 0] h'

set_option maxRecDepth 100000 in
set_option maxHeartbeats 4000000 in
theorem widths_any (ts : List Nd) (tv : Value) (w : World) (hts : Nds w tv ts) (hi : ∀ x ∈ ts, 0 ≤ x.imm ∧ (x.op = 33 → x.imm < 4)) : Calls Try.prog 44 #[tv] w fun e w' => ∃ v, e = .returned (.tuple #[v, .bool (wmap ts).isSome]) ∧ (∀ l, wmap ts = some l → Ints .i64 w' v l) ∧ (wmap ts = none → v = .slice none 0 0) ∧ Below w.heap.size w w' := by
  have HT := Lib.hid hts
  have HI := Lib.hid hi
  obtain ⟨ta, tc, rfl, ht1, ht2, ht3, ht4⟩ := hts
  have hlen : ts.length ≤ 140737488351232 := by omega
  clear hi ht3 ht4
  have hmk : ∀ w : World, (Instr.makeSlice 25 (.int .i64 4) (.int .i64 4)).run Try.prog w = .ok (.slice (some ⟨w.heap.size, 0, none⟩) 4 4) (w.alloc (.cells #[.int .i64 0, .int .i64 0, .int .i64 0, .int .i64 0] 3)) := fun _ => by kernel_rfl
  go_enter Try.func44, Try.ntmps44
  go_wp2_with fail
  go_loopw [11] (fun i wr => ∃ (j : Nat) (l : List Int), j ≤ ts.length ∧ i = .int .i64 j ∧ Hid (wmap (ts.take j) = some l) ∧ l.length = 4 ∧ OInts .i64 wr w.heap.size l ∧ Below w.heap.size w wr) (fun i _ => ts.length - (intOf i).toNat)
  case atStart =>
    refine ⟨0, [0, 0, 0, 0], Nat.zero_le _, rfl, rfl, rfl, ⟨by simp, fun i hi => ?_⟩, (Below.refl _ _).alloc (Nat.le_refl _) _⟩
    have : i = 0 ∨ i = 1 ∨ i = 2 ∨ i = 3 := by simp at hi; omega
    rcases this with rfl | rfl | rfl | rfl <;> simp [go_sem]
  case round =>
    obtain ⟨j, l, hj, rfl, hm, h4, ho, hb⟩ := hrel
    have hBs := ho.1
    by_cases hlt : j < ts.length
    · have hx := HI.out _ (mem_getD hlt)
      have hn := HT.out.stays hb
      obtain ⟨a', c', e', _, _, _, hcell⟩ := hn
      cases e'
      obtain ⟨b, q, rfl, hbq, c0, c1, c2, ⟨av, c3, hav⟩, c4⟩ := hcell j hlt
      have HS := Lib.hid (wmap_snoc ts j hlt)
      clear hcell
      generalize ts.getD j default = x at *
      obtain ⟨op, width, flags, args, imm⟩ := x
      obtain ⟨aa, ac, rfl, _⟩ := hav
      simp only at hx c0 c1 c2 c3 c4
      obtain ⟨k, rfl⟩ := Int.eq_ofNat_of_zero_le hx.1
      cases h33 : (op != 33)
      · have e33 : op = 33 := by simpa using h33
        have hk := hx.2 e33
        subst e33
        have hk4 : k < l.length := by omega
        have d0 := ho.cell hk4
        have d1 := ho.free hk4
        clear hx
        generalize hy : l.getD k 0 = y at d0
        have HY := Lib.hid hy
        clear hy
        cases hz : (y != 0)
        · have HZ : Hid (y = 0) := by have : y = 0 := by simpa using hz
                                      exact this
          go_wp2_with fail
          go_roundw
          case rel => exact ⟨j + 1, l.set k width, by omega, by go_num, by rw [HS.out, hm.out]; exact wstep_var (.inl (by rw [HY.out, HZ.out])), by simp [h4], (ho.set hk4 width).alloc _, (below_at hb (Nat.le_refl _) _ _).alloc (by simp; omega) _⟩
          case measure => simp [intOf]; omega
        · have HZ : Hid (¬ y = 0) := by have : ¬ y = 0 := by simpa using hz
                                        exact this
          cases hq : (y != width)
          · have HQ : Hid (y = width) := by have : y = width := by simpa using hq
                                            exact this
            go_wp2_with fail
            go_roundw
            case rel => exact ⟨j + 1, l.set k width, by omega, by go_num, by rw [HS.out, hm.out]; exact wstep_var (.inr (by rw [HY.out, HQ.out])), by simp [h4], (ho.set hk4 width).alloc _, (below_at hb (Nat.le_refl _) _ _).alloc (by simp; omega) _⟩
            case measure => simp [intOf]; omega
          · have HQ : Hid (¬ y = width) := by have : ¬ y = width := by simpa using hq
                                              exact this
            have hd : wmap ts = none := wmap_dead ts (j + 1) (by rw [HS.out, hm.out]; exact wstep_bad (by rw [HY.out]; intro h; rcases h with h | h; exact HZ.out h; exact HQ.out h))
            have HD := Lib.hid hd
            clear hd
            go_wp2_with fail
            rw [HD.out]
            go_ret2
            exact ⟨_, rfl, (fun l' h' => by cases h'), (fun _ => rfl), hb.alloc hb.size _⟩
      · clear hx
        go_wp2_with fail
        go_roundw
        case rel => exact ⟨j + 1, l, by omega, by go_num, by rw [HS.out, hm.out]; exact wstep_other (by simpa using h33), h4, ho.alloc _, hb.alloc hb.size _⟩
        case measure => simp [intOf]; omega
    · obtain rfl : j = ts.length := by omega
      go_wp2_with fail
      have hm' := hm.out
      rw [List.take_length] at hm'
      rw [hm']
      go_ret2
      refine ⟨_, rfl, ?_, ?_, hb⟩
      · intro l' h'
        cases h'
        have := ho.ints (by omega)
        rw [h4] at this
        exact this
      · intro h'
        cases h'

end Go.Proofs.Ythopdfikikdcbaa
/- Walks of package backstayref07: which nodes are right. -/
namespace Go.Proofs.Ythopdfikikdcbaa
open Go.RowKit Wd
set_option linter.unusedVariables false
set_option linter.unusedSimpArgs false
theorem Nds.at {w : World} {v : Value} {ts : List Nd} (h : Nds w v ts) {k : Nat} (hk : k < ts.length) : ∃ b q c, v = .slice (some ⟨b, q, none⟩) ts.length c ∧ ts.length ≤ c ∧ ts.length ≤ 140737488351232 ∧ b < w.heap.size ∧ NdAt w b (q + k * 5) (ts.getD k default) := by
  obtain ⟨a, c, rfl, h1, h2, _, h4⟩ := h
  obtain ⟨b, q, rfl, h5, h6⟩ := h4 k hk
  exact ⟨b, q, c, rfl, h1, by omega, h5, h6⟩

set_option maxRecDepth 100000 in
theorem r7IsWidth_any (n : Int) (w : World) : Calls Try.prog 102 #[.int .i64 n] w fun e w' => e = .returned (.bool (isW n)) ∧ w = w' := by
  by_cases h1 : 1 ≤ n <;> by_cases h2 : n ≤ 32
  all_goals
    go_enter Try.func102, Try.ntmps102
    go_wp2
    go_ret
    exact ⟨ret_b (by simp [isW, h1, h2]), rfl⟩

set_option maxRecDepth 100000 in
set_option maxHeartbeats 8000000 in
theorem rArg (ts : List Nd) (tv : Value) (k : Nat) (w : World) (hts : Nds w tv ts) (hk : k < ts.length) (i1 : 0 ≤ (ts.getD k default).imm) (i2 : (ts.getD k default).imm ≤ 4294967295) : Calls Try.prog 77 #[tv, .int .i64 k, .bool true] w fun e w' => e = .returned (.bool (shaped k (ts.getD k default))) ∧ Below w.heap.size w w' := by
  obtain ⟨b, q, c, rfl, l1, l2, hbw, x0, x1, x2, ⟨av, x3, hV⟩, x4⟩ := hts.at hk
  clear hts
  generalize ts.length = tl at *
  generalize ts.getD k default = x at *
  obtain ⟨op, width, flags, args, imm⟩ := x
  simp only at i1 i2 x0 x1 x2 x3 x4 hV ⊢
  have HV := Lib.hid hV
  obtain ⟨av0, ac, rfl, a1, a2, _, a4⟩ := hV
  have HA := Lib.hid a4
  clear a4
  cases c1 : (arV op != (args.length : Int))
  · cases c2 : decide (arV op < 0)
    · cases c3 : isW width
      · have e : shaped (k : Int) ⟨op, width, flags, args, imm⟩ = false := by
          have : ¬ (1 ≤ width ∧ width ≤ 32) := by simpa [isW] using c3
          simp only [shaped]; simp; omega
        rw [e]
        clear e
        go_enter Try.func77, Try.ntmps77
        go_wp2_with fail
        go_quiet (first | (go_at_call 68; exact quiet_same (rArity_any _ _)) | (go_at_call 102; exact quiet_same (r7IsWidth_any _ _)))
        go_wp2_with fail
        go_ret
        exact ⟨rfl, by repeat (first | with_reducible exact Below.refl _ _ | with_reducible refine below_drewN ?_ _ | with_reducible refine Below.drew ?_ | with_reducible refine Below.alloc ?_ (by simp; try omega) _)⟩
      · cases c4 : (flags != 0)
        · have c1' : ((args.length : Int) != arV op) = false := by rw [bne_comm]; exact c1
          have c2' : (arV op != -1) = true := by have := of_decide_eq_false c2; rcases arV_cases op with h | h | h | h | h <;> simp <;> omega
          have e : shaped (k : Int) ⟨op, width, flags, args, imm⟩ = (immOk ⟨op, width, flags, args, imm⟩ && !((op == 14) && (width != 1)) && !(args.any (bad k))) := by
            have : 1 ≤ width ∧ width ≤ 32 := by simpa [isW] using c3
            have d1 : decide (width < 1) = false := by simp; omega
            have d2 : decide (32 < width) = false := by simp; omega
            simp only [shaped, c1', c2', d1, d2, c4]; simp
          have E := Lib.hid e
          clear e c1' c2'
          go_enter Try.func77, Try.ntmps77
          go_wp2_with fail
          go_quiet (first | (go_at_call 68; exact quiet_same (rArity_any _ _)) | (go_at_call 102; exact quiet_same (r7IsWidth_any _ _)))
          go_wp2_with fail
          go_loop [8] (fun i => ∃ j : Nat, j ≤ args.length ∧ i = .int .i64 j ∧ Hid (∀ i, i < j → bad k (args.getD i 0) = false)) (fun i => args.length - (intOf i).toNat)
          case atStart => exact ⟨0, Nat.zero_le _, rfl, fun i hi => absurd hi (by omega)⟩
          case round =>
            obtain ⟨j, hj, rfl, hno⟩ := hrel
            by_cases hlt : j < args.length
            · obtain ⟨b2, o2, rfl, hb2, hcell⟩ := HA.out j hlt
              simp only [Nat.mul_one] at hcell
              generalize hy : args.getD j 0 = y at *
              have HY := Lib.hid hy
              clear hy
              cases d1 : decide (y < 0)
              · cases d2 : decide ((k : Int) ≤ y)
                · have hd : bad k y = false := by simp [bad, d1, d2]
                  have HB := Lib.hid hd
                  clear hd
                  go_wp2_with fail
                  go_round
                  case rel => exact ⟨j + 1, by omega, by go_num, fun i hi => by
                    by_cases e : i = j
                    · rw [e, HY.out]; exact HB.out
                    · exact hno.out i (by omega)⟩
                  case measure => simp [intOf]; omega
                · have hd : bad k y = true := by simp [bad, d1, d2]
                  have ha : args.any (bad k) = true := any_getD hlt (by rw [HY.out]; exact hd)
                  have HF : Hid (shaped (k : Int) ⟨op, width, flags, args, imm⟩ = false) := by
                    show _ = _
                    rw [E.out]
                    rw [ha]; simp
                  clear hd ha
                  go_wp2_with fail
                  go_ret
                  exact ⟨ret_b HF.out.symm, by repeat (first | with_reducible exact Below.refl _ _ | with_reducible refine below_drewN ?_ _ | with_reducible refine Below.drew ?_ | with_reducible refine Below.alloc ?_ (by simp; try omega) _)⟩
              · have hd : bad k y = true := by simp [bad, d1]
                have ha : args.any (bad k) = true := any_getD hlt (by rw [HY.out]; exact hd)
                have HF : Hid (shaped (k : Int) ⟨op, width, flags, args, imm⟩ = false) := by
                  show _ = _
                  rw [E.out]
                  rw [ha]; simp
                clear hd ha
                go_wp2_with fail
                go_ret
                exact ⟨ret_b HF.out.symm, by repeat (first | with_reducible exact Below.refl _ _ | with_reducible refine below_drewN ?_ _ | with_reducible refine Below.drew ?_ | with_reducible refine Below.alloc ?_ (by simp; try omega) _)⟩
            · obtain rfl : j = args.length := by omega
              have ha := none_getD hno.out
              clear hno
              by_cases o0 : op = 0
              · subst o0
                have HF : Hid (shaped (k : Int) ⟨0, width, flags, args, imm⟩ = fit width imm) := by
                  show _ = _
                  rw [E.out]
                  rw [ha]; simp [immOk, c3]
                clear ha
                go_wp2_with (first | (go_at_call 85; refine (rIsWord_any _ _ _ (by omega) (by omega)).mono ?_; rintro e w' ⟨rfl, rfl⟩))
                go_ret
                exact ⟨ret_b HF.out.symm, by repeat (first | with_reducible exact Below.refl _ _ | with_reducible refine below_drewN ?_ _ | with_reducible refine Below.drew ?_ | with_reducible refine Below.alloc ?_ (by simp; try omega) _)⟩
              by_cases o33 : op = 33
              · subst o33
                have HF : Hid (shaped (k : Int) ⟨33, width, flags, args, imm⟩ = decide (imm < 4)) := by
                  show _ = _
                  rw [E.out]
                  rw [ha]; simp [immOk]
                clear ha
                go_wp2_with fail
                go_ret
                exact ⟨ret_b HF.out.symm, by repeat (first | with_reducible exact Below.refl _ _ | with_reducible refine below_drewN ?_ _ | with_reducible refine Below.drew ?_ | with_reducible refine Below.alloc ?_ (by simp; try omega) _)⟩
              by_cases o14 : op = 14
              · subst o14
                cases h1 : (width == 1)
                · have HF : Hid (shaped (k : Int) ⟨14, width, flags, args, imm⟩ = false) := by
                    show _ = _
                    rw [E.out]
                    have h2 : (width != 1) = true := by simp only [bne, h1]; rfl
                    rw [ha, h2]; simp [immOk]
                  clear ha
                  go_wp2_with fail
                  go_ret
                  exact ⟨ret_b HF.out.symm, by repeat (first | with_reducible exact Below.refl _ _ | with_reducible refine below_drewN ?_ _ | with_reducible refine Below.drew ?_ | with_reducible refine Below.alloc ?_ (by simp; try omega) _)⟩
                · have HF : Hid (shaped (k : Int) ⟨14, width, flags, args, imm⟩ = decide (imm ≤ 9)) := by
                    show _ = _
                    rw [E.out]
                    have h2 : (width != 1) = false := by simp only [bne, h1]; rfl
                    rw [ha, h2]; simp [immOk]
                  clear ha
                  go_wp2_with fail
                  go_ret
                  exact ⟨ret_b HF.out.symm, by repeat (first | with_reducible exact Below.refl _ _ | with_reducible refine below_drewN ?_ _ | with_reducible refine Below.drew ?_ | with_reducible refine Below.alloc ?_ (by simp; try omega) _)⟩
              have HF : Hid (shaped (k : Int) ⟨op, width, flags, args, imm⟩ = (imm == 0)) := by
                show _ = _
                rw [E.out]
                have h2 : (op == 14) = false := by simpa using o14
                rw [ha, h2]; simp [immOk, o0, o33, o14]
              have q0 : (op == 0) = false := by simpa using o0
              have q1 : (op == 33) = false := by simpa using o33
              have q2 : (op == 14) = false := by simpa using o14
              clear o0 o33 o14 ha
              go_wp2_with fail
              go_ret
              exact ⟨ret_b HF.out.symm, by repeat (first | with_reducible exact Below.refl _ _ | with_reducible refine below_drewN ?_ _ | with_reducible refine Below.drew ?_ | with_reducible refine Below.alloc ?_ (by simp; try omega) _)⟩
        · have e : shaped (k : Int) ⟨op, width, flags, args, imm⟩ = false := by simp only [shaped, c4]; simp
          rw [e]
          clear e
          go_enter Try.func77, Try.ntmps77
          go_wp2_with fail
          go_quiet (first | (go_at_call 68; exact quiet_same (rArity_any _ _)) | (go_at_call 102; exact quiet_same (r7IsWidth_any _ _)))
          go_wp2_with fail
          go_ret
          exact ⟨rfl, by repeat (first | with_reducible exact Below.refl _ _ | with_reducible refine below_drewN ?_ _ | with_reducible refine Below.drew ?_ | with_reducible refine Below.alloc ?_ (by simp; try omega) _)⟩
    · have c2' : (arV op != -1) = false := by have := of_decide_eq_true c2; rcases arV_cases op with h | h | h | h | h <;> simp <;> omega
      have e : shaped (k : Int) ⟨op, width, flags, args, imm⟩ = false := by simp only [shaped, c2']; simp
      rw [e]
      clear e
      clear c2'
      go_enter Try.func77, Try.ntmps77
      go_wp2_with fail
      go_quiet (first | (go_at_call 68; exact quiet_same (rArity_any _ _)) | (go_at_call 102; exact quiet_same (r7IsWidth_any _ _)))
      go_wp2_with fail
      go_ret
      exact ⟨rfl, by repeat (first | with_reducible exact Below.refl _ _ | with_reducible refine below_drewN ?_ _ | with_reducible refine Below.drew ?_ | with_reducible refine Below.alloc ?_ (by simp; try omega) _)⟩
  · have c1' : ((args.length : Int) != arV op) = true := by rw [bne_comm]; exact c1
    have e : shaped (k : Int) ⟨op, width, flags, args, imm⟩ = false := by simp only [shaped, c1']; simp
    rw [e]
    clear e
    clear c1'
    go_enter Try.func77, Try.ntmps77
    go_wp2_with fail
    go_quiet (first | (go_at_call 68; exact quiet_same (rArity_any _ _)) | (go_at_call 102; exact quiet_same (r7IsWidth_any _ _)))
    go_wp2_with fail
    go_ret
    exact ⟨rfl, by repeat (first | with_reducible exact Below.refl _ _ | with_reducible refine below_drewN ?_ _ | with_reducible refine Below.drew ?_ | with_reducible refine Below.alloc ?_ (by simp; try omega) _)⟩

end Go.Proofs.Ythopdfikikdcbaa
/- Walks of package backstayref07: which nodes are typed. -/
namespace Go.Proofs.Ythopdfikikdcbaa
open Go.RowKit Wd
set_option linter.unusedVariables false
set_option linter.unusedSimpArgs false
theorem info_int : (Try.prog.info? 3).map (fun i => (i.zero, i.size, i.bytes)) = some (some (.int .i64 0), 1, 8) := by kernel_rfl
theorem take_snoc0 (l : List Int) (j : Nat) (h : j < l.length) : l.take (j + 1) = l.take j ++ [l.getD j 0] := by
  rw [List.take_succ_eq_append_getElem h, List.getD_eq_getElem?_getD, List.getElem?_eq_getElem h]; rfl
/-- All cells of a slice that is not empty. -/
theorem Ints.row {k : IntKind} {w : World} {a : Option Addr} {n c : Nat} {xs : List Int} (h : Ints k w (.slice a n c) xs) (h0 : 0 < xs.length) : ∃ b o, a = some ⟨b, o, none⟩ ∧ b < w.heap.size ∧ ∀ i, i < xs.length → w.cell? ⟨b, o + i, none⟩ = some (.int k (xs.getD i 0)) := by
  obtain ⟨a', c', e, _, _, _, hc⟩ := h
  cases e
  obtain ⟨b, o, rfl, hb, _⟩ := hc 0 h0
  refine ⟨b, o, rfl, hb, fun i hi => ?_⟩
  obtain ⟨b', o', e2, _, hd⟩ := hc i hi
  cases e2
  rw [Nat.mul_one] at hd
  exact hd
/-- The widths of the Args. -/
def wlist (ts : List Nd) (args : List Int) : List Int := args.map fun a => (ts.getD a.toNat default).width
theorem wlist_at (ts : List Nd) (args : List Int) (i : Nat) (h : i < args.length) : (wlist ts args).getD i 0 = wdt ts args i := by
  unfold wlist wdt
  rw [List.getD_eq_getElem?_getD, List.getElem?_map, List.getElem?_eq_getElem h, List.getD_eq_getElem?_getD (l := args), List.getElem?_eq_getElem h]; rfl

set_option maxRecDepth 100000 in
set_option maxHeartbeats 8000000 in
theorem rTyped (ts : List Nd) (x : Nd) (tv v : Value) (w : World) (hts : Nds w tv ts) (hv : Ints .i64 w v x.args) (hlen : (x.args.length : Int) = arV x.op) (hr : ∀ a ∈ x.args, 0 ≤ a ∧ a < ts.length) : Calls Try.prog 78 #[tv, .agg #[.int .i64 x.op, .int .i64 x.width, .int .i64 x.flags, v, .int .u32 x.imm]] w fun e w' => e = .returned (.bool (typed ts x)) ∧ Below w.heap.size w w' := by
  obtain ⟨op, width, flags, args, imm⟩ := x
  simp only at hv hlen hr ⊢
  have HV := Lib.hid hv
  have HT := Lib.hid hts
  have HR := Lib.hid hr
  have hl3 : args.length ≤ 3 := by rcases arV_cases op with h | h | h | h | h <;> omega
  obtain ⟨a, c, rfl, hc1, hc2, hc3, hcell⟩ := hv
  obtain ⟨ta, tc, rfl, ht1, ht2, _⟩ := hts
  clear hcell hc3 hr
  have HLen := Lib.hid hlen
  clear hlen
  obtain ⟨i0, hi0, hz0, hz1, hz2⟩ := info_parts info_int
  go_enter Try.func78, Try.ntmps78
  go_wp2_with fail
  go_loopw [5, 6] (fun v i wr => ∃ j : Nat, j ≤ args.length ∧ i = .int .i64 j ∧ RowI wr (w.heap.size + 1) 3 .i64 v ((wlist ts args).take j) ∧ Below (w.heap.size + 1) (w.alloc (.cells #[.int .i64 op, .int .i64 width, .int .i64 flags, .slice a args.length c, .int .u32 imm] 47)) wr) (fun _ i _ => args.length - (intOf i).toNat)
  case atStart => exact ⟨0, Nat.zero_le _, rfl, RowI.nil _ _ _ _, Below.refl _ _⟩
  case round =>
    obtain ⟨j, hj, rfl, hrow, hb⟩ := hrel
    have hsz := hb.size
    rw [World.size_alloc] at hsz
    have hbw : Below w.heap.size w wr := below_box (by rw [World.size_alloc]; exact hb)
    have l3 : wr.cell? ⟨w.heap.size, 3, none⟩ = some (.slice a args.length c) := by rw [hb.cell (p := ⟨w.heap.size, 3, none⟩) (by show w.heap.size < w.heap.size + 1; omega)]; simp [go_sem]
    have l1 : wr.cell? ⟨w.heap.size, 1, none⟩ = some (.int .i64 width) := by rw [hb.cell (p := ⟨w.heap.size, 1, none⟩) (by show w.heap.size < w.heap.size + 1; omega)]; simp [go_sem]
    have l0 : wr.cell? ⟨w.heap.size, 0, none⟩ = some (.int .i64 op) := by rw [hb.cell (p := ⟨w.heap.size, 0, none⟩) (by show w.heap.size < w.heap.size + 1; omega)]; simp [go_sem]
    have HB := Lib.hid hb
    have HBW := Lib.hid hbw
    by_cases hlt : j < args.length
    · obtain ⟨a', c', e', _, _, _, hcell⟩ := HV.out.stays hbw
      cases e'
      obtain ⟨b1, o1, rfl, hb1, d1⟩ := hcell j hlt
      rw [Nat.mul_one] at d1
      clear hcell
      have hy := HR.out (args.getD j 0) (by rw [List.getD_eq_getElem?_getD, List.getElem?_eq_getElem hlt]; exact List.getElem_mem hlt)
      obtain ⟨m, hm⟩ := Int.eq_ofNat_of_zero_le hy.1
      rw [hm] at d1 hy
      have hm2 : m < ts.length := by omega
      obtain ⟨b2, q2, c2, e2, _, _, hb2, _, f1, _⟩ := (HT.out.stays hbw).at hm2
      cases e2
      have HW : Hid ((wlist ts args).take (j + 1) = (wlist ts args).take j ++ [(ts.getD m default).width]) := by
        show _ = _
        rw [take_snoc0 _ j (by unfold wlist; rw [List.length_map]; exact hlt), wlist_at _ _ _ hlt]
        unfold wdt
        rw [hm]; rfl
      generalize (ts.getD m default).width = y at *
      have htl : ((wlist ts args).take j).length = j := by rw [List.length_take]; unfold wlist; rw [List.length_map]; omega
      generalize (wlist ts args).take j = l at *
      obtain ⟨va, vc, rfl⟩ := hrow.shape
      unfold RowI at hrow
      rw [htl] at hrow ⊢
      have HO0 := Lib.hid hrow
      have HTL := Lib.hid htl
      clear htl hm hy hb hbw hrow
      go_wp2_with (at_builtin; refine wpList_append_own _ rfl _ _ 25 rfl (w.heap.size + 1) 3 i0 (.int .i64 0) 1 8 Try.underlying25 hi0 hz0 hz1 hz2 rfl (by decide) _ _ _ rfl (HO0.out.alloc _) ⟨wr.heap.size, 0, none⟩ 1 1 [.int .i64 (y)] rfl rfl ?c1 ?c2 ?c3 ?c4 ?c5 ?_)
      case c1 =>
        intro i u h
        rcases i with _ | i
        · cases h; simp [go_sem, Addr.add]
        · cases h
      case c2 => simp [Value.oneCell']
      case c3 => unfold maxLen; omega
      case c4 => omega
      case c5 => simp; omega
      intro v' w1 hown' hgrow _
      have HO := Lib.hid hown'
      have HG := Lib.hid hgrow
      clear hown' hgrow
      go_wp2_with fail
      go_roundw
      case rel => exact ⟨j + 1, by omega, by go_num, RowI.app1 HO.out HTL.out HW.out, (HB.out.alloc (by omega) _).grown HG.out (by simp; omega) (own_ge HO0.out)⟩
      case measure => simp [intOf]; omega
    · obtain rfl : j = args.length := by omega
      have htk : (wlist ts args).take args.length = wlist ts args := List.take_of_length_le (by unfold wlist; rw [List.length_map]; omega)
      rw [htk] at hrow
      have hwl : (wlist ts args).length = args.length := by unfold wlist; rw [List.length_map]
      obtain ⟨va, vc, rfl⟩ := hrow.shape
      have hi := hrow.ints (by omega)
      have HL := Lib.hid hwl
      have HI := Lib.hid hi
      have HLen' := HLen.out
      rw [hwl]
      clear hwl hi hrow htk hb hbw
      have e0 := arV_cases op
      by_cases hz : op = 0 ∨ op = 33
      · have HV0 : Hid (typed ts ⟨op, width, flags, args, imm⟩ = true) := by show _ = _; rcases hz with rfl | rfl <;> simp [typed]
        clear HLen' e0
        rcases hz with rfl | rfl
        all_goals
          go_wp2_with fail
          go_ret
          exact ⟨ret_b HV0.out.symm, HBW.out⟩
      · have hn : 0 < args.length := by omega
        obtain ⟨vb, vo, rfl, hvb, hcs⟩ := HI.out.row (by rw [HL.out]; exact hn)
        have k0 := hcs 0 (by rw [HL.out]; exact hn)
        rw [wlist_at _ _ _ hn, Nat.add_zero] at k0
        have HC : Hid (∀ i, i < args.length → wr.cell? ⟨vb, vo + i, none⟩ = some (.int .i64 (wdt ts args i))) := fun i h => by
          have := hcs i (by rw [HL.out]; exact h)
          rw [wlist_at _ _ _ h] at this
          exact this
        clear hcs
        have z0 : (op == 0) = false := by simp; omega
        have z33 : (op == 33) = false := by simp; omega
        by_cases h14 : op = 14
        · subst h14
          have n2 : 1 < args.length := by have : arV 14 = 2 := rfl; omega
          have k1 := HC.out 1 n2
          clear e0 z0 z33 hz
          have HV0 : Hid (typed ts ⟨14, width, flags, args, imm⟩ = (wdt ts args 0 == wdt ts args 1)) := by show _ = _; simp [typed]
          clear HLen'
          go_wp2_with fail
          go_quiet (fail)
          go_wp2_with fail
          go_ret
          exact ⟨ret_b HV0.out.symm, by first | exact HBW.out | exact below_drewN HBW.out _⟩
        by_cases h15 : op = 15
        · subst h15
          have n3 : 2 < args.length := by have : arV 15 = 3 := rfl; omega
          have n2 : 1 < args.length := by omega
          have k1 := HC.out 1 n2
          have k2 := HC.out 2 n3
          clear e0 z0 z33 hz h14
          cases c1 : (wdt ts args 0 == 1)
          · have HV0 : Hid (typed ts ⟨15, width, flags, args, imm⟩ = false) := by show _ = _; simp [typed, c1]
            clear HLen'
            go_wp2_with fail
            go_quiet (fail)
            go_wp2_with fail
            go_ret
            exact ⟨ret_b HV0.out.symm, by first | exact HBW.out | exact below_drewN HBW.out _⟩
          · cases c2 : (wdt ts args 1 == width)
            · have HV0 : Hid (typed ts ⟨15, width, flags, args, imm⟩ = false) := by show _ = _; simp [typed, c1, c2]
              clear HLen'
              go_wp2_with fail
              go_quiet (fail)
              go_wp2_with fail
              go_ret
              exact ⟨ret_b HV0.out.symm, by first | exact HBW.out | exact below_drewN HBW.out _⟩
            · have HV0 : Hid (typed ts ⟨15, width, flags, args, imm⟩ = (wdt ts args 2 == width)) := by show _ = _; simp [typed, c1, c2]
              clear HLen'
              go_wp2_with fail
              go_quiet (fail)
              go_wp2_with fail
              go_ret
              exact ⟨ret_b HV0.out.symm, by first | exact HBW.out | exact below_drewN HBW.out _⟩
        by_cases h16 : op = 16
        · subst h16
          clear e0 z0 z33 hz h14 h15
          have HV0 : Hid (typed ts ⟨16, width, flags, args, imm⟩ = decide (wdt ts args 0 < width)) := by show _ = _; simp [typed]
          clear HLen'
          go_wp2_with fail
          go_quiet (fail)
          go_wp2_with fail
          go_ret
          exact ⟨ret_b HV0.out.symm, by first | exact HBW.out | exact below_drewN HBW.out _⟩
        by_cases h17 : op = 17
        · subst h17
          clear e0 z0 z33 hz h14 h15 h16
          have HV0 : Hid (typed ts ⟨17, width, flags, args, imm⟩ = decide (wdt ts args 0 < width)) := by show _ = _; simp [typed]
          clear HLen'
          go_wp2_with fail
          go_quiet (fail)
          go_wp2_with fail
          go_ret
          exact ⟨ret_b HV0.out.symm, by first | exact HBW.out | exact below_drewN HBW.out _⟩
        by_cases h18 : op = 18
        · subst h18
          clear e0 z0 z33 hz h14 h15 h16 h17
          have HV0 : Hid (typed ts ⟨18, width, flags, args, imm⟩ = decide (width < wdt ts args 0)) := by show _ = _; simp [typed]
          clear HLen'
          go_wp2_with fail
          go_quiet (fail)
          go_wp2_with fail
          go_ret
          exact ⟨ret_b HV0.out.symm, by first | exact HBW.out | exact below_drewN HBW.out _⟩
        have h13 : 1 ≤ op ∧ op ≤ 13 := by have := arV_cases op; omega
        have h2 : 1 < args.length := by have := arV_cases op; omega
        have k1 := HC.out 1 h2
        have z14 : (op == 14) = false := by simp; omega
        have z15 : (op == 15) = false := by simp; omega
        have z16 : (op == 16) = false := by simp; omega
        have z17 : (op == 17) = false := by simp; omega
        have z18 : (op == 18) = false := by simp; omega
        clear e0 hz h14 h15 h16 h17 h18
        obtain ⟨g1, g2⟩ := h13
        cases c1 : (wdt ts args 0 == width)
        · have HV0 : Hid (typed ts ⟨op, width, flags, args, imm⟩ = false) := by show _ = _; simp [typed, g1, g2, c1]
          clear HLen'
          go_wp2_with fail
          go_quiet (fail)
          go_wp2_with fail
          go_ret
          exact ⟨ret_b HV0.out.symm, by first | exact HBW.out | exact below_drewN HBW.out _⟩
        · have HV0 : Hid (typed ts ⟨op, width, flags, args, imm⟩ = (wdt ts args 1 == width)) := by show _ = _; simp [typed, g1, g2, c1]
          clear HLen'
          go_wp2_with fail
          go_quiet (fail)
          go_wp2_with fail
          go_ret
          exact ⟨ret_b HV0.out.symm, by first | exact HBW.out | exact below_drewN HBW.out _⟩

end Go.Proofs.Ythopdfikikdcbaa
/- Which terms are valid: the plain law; and the walks of Validate, Checked. -/
namespace Go.Proofs.Ythopdfikikdcbaa
open Go.RowKit Wd
set_option linter.unusedVariables false
set_option linter.unusedSimpArgs false
def okS (ts : List Nd) : Bool := (List.range ts.length).all fun k => shaped k (ts.getD k default)
def okT (ts : List Nd) : Bool := ts.all (typed ts)
/-- The error of a term. -/
def valE (ts : List Nd) : Int := if ts.length < 1 ∨ 300 < ts.length then 3 else if okS ts = false then 1 else if okT ts = false then 6 else if wmap ts = none then 7 else 0
theorem okS_bad {ts : List Nd} {j : Nat} (hj : j < ts.length) (h : shaped j (ts.getD j default) = false) : okS ts = false := by
  rw [Bool.eq_false_iff]
  intro ha
  have := List.all_eq_true.1 ha j (List.mem_range.2 hj)
  rw [h] at this; cases this
theorem okS_good {ts : List Nd} (h : ∀ i, i < ts.length → shaped i (ts.getD i default) = true) : okS ts = true :=
  List.all_eq_true.2 fun i hi => h i (List.mem_range.1 hi)
theorem okS_at {ts : List Nd} (h : okS ts = true) {i : Nat} (hi : i < ts.length) : shaped i (ts.getD i default) = true := List.all_eq_true.1 h i (List.mem_range.2 hi)
theorem okT_bad {ts : List Nd} {j : Nat} (hj : j < ts.length) (h : typed ts (ts.getD j default) = false) : okT ts = false := by
  rw [Bool.eq_false_iff]
  intro ha
  have := List.all_eq_true.1 ha _ (mem_getD hj)
  rw [h] at this; cases this
theorem okT_good {ts : List Nd} (h : ∀ i, i < ts.length → typed ts (ts.getD i default) = true) : okT ts = true :=
  List.all_eq_true.2 fun x hx => by
    obtain ⟨i, hi, rfl⟩ := List.getElem_of_mem hx
    have := h i hi
    rw [List.getD_eq_getElem?_getD, List.getElem?_eq_getElem hi] at this
    exact this
theorem okT_at {ts : List Nd} (h : okT ts = true) {i : Nat} (hi : i < ts.length) : typed ts (ts.getD i default) = true := List.all_eq_true.1 h _ (mem_getD hi)
theorem shaped_facts {k : Nat} {x : Nd} (h : shaped k x = true) : (x.args.length : Int) = arV x.op ∧ (∀ a ∈ x.args, 0 ≤ a ∧ a < k) ∧ (1 ≤ x.width ∧ x.width ≤ 32) ∧ x.flags = 0 ∧ immOk x = true ∧ (x.op = 33 → x.imm < 4) ∧ (x.op = 14 → x.width = 1) ∧ arV x.op ≠ -1 := by
  unfold shaped at h
  simp only [Bool.and_eq_true, Bool.not_eq_true', bne_iff_ne, ne_eq, decide_eq_false_iff_not, Bool.and_eq_false_imp, beq_iff_eq, bne_eq_false_iff_eq] at h
  obtain ⟨⟨⟨⟨⟨⟨⟨h1, h2⟩, h3⟩, h4⟩, h5⟩, h6⟩, h7⟩, h8⟩ := h
  refine ⟨h5, fun a ha => ?_, ⟨by omega, by omega⟩, h4, h6, fun h33 => ?_, h7, h1⟩
  · have := List.any_eq_false.1 h8 a ha
    simp only [bad, Bool.or_eq_true, decide_eq_true_eq, not_or] at this
    omega
  · unfold immOk at h6
    rw [if_neg (by omega), if_pos h33] at h6
    simpa using h6
/-- Two variables of one number and two widths. -/
def clash (x y : Nd) : Bool := (x.op == 33) && (y.op == 33) && (x.imm == y.imm) && (x.width != y.width)
theorem clash_iff (x y : Nd) : clash x y = true ↔ x.op = 33 ∧ y.op = 33 ∧ x.imm = y.imm ∧ x.width ≠ y.width := by
  simp [clash, and_assoc]
theorem getD_set_self {l : List Int} {k : Nat} {x : Int} (h : k < l.length) : (l.set k x).getD k 0 = x := by
  rw [List.getD_eq_getElem?_getD, List.getElem?_set_self h]; rfl
theorem getD_set_ne {l : List Int} {k j : Nat} {x : Int} (h : k ≠ j) : (l.set k x).getD j 0 = l.getD j 0 := by
  rw [List.getD_eq_getElem?_getD, List.getD_eq_getElem?_getD, List.getElem?_set_ne h]
theorem wmap_inv {ts : List Nd} (hI : ∀ x ∈ ts, 0 ≤ x.imm) (hS : ∀ i, i < ts.length → shaped i (ts.getD i default) = true) : ∀ (j : Nat) (l : List Int), j ≤ ts.length → wmap (ts.take j) = some l →
    (∀ i, i < j → (ts.getD i default).op = 33 → l.getD (ts.getD i default).imm.toNat 0 = (ts.getD i default).width) ∧
    (∀ v, l.getD v 0 ≠ 0 → ∃ i, i < j ∧ (ts.getD i default).op = 33 ∧ (ts.getD i default).imm = v ∧ (ts.getD i default).width = l.getD v 0)
  | 0, l, _, h => by
    refine ⟨fun i hi => absurd hi (by omega), fun v hv => ?_⟩
    rw [List.take_zero] at h
    cases h
    have : v = 0 ∨ v = 1 ∨ v = 2 ∨ v = 3 ∨ 4 ≤ v := by omega
    exfalso
    apply hv
    rcases this with rfl | rfl | rfl | rfl | h4
    · rfl
    · rfl
    · rfl
    · rfl
    · rw [List.getD_eq_getElem?_getD, List.getElem?_eq_none (by simpa using h4)]; rfl
  | j + 1, l, hj, h => by
    have hlt : j < ts.length := by omega
    rw [wmap_snoc ts j hlt] at h
    cases e : wmap (ts.take j) with
    | none => rw [e] at h; cases h
    | some l0 =>
      obtain ⟨i1, i2⟩ := wmap_inv hI hS j l0 (by omega) e
      have hl0 := wmap_len e
      rw [e] at h
      obtain ⟨s1, s2, s3, s4, s5, s6, s7, s8⟩ := shaped_facts (hS j hlt)
      have him := hI _ (mem_getD hlt)
      by_cases h33 : (ts.getD j default).op = 33
      · have hk : (ts.getD j default).imm.toNat < l0.length := by have := s6 h33; omega
        have hl : l = l0.set (ts.getD j default).imm.toNat (ts.getD j default).width ∧ ¬ (l0.getD (ts.getD j default).imm.toNat 0 ≠ 0 ∧ l0.getD (ts.getD j default).imm.toNat 0 ≠ (ts.getD j default).width) := by
          simp only [wstep, if_pos h33] at h
          by_cases c : l0.getD (ts.getD j default).imm.toNat 0 ≠ 0 ∧ l0.getD (ts.getD j default).imm.toNat 0 ≠ (ts.getD j default).width
          · rw [if_pos c] at h; cases h
          · rw [if_neg c] at h; cases h; exact ⟨rfl, c⟩
        obtain ⟨rfl, hc⟩ := hl
        refine ⟨fun i hi h3 => ?_, fun v hv => ?_⟩
        · by_cases e2 : i = j
          · subst e2; exact getD_set_self hk
          · have hi2 := i1 i (by omega) h3
            obtain ⟨_, _, t3, _⟩ := shaped_facts (hS i (by omega))
            by_cases e3 : (ts.getD i default).imm.toNat = (ts.getD j default).imm.toNat
            · rw [e3] at hi2 ⊢
              rw [getD_set_self hk]
              omega
            · rw [getD_set_ne (fun hh => e3 hh.symm)]; exact hi2
        · by_cases e3 : (ts.getD j default).imm.toNat = v
          · subst e3
            rw [getD_set_self hk] at hv ⊢
            exact ⟨j, by omega, h33, by omega, rfl⟩
          · rw [getD_set_ne e3] at hv ⊢
            obtain ⟨i, hi, r⟩ := i2 v hv
            exact ⟨i, by omega, r⟩
      · rw [wstep_other h33] at h
        cases h
        refine ⟨fun i hi h3 => ?_, fun v hv => ?_⟩
        · by_cases e2 : i = j
          · subst e2; exact absurd h3 h33
          · exact i1 i (by omega) h3
        · obtain ⟨i, hi, r⟩ := i2 v hv
          exact ⟨i, by omega, r⟩
theorem wmap_clash {ts : List Nd} (hI : ∀ x ∈ ts, 0 ≤ x.imm) (hS : ∀ i, i < ts.length → shaped i (ts.getD i default) = true) {i k : Nat} (hk : k < ts.length) (hi : i < k) (hc : clash (ts.getD i default) (ts.getD k default) = true) : wmap ts = none := by
  obtain ⟨c1, c2, c3, c4⟩ := (clash_iff _ _).1 hc
  cases e : wmap (ts.take k) with
  | none => exact wmap_dead ts k e
  | some l =>
    apply wmap_dead ts (k + 1)
    rw [wmap_snoc ts k hk, e]
    obtain ⟨i1, _⟩ := wmap_inv hI hS k l (by omega) e
    have hi2 := i1 i hi c1
    obtain ⟨_, _, t3, _⟩ := shaped_facts (hS i (by omega))
    simp only [wstep, if_pos c2]
    rw [← c3, hi2, if_pos ⟨by omega, c4⟩]
theorem wmap_calm {ts : List Nd} (hI : ∀ x ∈ ts, 0 ≤ x.imm) (hS : ∀ i, i < ts.length → shaped i (ts.getD i default) = true) (hc : ∀ k, k < ts.length → ∀ i, i < k → clash (ts.getD i default) (ts.getD k default) = false) : wmap ts ≠ none := by
  have : ∀ j, j ≤ ts.length → ∃ l, wmap (ts.take j) = some l := by
    intro j
    induction j with
    | zero => intro _; exact ⟨_, rfl⟩
    | succ j ih =>
      intro hj
      obtain ⟨l, e⟩ := ih (by omega)
      rw [wmap_snoc ts j (by omega), e]
      by_cases h33 : (ts.getD j default).op = 33
      · simp only [wstep, if_pos h33]
        by_cases c : l.getD (ts.getD j default).imm.toNat 0 ≠ 0 ∧ l.getD (ts.getD j default).imm.toNat 0 ≠ (ts.getD j default).width
        · exfalso
          obtain ⟨_, i2⟩ := wmap_inv hI hS j l (by omega) e
          obtain ⟨i, hi, r1, r2, r3⟩ := i2 _ c.1
          have h1 := hc j (by omega) i hi
          have him := hI _ (mem_getD (show j < ts.length by omega))
          rw [(clash_iff _ _).2 ⟨r1, h33, by omega, by rw [r3]; exact c.2⟩] at h1
          cases h1
        · rw [if_neg c]; exact ⟨_, rfl⟩
      · rw [wstep_other h33]; exact ⟨_, rfl⟩
  obtain ⟨l, h⟩ := this ts.length (Nat.le_refl _)
  rw [List.take_length] at h
  rw [h]
  exact fun hh => by cases hh
theorem valE_3 {ts : List Nd} (h : ts.length < 1 ∨ 300 < ts.length) : valE ts = 3 := if_pos h
theorem valE_1 {ts : List Nd} (h : ¬ (ts.length < 1 ∨ 300 < ts.length)) (h1 : okS ts = false) : valE ts = 1 := by unfold valE; rw [if_neg h, if_pos h1]
theorem valE_6 {ts : List Nd} (h : ¬ (ts.length < 1 ∨ 300 < ts.length)) (h1 : okS ts = true) (h2 : okT ts = false) : valE ts = 6 := by
  unfold valE; rw [if_neg h, if_neg (by rw [h1]; decide), if_pos h2]
theorem valE_7 {ts : List Nd} (h : ¬ (ts.length < 1 ∨ 300 < ts.length)) (h1 : okS ts = true) (h2 : okT ts = true) (h3 : wmap ts = none) : valE ts = 7 := by
  unfold valE; rw [if_neg h, if_neg (by rw [h1]; decide), if_neg (by rw [h2]; decide), if_pos h3]
theorem valE_0 {ts : List Nd} (h : ¬ (ts.length < 1 ∨ 300 < ts.length)) (h1 : okS ts = true) (h2 : okT ts = true) (h3 : wmap ts ≠ none) : valE ts = 0 := by
  unfold valE; rw [if_neg h, if_neg (by rw [h1]; decide), if_neg (by rw [h2]; decide), if_neg h3]
/-- What a valid term is. -/
theorem valid_facts {ts : List Nd} (h : valE ts = 0) : 1 ≤ ts.length ∧ ts.length ≤ 300 ∧ okS ts = true ∧ okT ts = true ∧ ∃ l, wmap ts = some l := by
  unfold valE at h
  by_cases c : ts.length < 1 ∨ 300 < ts.length
  · rw [if_pos c] at h; omega
  · rw [if_neg c] at h
    by_cases c1 : okS ts = false
    · rw [if_pos c1] at h; omega
    · rw [if_neg c1] at h
      by_cases c2 : okT ts = false
      · rw [if_pos c2] at h; omega
      · rw [if_neg c2] at h
        cases c3 : wmap ts with
        | none => rw [if_pos c3] at h; omega
        | some l => exact ⟨by omega, by omega, by simpa using c1, by simpa using c2, l, rfl⟩

set_option maxRecDepth 100000 in
set_option maxHeartbeats 8000000 in
theorem pValidate (ts : List Nd) (tv : Value) (w : World) (hts : Nds w tv ts) (hi : ∀ x ∈ ts, 0 ≤ x.imm ∧ x.imm ≤ 4294967295) : Calls Try.prog 17 #[tv] w fun e w' => e = .returned (.int .i64 (valE ts)) ∧ Below w.heap.size w w' := by
  have HT := Lib.hid hts
  have HI := Lib.hid hi
  obtain ⟨ta, tc, rfl, ht1, ht2, _⟩ := hts
  clear hi
  by_cases g1 : ts.length < 1
  · have HV : Hid (valE ts = 3) := valE_3 (.inl g1)
    have q1 : decide ((ts.length : Int) < 1) = true := by simp; omega
    go_enter Try.func17, Try.ntmps17
    go_wp2_with fail
    go_ret
    exact ⟨ret_i HV.out.symm, Below.refl _ _⟩
  have q1 : decide ((ts.length : Int) < 1) = false := by simp; omega
  by_cases g2 : 300 < ts.length
  · have HV : Hid (valE ts = 3) := valE_3 (.inr g2)
    have q2 : decide (300 < (ts.length : Int)) = true := by simp; omega
    go_enter Try.func17, Try.ntmps17
    go_wp2_with fail
    go_ret
    exact ⟨ret_i HV.out.symm, Below.refl _ _⟩
  have q2 : decide (300 < (ts.length : Int)) = false := by simp; omega
  have G : Hid (¬ (ts.length < 1 ∨ 300 < ts.length)) := fun h => by omega
  go_enter Try.func17, Try.ntmps17
  go_wp2_with fail
  go_loopw [19] (fun i wr => ∃ j : Nat, j ≤ ts.length ∧ i = .int .i64 j ∧ Hid (∀ i, i < j → shaped i (ts.getD i default) = true) ∧ Below w.heap.size w wr) (fun i _ => ts.length - (intOf i).toNat)
  case atStart => exact ⟨0, Nat.zero_le _, rfl, (fun i hi => absurd hi (by omega)), Below.refl _ _⟩
  case round =>
    obtain ⟨j, hj, rfl, hno, hb⟩ := hrel
    by_cases hlt : j < ts.length
    · obtain ⟨b, q, c', e', _, _, hbq, c0, c1, c2, ⟨av, c3, hav⟩, c4⟩ := (HT.out.stays hb).at hlt
      cases e'
      have him := HI.out _ (mem_getD hlt)
      generalize hx : ts.getD j default = x at *
      have HX := Lib.hid hx
      clear hx
      obtain ⟨op, width, flags, args, imm⟩ := x
      simp only at him c0 c1 c2 c3 c4 hav
      have HAV := Lib.hid hav
      obtain ⟨aa, ac, rfl, _⟩ := hav
      obtain ⟨i1, i2⟩ := him
      have hbs := hb.size
      have HB := Lib.hid hb
      clear hb
      cases hs : shaped j ⟨op, width, flags, args, imm⟩
      · have HV : Hid (valE ts = 1) := valE_1 G.out (okS_bad hlt (by rw [HX.out]; exact hs))
        go_wp2_with fail
        refine (isShaped_any j ⟨op, width, flags, args, imm⟩ _ _ (HAV.out.stays ((Below.refl _ _).alloc (Nat.le_refl _) _)) i1 i2).mono ?_
        rintro e w' ⟨rfl, hb1⟩
        go_wp2_with fail
        go_ret
        exact ⟨ret_i HV.out.symm, below_next (HB.out.alloc hbs _) (by simp; omega) hb1⟩
      · have HS := Lib.hid hs
        go_wp2_with fail
        refine (isShaped_any j ⟨op, width, flags, args, imm⟩ _ _ (HAV.out.stays ((Below.refl _ _).alloc (Nat.le_refl _) _)) i1 i2).mono ?_
        rintro e w' ⟨rfl, hb1⟩
        go_wp2_with fail
        go_roundw
        case rel => exact ⟨j + 1, by omega, by go_num, (fun i hi => by
          by_cases e : i = j
          · rw [e, HX.out]; exact HS.out
          · exact hno.out i (by omega)), below_next (HB.out.alloc hbs _) (by simp; omega) hb1⟩
        case measure => simp [intOf]; omega
    · obtain rfl : j = ts.length := by omega
      have HS : Hid (okS ts = true) := okS_good hno.out
      obtain ⟨wo, rfl⟩ : ∃ wo : World, wo = wr := ⟨_, rfl⟩
      have HB := Lib.hid hb
      clear hb
      go_wp2_with fail
      go_loopw [31] (fun i wr => ∃ j : Nat, j ≤ ts.length ∧ i = .int .i64 j ∧ Hid (∀ i, i < j → typed ts (ts.getD i default) = true) ∧ Below w.heap.size w wr) (fun i _ => ts.length - (intOf i).toNat)
      case atStart => exact ⟨0, Nat.zero_le _, rfl, (fun i hi => absurd hi (by omega)), HB.out⟩
      case round =>
        obtain ⟨j, hj, rfl, hty, hb⟩ := hrel
        by_cases hlt : j < ts.length
        · have HTT := Lib.hid (HT.out.stays hb)
          obtain ⟨b, q, c', e', _, _, hbq, c0, c1, c2, ⟨av, c3, hav⟩, c4⟩ := HTT.out.at hlt
          cases e'
          have HF := Lib.hid (shaped_facts (hno.out j hlt))
          generalize hx : ts.getD j default = x at *
          have HX := Lib.hid hx
          clear hx
          obtain ⟨op, width, flags, args, imm⟩ := x
          simp only at c0 c1 c2 c3 c4 hav
          have HAV := Lib.hid hav
          obtain ⟨aa, ac, rfl, _⟩ := hav
          have hbs := hb.size
          have HBB := Lib.hid hb
          clear hb
          have HA : Hid (∀ a ∈ args, 0 ≤ a ∧ a < ts.length) := fun a ha => by have := HF.out.2.1 a ha; omega
          cases hs : typed ts ⟨op, width, flags, args, imm⟩
          · have HV : Hid (valE ts = 6) := valE_6 G.out HS.out (okT_bad hlt (by rw [HX.out]; exact hs))
            go_wp2_with fail
            refine (isTyped_any ts ⟨op, width, flags, args, imm⟩ _ _ _ (HTT.out.stays ((Below.refl _ _).alloc (Nat.le_refl _) _)) (HAV.out.stays ((Below.refl _ _).alloc (Nat.le_refl _) _)) HF.out.1 HA.out).mono ?_
            rintro e w' ⟨rfl, hb1⟩
            go_wp2_with fail
            go_ret
            exact ⟨ret_i HV.out.symm, below_next (HBB.out.alloc hbs _) (by simp; omega) hb1⟩
          · have HTS := Lib.hid hs
            go_wp2_with fail
            refine (isTyped_any ts ⟨op, width, flags, args, imm⟩ _ _ _ (HTT.out.stays ((Below.refl _ _).alloc (Nat.le_refl _) _)) (HAV.out.stays ((Below.refl _ _).alloc (Nat.le_refl _) _)) HF.out.1 HA.out).mono ?_
            rintro e w' ⟨rfl, hb1⟩
            go_wp2_with fail
            go_roundw
            case rel => exact ⟨j + 1, by omega, by go_num, (fun i hi => by
              by_cases e : i = j
              · rw [e, HX.out]; exact HTS.out
              · exact hty.out i (by omega)), below_next (HBB.out.alloc hbs _) (by simp; omega) hb1⟩
            case measure => simp [intOf]; omega
        · obtain rfl : j = ts.length := by omega
          have HTO : Hid (okT ts = true) := okT_good hty.out
          have HBB := Lib.hid hb
          clear hb
          go_wp2_with fail
          refine (widths_any ts _ _ (HT.out.stays HBB.out) (fun x hx => ⟨(HI.out x hx).1, fun h33 => by
            obtain ⟨i, hi, rfl⟩ := List.getElem_of_mem hx
            have := (shaped_facts (hno.out i hi)).2.2.2.2.2.1
            rw [List.getD_eq_getElem?_getD, List.getElem?_eq_getElem hi] at this
            exact this h33⟩)).mono ?_
          rintro e w' ⟨v, rfl, hl1, hl2, hb1⟩
          have HL := Lib.hid (And.intro hl1 hl2)
          clear hl1 hl2
          cases hm : wmap ts with
          | none =>
            have HV : Hid (valE ts = 7) := valE_7 G.out HS.out HTO.out hm
            go_wp2_with fail
            go_ret
            exact ⟨ret_i HV.out.symm, below_next HBB.out HBB.out.size hb1⟩
          | some l =>
            have HV : Hid (valE ts = 0) := valE_0 G.out HS.out HTO.out (by rw [hm]; exact fun h => by cases h)
            go_wp2_with fail
            go_ret
            exact ⟨ret_i HV.out.symm, below_next HBB.out HBB.out.size hb1⟩

end Go.Proofs.Ythopdfikikdcbaa
/- Walks of backstayref07.Checked, Validate. -/
namespace Go.Proofs.Ythopdfikikdcbaa
open Go.RowKit Wd
set_option linter.unusedVariables false
set_option linter.unusedSimpArgs false

set_option maxRecDepth 100000 in
set_option maxHeartbeats 8000000 in
theorem rChecked (ts : List Nd) (tv : Value) (w : World) (hts : Nds w tv ts) (hi : ∀ x ∈ ts, 0 ≤ x.imm ∧ x.imm ≤ 4294967295) : Calls Try.prog 48 #[tv, .bool true] w fun e w' => e = .returned (.int .i64 (valE ts)) ∧ Below w.heap.size w w' := by
  have HT := Lib.hid hts
  have HI := Lib.hid hi
  obtain ⟨ta, tc, rfl, ht1, ht2, _⟩ := hts
  clear hi
  by_cases g1 : ts.length < 1
  · have HV : Hid (valE ts = 3) := valE_3 (.inl g1)
    have q1 : decide ((ts.length : Int) < 1) = true := by simp; omega
    go_enter Try.func48, Try.ntmps48
    go_wp2_with fail
    go_ret
    exact ⟨ret_i HV.out.symm, Below.refl _ _⟩
  have q1 : decide ((ts.length : Int) < 1) = false := by simp; omega
  by_cases g2 : 300 < ts.length
  · have HV : Hid (valE ts = 3) := valE_3 (.inr g2)
    have q2 : decide (300 < (ts.length : Int)) = true := by simp; omega
    go_enter Try.func48, Try.ntmps48
    go_wp2_with fail
    go_ret
    exact ⟨ret_i HV.out.symm, Below.refl _ _⟩
  have q2 : decide (300 < (ts.length : Int)) = false := by simp; omega
  have G : Hid (¬ (ts.length < 1 ∨ 300 < ts.length)) := fun h => by omega
  go_enter Try.func48, Try.ntmps48
  go_wp2_with fail
  go_loopw [5] (fun i wr => ∃ j : Nat, j ≤ ts.length ∧ i = .int .i64 j ∧ Hid (∀ i, i < j → shaped i (ts.getD i default) = true) ∧ Below w.heap.size w wr) (fun i _ => ts.length - (intOf i).toNat)
  case atStart => exact ⟨0, Nat.zero_le _, rfl, (fun i hi => absurd hi (by omega)), Below.refl _ _⟩
  case round =>
    obtain ⟨j, hj, rfl, hno, hb⟩ := hrel
    by_cases hlt : j < ts.length
    · have HTT := Lib.hid (HT.out.stays hb)
      have him := Lib.hid (HI.out _ (mem_getD hlt))
      have hbs := hb.size
      have HB := Lib.hid hb
      clear hb
      cases hs : shaped j (ts.getD j default)
      · have HV : Hid (valE ts = 1) := valE_1 G.out (okS_bad hlt hs)
        have HS := Lib.hid hs
        clear hs
        go_wp2_with fail
        refine (rArg ts _ j _ HTT.out hlt him.out.1 him.out.2).mono ?_
        rintro e w' ⟨rfl, hb1⟩
        rw [HS.out]
        go_wp2_with fail
        go_ret
        exact ⟨ret_i HV.out.symm, below_next HB.out hbs hb1⟩
      · have HS := Lib.hid hs
        clear hs
        go_wp2_with fail
        refine (rArg ts _ j _ HTT.out hlt him.out.1 him.out.2).mono ?_
        rintro e w' ⟨rfl, hb1⟩
        rw [HS.out]
        go_wp2_with fail
        go_roundw
        case rel => exact ⟨j + 1, by omega, by go_num, (fun i hi => by
          by_cases e : i = j
          · rw [e]; exact HS.out
          · exact hno.out i (by omega)), below_next HB.out hbs hb1⟩
        case measure => simp [intOf]; omega
    · obtain rfl : j = ts.length := by omega
      have HS : Hid (okS ts = true) := okS_good hno.out
      obtain ⟨wo, rfl⟩ : ∃ wo : World, wo = wr := ⟨_, rfl⟩
      have HB := Lib.hid hb
      clear hb
      go_wp2_with fail
      go_loopw [6] (fun i wr => ∃ j : Nat, j ≤ ts.length ∧ i = .int .i64 j ∧ Hid (∀ i, i < j → typed ts (ts.getD i default) = true) ∧ Below w.heap.size w wr) (fun i _ => ts.length - (intOf i).toNat)
      case atStart => exact ⟨0, Nat.zero_le _, rfl, (fun i hi => absurd hi (by omega)), HB.out⟩
      case round =>
        obtain ⟨j, hj, rfl, hty, hb⟩ := hrel
        by_cases hlt : j < ts.length
        · have HTT := Lib.hid (HT.out.stays hb)
          obtain ⟨b, q, c', e', _, _, hbq, c0, c1, c2, ⟨av, c3, hav⟩, c4⟩ := HTT.out.at hlt
          cases e'
          have HF := Lib.hid (shaped_facts (hno.out j hlt))
          generalize hx : ts.getD j default = x at *
          have HX := Lib.hid hx
          clear hx
          obtain ⟨op, width, flags, args, imm⟩ := x
          simp only at c0 c1 c2 c3 c4 hav
          have HAV := Lib.hid hav
          obtain ⟨aa, ac, rfl, _⟩ := hav
          have hbs := hb.size
          have HBB := Lib.hid hb
          clear hb
          have HA : Hid (∀ a ∈ args, 0 ≤ a ∧ a < ts.length) := fun a ha => by have := HF.out.2.1 a ha; omega
          cases hs : typed ts ⟨op, width, flags, args, imm⟩
          · have HV : Hid (valE ts = 6) := valE_6 G.out HS.out (okT_bad hlt (by rw [HX.out]; exact hs))
            go_wp2_with fail
            refine (rTyped ts ⟨op, width, flags, args, imm⟩ _ _ _ HTT.out HAV.out HF.out.1 HA.out).mono ?_
            rintro e w' ⟨rfl, hb1⟩
            go_wp2_with fail
            go_ret
            exact ⟨ret_i HV.out.symm, below_next HBB.out hbs hb1⟩
          · have HTS := Lib.hid hs
            go_wp2_with fail
            refine (rTyped ts ⟨op, width, flags, args, imm⟩ _ _ _ HTT.out HAV.out HF.out.1 HA.out).mono ?_
            rintro e w' ⟨rfl, hb1⟩
            go_wp2_with fail
            go_roundw
            case rel => exact ⟨j + 1, by omega, by go_num, (fun i hi => by
              by_cases e : i = j
              · rw [e, HX.out]; exact HTS.out
              · exact hty.out i (by omega)), below_next HBB.out hbs hb1⟩
            case measure => simp [intOf]; omega
        · obtain rfl : j = ts.length := by omega
          have HTO : Hid (okT ts = true) := okT_good hty.out
          obtain ⟨wp, rfl⟩ : ∃ wp : World, wp = wr := ⟨_, rfl⟩
          have HBB := Lib.hid hb
          clear hb
          go_wp2_with fail
          go_loopw [7] (fun i wr => ∃ j : Nat, j ≤ ts.length ∧ i = .int .i64 j ∧ Hid (∀ k, k < j → ∀ i, i < k → clash (ts.getD i default) (ts.getD k default) = false) ∧ Below w.heap.size w wr) (fun i _ => ts.length - (intOf i).toNat)
          case atStart => exact ⟨0, Nat.zero_le _, rfl, (fun i hi => absurd hi (by omega)), HBB.out⟩
          case round =>
            obtain ⟨k, hk, rfl, hcalm, hb⟩ := hrel
            by_cases hlt : k < ts.length
            · obtain ⟨wq, rfl⟩ : ∃ wq : World, wq = wr := ⟨_, rfl⟩
              have HB3 := Lib.hid hb
              clear hb
              go_wp2_with fail
              go_loopw [8] (fun i wr => ∃ i' : Nat, i' ≤ k ∧ i = .int .i64 i' ∧ Hid (∀ i, i < i' → clash (ts.getD i default) (ts.getD k default) = false) ∧ Below w.heap.size w wr) (fun i _ => k - (intOf i).toNat)
              case atStart => exact ⟨0, Nat.zero_le _, rfl, (fun i hi => absurd hi (by omega)), HB3.out⟩
              case round =>
                obtain ⟨i, hik, rfl, hcalm2, hb⟩ := hrel
                by_cases hli : i < k
                · have hlti : i < ts.length := by omega
                  have HTT := HT.out.stays hb
                  obtain ⟨b, q, c', e', _, _, hbq, x0, x1, x2, ⟨xv, x3, _⟩, x4⟩ := HTT.at hlti
                  cases e'
                  obtain ⟨b2, q2, c2, e', _, _, _, y0, y1, y2, ⟨yv, y3, _⟩, y4⟩ := HTT.at hlt
                  cases e'
                  clear HTT HB3
                  have HB3 := Lib.hid hb
                  clear hb
                  generalize hxa : ts.getD i default = xa at *
                  have HXA := Lib.hid hxa
                  clear hxa
                  generalize hxb : ts.getD k default = xb at *
                  have HXB := Lib.hid hxb
                  clear hxb
                  obtain ⟨opa, widtha, flagsa, argsa, imma⟩ := xa
                  obtain ⟨opb, widthb, flagsb, argsb, immb⟩ := xb
                  simp only at x0 x1 x2 x3 x4 y0 y1 y2 y3 y4
                  cases c1 : (opa == 33)
                  · have hcl : clash ⟨opa, widtha, flagsa, argsa, imma⟩ ⟨opb, widthb, flagsb, argsb, immb⟩ = false := by simp only [clash, c1]; try rfl
                    have HC := Lib.hid hcl
                    clear hcl
                    go_wp2_with fail
                    go_quiet (fail)
                    go_wp2_with fail
                    go_roundw
                    case rel => exact ⟨i + 1, by omega, by go_num, (fun i' hi' => by
                      by_cases e : i' = i
                      · rw [e, HXA.out]; exact HC.out
                      · exact hcalm2.out i' (by omega)), below_drewN HB3.out _⟩
                    case measure => simp [intOf]; omega
                  · cases c2 : (opb == 33)
                    · have hcl : clash ⟨opa, widtha, flagsa, argsa, imma⟩ ⟨opb, widthb, flagsb, argsb, immb⟩ = false := by simp only [clash, c1, c2]; try rfl
                      have HC := Lib.hid hcl
                      clear hcl
                      go_wp2_with fail
                      go_quiet (fail)
                      go_wp2_with fail
                      go_roundw
                      case rel => exact ⟨i + 1, by omega, by go_num, (fun i' hi' => by
                        by_cases e : i' = i
                        · rw [e, HXA.out]; exact HC.out
                        · exact hcalm2.out i' (by omega)), below_drewN HB3.out _⟩
                      case measure => simp [intOf]; omega
                    · cases c3 : (imma == immb)
                      · have hcl : clash ⟨opa, widtha, flagsa, argsa, imma⟩ ⟨opb, widthb, flagsb, argsb, immb⟩ = false := by simp only [clash, c1, c2, c3]; try rfl
                        have HC := Lib.hid hcl
                        clear hcl
                        go_wp2_with fail
                        go_quiet (fail)
                        go_wp2_with fail
                        go_roundw
                        case rel => exact ⟨i + 1, by omega, by go_num, (fun i' hi' => by
                          by_cases e : i' = i
                          · rw [e, HXA.out]; exact HC.out
                          · exact hcalm2.out i' (by omega)), below_drewN HB3.out _⟩
                        case measure => simp [intOf]; omega
                      · cases c4 : (widtha != widthb)
                        · have hcl : clash ⟨opa, widtha, flagsa, argsa, imma⟩ ⟨opb, widthb, flagsb, argsb, immb⟩ = false := by simp only [clash, c1, c2, c3, c4]; try rfl
                          have HC := Lib.hid hcl
                          clear hcl
                          go_wp2_with fail
                          go_quiet (fail)
                          go_wp2_with fail
                          go_roundw
                          case rel => exact ⟨i + 1, by omega, by go_num, (fun i' hi' => by
                            by_cases e : i' = i
                            · rw [e, HXA.out]; exact HC.out
                            · exact hcalm2.out i' (by omega)), below_drewN HB3.out _⟩
                          case measure => simp [intOf]; omega
                        · have hcl : clash ⟨opa, widtha, flagsa, argsa, imma⟩ ⟨opb, widthb, flagsb, argsb, immb⟩ = true := by simp only [clash, c1, c2, c3, c4]; try rfl
                          have HC := Lib.hid hcl
                          clear hcl
                          have HV : Hid (valE ts = 7) := valE_7 G.out HS.out HTO.out (wmap_clash (fun x hx => (HI.out x hx).1) hno.out hlt hli (by rw [HXA.out, HXB.out]; exact HC.out))
                          go_wp2_with fail
                          go_quiet (fail)
                          go_wp2_with fail
                          go_ret
                          exact ⟨ret_i HV.out.symm, below_drewN HB3.out _⟩

                · obtain rfl : i = k := by omega
                  have HB4 := Lib.hid hb
                  clear hb
                  go_wp2_with fail
                  go_roundw
                  case rel => exact ⟨i + 1, by omega, by go_num, (fun k' hk' => by
                    by_cases e : k' = i
                    · rw [e]; exact hcalm2.out
                    · exact hcalm.out k' (by omega)), HB4.out⟩
                  case measure => simp [intOf]; omega
            · obtain rfl : k = ts.length := by omega
              have HV : Hid (valE ts = 0) := valE_0 G.out HS.out HTO.out (wmap_calm (fun x hx => (HI.out x hx).1) hno.out hcalm.out)
              have HB4 := Lib.hid hb
              clear hb
              go_wp2_with fail
              go_ret
              exact ⟨ret_i HV.out.symm, HB4.out⟩

set_option maxRecDepth 100000 in
theorem rValidate (ts : List Nd) (tv : Value) (w : World) (hts : Nds w tv ts) (hi : ∀ x ∈ ts, 0 ≤ x.imm ∧ x.imm ≤ 4294967295) : Calls Try.prog 18 #[tv] w fun e w' => e = .returned (.int .i64 (valE ts)) ∧ Below w.heap.size w w' := by
  have HT := Lib.hid hts
  have HI := Lib.hid hi
  obtain ⟨ta, tc, rfl, ht1, ht2, _⟩ := hts
  clear hi
  go_enter Try.func18, Try.ntmps18
  go_wp2_with fail
  refine (rChecked ts _ _ HT.out HI.out).mono ?_
  rintro e w' ⟨rfl, hb1⟩
  go_wp2_with fail
  go_ret
  exact ⟨rfl, hb1⟩

end Go.Proofs.Ythopdfikikdcbaa
