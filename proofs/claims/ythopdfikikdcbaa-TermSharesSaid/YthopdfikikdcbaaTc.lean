/- Walks of package term: which nodes are typed. -/
import Derived.Test.YthopdfikikdcbaaTb
namespace Go.Proofs.Ythopdfikikdcbaa
open Go.RowKit Wd
set_option linter.unusedVariables false
set_option linter.unusedSimpArgs false
/-- The width of the node that stands as the i-th of the Args. -/
def wdt (ts : List Nd) (args : List Int) (i : Nat) : Int := (ts.getD (args.getD i 0).toNat default).width
def typed (ts : List Nd) (x : Nd) : Bool :=
  if 1 ≤ x.op ∧ x.op ≤ 13 then (wdt ts x.args 0 == x.width) && (wdt ts x.args 1 == x.width)
  else if x.op = 14 then wdt ts x.args 0 == wdt ts x.args 1
  else if x.op = 15 then (wdt ts x.args 0 == 1) && (wdt ts x.args 1 == x.width) && (wdt ts x.args 2 == x.width)
  else if x.op = 16 ∨ x.op = 17 then decide (wdt ts x.args 0 < x.width)
  else if x.op = 18 then decide (x.width < wdt ts x.args 0) else true

theorem typed1 (i : Nat) (ts : List Nd) (args : List Int) (bt bx : Nat) (tv av : Value) (w : World) (ht : w.cell? ⟨bt, 0, none⟩ = some tv) (hx : w.cell? ⟨bx, 3, none⟩ = some av) (hts : Nds w tv ts) (ha : Ints .i64 w av args) (hi : i < args.length) (h0 : 0 ≤ args.getD i 0) (h1 : args.getD i 0 < ts.length) : Calls Try.prog 76 #[.int .i64 i, .pointer (some ⟨bt, 0, none⟩), .pointer (some ⟨bx, 0, none⟩)] w fun e w' => e = .returned (.int .i64 (wdt ts args i)) ∧ Dr w w' := by
  obtain ⟨m, hm⟩ := Int.eq_ofNat_of_zero_le h0
  unfold wdt
  rw [hm] at h1 ⊢
  obtain ⟨a, c, rfl, ha1, ha2, ha3, hac⟩ := ha
  obtain ⟨b1, o1, rfl, hb1, hc1⟩ := hac i hi
  obtain ⟨a2, c2, rfl, ht1, ht2, ht3, htc⟩ := hts
  obtain ⟨b2, o2, rfl, hb2, hc2⟩ := htc m (by omega)
  rw [hm, Nat.mul_one] at hc1
  obtain ⟨_, hc3, _⟩ := hc2
  simp only [Int.toNat_natCast]
  generalize (ts.getD m default).width = y at *
  have q1 : (i : Int) < args.length := by omega
  clear hac htc hm h0
  go_enter Try.func76, Try.ntmps76
  go_wp2_with fail
  go_quiet (fail)
  go_wp2_with fail
  go_ret
  exact ⟨rfl, _, rfl⟩

theorem typed1_0 (ts : List Nd) (args : List Int) (bt bx : Nat) (tv av : Value) (w : World) (ht : w.cell? ⟨bt, 0, none⟩ = some tv) (hx : w.cell? ⟨bx, 3, none⟩ = some av) (hts : Nds w tv ts) (ha : Ints .i64 w av args) (hi : 0 < args.length) (hr : ∀ a ∈ args, 0 ≤ a ∧ a < ts.length) : Calls Try.prog 76 #[.int .i64 0, .pointer (some ⟨bt, 0, none⟩), .pointer (some ⟨bx, 0, none⟩)] w fun e w' => e = .returned (.int .i64 (wdt ts args 0)) ∧ ∃ m, w' = w.drewN m := by
  have h := hr (args.getD 0 0) (by rw [List.getD_eq_getElem?_getD, List.getElem?_eq_getElem hi]; exact List.getElem_mem hi)
  exact typed1 0 ts args bt bx tv av w ht hx hts ha hi h.1 h.2
theorem typed1_1 (ts : List Nd) (args : List Int) (bt bx : Nat) (tv av : Value) (w : World) (ht : w.cell? ⟨bt, 0, none⟩ = some tv) (hx : w.cell? ⟨bx, 3, none⟩ = some av) (hts : Nds w tv ts) (ha : Ints .i64 w av args) (hi : 1 < args.length) (hr : ∀ a ∈ args, 0 ≤ a ∧ a < ts.length) : Calls Try.prog 76 #[.int .i64 1, .pointer (some ⟨bt, 0, none⟩), .pointer (some ⟨bx, 0, none⟩)] w fun e w' => e = .returned (.int .i64 (wdt ts args 1)) ∧ ∃ m, w' = w.drewN m := by
  have h := hr (args.getD 1 0) (by rw [List.getD_eq_getElem?_getD, List.getElem?_eq_getElem hi]; exact List.getElem_mem hi)
  exact typed1 1 ts args bt bx tv av w ht hx hts ha hi h.1 h.2
theorem typed1_2 (ts : List Nd) (args : List Int) (bt bx : Nat) (tv av : Value) (w : World) (ht : w.cell? ⟨bt, 0, none⟩ = some tv) (hx : w.cell? ⟨bx, 3, none⟩ = some av) (hts : Nds w tv ts) (ha : Ints .i64 w av args) (hi : 2 < args.length) (hr : ∀ a ∈ args, 0 ≤ a ∧ a < ts.length) : Calls Try.prog 76 #[.int .i64 2, .pointer (some ⟨bt, 0, none⟩), .pointer (some ⟨bx, 0, none⟩)] w fun e w' => e = .returned (.int .i64 (wdt ts args 2)) ∧ ∃ m, w' = w.drewN m := by
  have h := hr (args.getD 2 0) (by rw [List.getD_eq_getElem?_getD, List.getElem?_eq_getElem hi]; exact List.getElem_mem hi)
  exact typed1 2 ts args bt bx tv av w ht hx hts ha hi h.1 h.2
set_option maxHeartbeats 4000000 in
theorem isTyped_any (ts : List Nd) (x : Nd) (tv v : Value) (w : World) (hts : Nds w tv ts) (hv : Ints .i64 w v x.args) (hlen : (x.args.length : Int) = arV x.op) (hr : ∀ a ∈ x.args, 0 ≤ a ∧ a < ts.length) : Calls Try.prog 47 #[tv, .agg #[.int .i64 x.op, .int .i64 x.width, .int .i64 x.flags, v, .int .u32 x.imm]] w fun e w' => e = .returned (.bool (typed ts x)) ∧ Below w.heap.size w w' := by
  obtain ⟨op, width, flags, args, imm⟩ := x
  simp only at hv hlen hr ⊢
  have HV := Lib.hid hv
  have HT := Lib.hid hts
  have HR := Lib.hid hr
  obtain ⟨a, c, rfl, hc1, hc2, hc3, hcell⟩ := hv
  obtain ⟨ta, tc, rfl, ht1, ht2, _⟩ := hts
  clear hcell hc3 hr
  have hpos := arV_cases op
  rcases arV_cases op with ⟨rfl | rfl, e0⟩ | ⟨⟨h1, h2⟩, e0⟩ | ⟨rfl, e0⟩ | ⟨⟨h1, h2⟩, e0⟩ | ⟨h, e0⟩
  · clear hlen hpos e0
    have e : typed ts ⟨0, width, flags, args, imm⟩ = true := by simp [typed]
    rw [e]
    clear e
    have h00 := Since.refl ((w.alloc (.cells #[.slice ta ts.length tc] 22)).alloc (.cells #[.int .i64 0, .int .i64 width, .int .i64 flags, .slice a args.length c, .int .u32 imm] 47))
    have l0 : ∀ wk, Since ((w.alloc (.cells #[.slice ta ts.length tc] 22)).alloc (.cells #[.int .i64 0, .int .i64 width, .int .i64 flags, .slice a args.length c, .int .u32 imm] 47)) wk → wk.cell? ⟨w.heap.size, 0, none⟩ = some (.slice ta ts.length tc) := fun wk h => by rw [(bcell (show Below _ _ _ from h)).1 _ _ (by simp; try omega)]; simp [go_sem]
    have l1 : ∀ wk, Since ((w.alloc (.cells #[.slice ta ts.length tc] 22)).alloc (.cells #[.int .i64 0, .int .i64 width, .int .i64 flags, .slice a args.length c, .int .u32 imm] 47)) wk → wk.cell? ⟨w.heap.size + 1, 0, none⟩ = some (.int .i64 0) := fun wk h => by rw [(bcell (show Below _ _ _ from h)).1 _ _ (by simp; try omega)]; simp [go_sem]
    have l2 : ∀ wk, Since ((w.alloc (.cells #[.slice ta ts.length tc] 22)).alloc (.cells #[.int .i64 0, .int .i64 width, .int .i64 flags, .slice a args.length c, .int .u32 imm] 47)) wk → wk.cell? ⟨w.heap.size + 1, 1, none⟩ = some (.int .i64 width) := fun wk h => by rw [(bcell (show Below _ _ _ from h)).1 _ _ (by simp; try omega)]; simp [go_sem]
    have l3 : ∀ wk, Since ((w.alloc (.cells #[.slice ta ts.length tc] 22)).alloc (.cells #[.int .i64 0, .int .i64 width, .int .i64 flags, .slice a args.length c, .int .u32 imm] 47)) wk → wk.cell? ⟨w.heap.size + 1, 2, none⟩ = some (.int .i64 flags) := fun wk h => by rw [(bcell (show Below _ _ _ from h)).1 _ _ (by simp; try omega)]; simp [go_sem]
    have l4 : ∀ wk, Since ((w.alloc (.cells #[.slice ta ts.length tc] 22)).alloc (.cells #[.int .i64 0, .int .i64 width, .int .i64 flags, .slice a args.length c, .int .u32 imm] 47)) wk → wk.cell? ⟨w.heap.size + 1, 3, none⟩ = some (.slice a args.length c) := fun wk h => by rw [(bcell (show Below _ _ _ from h)).1 _ _ (by simp; try omega)]; simp [go_sem]
    have l5 : ∀ wk, Since ((w.alloc (.cells #[.slice ta ts.length tc] 22)).alloc (.cells #[.int .i64 0, .int .i64 width, .int .i64 flags, .slice a args.length c, .int .u32 imm] 47)) wk → wk.cell? ⟨w.heap.size + 1, 4, none⟩ = some (.int .u32 imm) := fun wk h => by rw [(bcell (show Below _ _ _ from h)).1 _ _ (by simp; try omega)]; simp [go_sem]
    have hn : ∀ wk, Since ((w.alloc (.cells #[.slice ta ts.length tc] 22)).alloc (.cells #[.int .i64 0, .int .i64 width, .int .i64 flags, .slice a args.length c, .int .u32 imm] 47)) wk → Nds wk (.slice ta ts.length tc) ts := fun wk h => HT.out.stays (below_box (below_box h))
    have hin : ∀ wk, Since ((w.alloc (.cells #[.slice ta ts.length tc] 22)).alloc (.cells #[.int .i64 0, .int .i64 width, .int .i64 flags, .slice a args.length c, .int .u32 imm] 47)) wk → Ints .i64 wk (.slice a args.length c) args := fun wk h => HV.out.stays (below_box (below_box h))
    go_enter Try.func47, Try.ntmps47
    go_wp2_with fail
    go_ret
    exact ⟨rfl, by repeat (first | with_reducible exact Below.refl _ _ | with_reducible refine below_drewN ?_ _ | with_reducible refine Below.alloc ?_ (by simp; try omega) _)⟩
  · clear hlen hpos e0
    have e : typed ts ⟨33, width, flags, args, imm⟩ = true := by simp [typed]
    rw [e]
    clear e
    have h00 := Since.refl ((w.alloc (.cells #[.slice ta ts.length tc] 22)).alloc (.cells #[.int .i64 33, .int .i64 width, .int .i64 flags, .slice a args.length c, .int .u32 imm] 47))
    have l0 : ∀ wk, Since ((w.alloc (.cells #[.slice ta ts.length tc] 22)).alloc (.cells #[.int .i64 33, .int .i64 width, .int .i64 flags, .slice a args.length c, .int .u32 imm] 47)) wk → wk.cell? ⟨w.heap.size, 0, none⟩ = some (.slice ta ts.length tc) := fun wk h => by rw [(bcell (show Below _ _ _ from h)).1 _ _ (by simp; try omega)]; simp [go_sem]
    have l1 : ∀ wk, Since ((w.alloc (.cells #[.slice ta ts.length tc] 22)).alloc (.cells #[.int .i64 33, .int .i64 width, .int .i64 flags, .slice a args.length c, .int .u32 imm] 47)) wk → wk.cell? ⟨w.heap.size + 1, 0, none⟩ = some (.int .i64 33) := fun wk h => by rw [(bcell (show Below _ _ _ from h)).1 _ _ (by simp; try omega)]; simp [go_sem]
    have l2 : ∀ wk, Since ((w.alloc (.cells #[.slice ta ts.length tc] 22)).alloc (.cells #[.int .i64 33, .int .i64 width, .int .i64 flags, .slice a args.length c, .int .u32 imm] 47)) wk → wk.cell? ⟨w.heap.size + 1, 1, none⟩ = some (.int .i64 width) := fun wk h => by rw [(bcell (show Below _ _ _ from h)).1 _ _ (by simp; try omega)]; simp [go_sem]
    have l3 : ∀ wk, Since ((w.alloc (.cells #[.slice ta ts.length tc] 22)).alloc (.cells #[.int .i64 33, .int .i64 width, .int .i64 flags, .slice a args.length c, .int .u32 imm] 47)) wk → wk.cell? ⟨w.heap.size + 1, 2, none⟩ = some (.int .i64 flags) := fun wk h => by rw [(bcell (show Below _ _ _ from h)).1 _ _ (by simp; try omega)]; simp [go_sem]
    have l4 : ∀ wk, Since ((w.alloc (.cells #[.slice ta ts.length tc] 22)).alloc (.cells #[.int .i64 33, .int .i64 width, .int .i64 flags, .slice a args.length c, .int .u32 imm] 47)) wk → wk.cell? ⟨w.heap.size + 1, 3, none⟩ = some (.slice a args.length c) := fun wk h => by rw [(bcell (show Below _ _ _ from h)).1 _ _ (by simp; try omega)]; simp [go_sem]
    have l5 : ∀ wk, Since ((w.alloc (.cells #[.slice ta ts.length tc] 22)).alloc (.cells #[.int .i64 33, .int .i64 width, .int .i64 flags, .slice a args.length c, .int .u32 imm] 47)) wk → wk.cell? ⟨w.heap.size + 1, 4, none⟩ = some (.int .u32 imm) := fun wk h => by rw [(bcell (show Below _ _ _ from h)).1 _ _ (by simp; try omega)]; simp [go_sem]
    have hn : ∀ wk, Since ((w.alloc (.cells #[.slice ta ts.length tc] 22)).alloc (.cells #[.int .i64 33, .int .i64 width, .int .i64 flags, .slice a args.length c, .int .u32 imm] 47)) wk → Nds wk (.slice ta ts.length tc) ts := fun wk h => HT.out.stays (below_box (below_box h))
    have hin : ∀ wk, Since ((w.alloc (.cells #[.slice ta ts.length tc] 22)).alloc (.cells #[.int .i64 33, .int .i64 width, .int .i64 flags, .slice a args.length c, .int .u32 imm] 47)) wk → Ints .i64 wk (.slice a args.length c) args := fun wk h => HV.out.stays (below_box (below_box h))
    go_enter Try.func47, Try.ntmps47
    go_wp2_with fail
    go_ret
    exact ⟨rfl, by repeat (first | with_reducible exact Below.refl _ _ | with_reducible refine below_drewN ?_ _ | with_reducible refine Below.alloc ?_ (by simp; try omega) _)⟩
  · have n2 : 1 < args.length := by omega
    clear hlen hpos e0
    by_cases o14 : op = 14
    · subst o14
      have e : typed ts ⟨14, width, flags, args, imm⟩ = (wdt ts args 0 == wdt ts args 1) := by simp [typed]
      rw [e]
      clear e
      have h00 := Since.refl ((w.alloc (.cells #[.slice ta ts.length tc] 22)).alloc (.cells #[.int .i64 14, .int .i64 width, .int .i64 flags, .slice a args.length c, .int .u32 imm] 47))
      have l0 : ∀ wk, Since ((w.alloc (.cells #[.slice ta ts.length tc] 22)).alloc (.cells #[.int .i64 14, .int .i64 width, .int .i64 flags, .slice a args.length c, .int .u32 imm] 47)) wk → wk.cell? ⟨w.heap.size, 0, none⟩ = some (.slice ta ts.length tc) := fun wk h => by rw [(bcell (show Below _ _ _ from h)).1 _ _ (by simp; try omega)]; simp [go_sem]
      have l1 : ∀ wk, Since ((w.alloc (.cells #[.slice ta ts.length tc] 22)).alloc (.cells #[.int .i64 14, .int .i64 width, .int .i64 flags, .slice a args.length c, .int .u32 imm] 47)) wk → wk.cell? ⟨w.heap.size + 1, 0, none⟩ = some (.int .i64 14) := fun wk h => by rw [(bcell (show Below _ _ _ from h)).1 _ _ (by simp; try omega)]; simp [go_sem]
      have l2 : ∀ wk, Since ((w.alloc (.cells #[.slice ta ts.length tc] 22)).alloc (.cells #[.int .i64 14, .int .i64 width, .int .i64 flags, .slice a args.length c, .int .u32 imm] 47)) wk → wk.cell? ⟨w.heap.size + 1, 1, none⟩ = some (.int .i64 width) := fun wk h => by rw [(bcell (show Below _ _ _ from h)).1 _ _ (by simp; try omega)]; simp [go_sem]
      have l3 : ∀ wk, Since ((w.alloc (.cells #[.slice ta ts.length tc] 22)).alloc (.cells #[.int .i64 14, .int .i64 width, .int .i64 flags, .slice a args.length c, .int .u32 imm] 47)) wk → wk.cell? ⟨w.heap.size + 1, 2, none⟩ = some (.int .i64 flags) := fun wk h => by rw [(bcell (show Below _ _ _ from h)).1 _ _ (by simp; try omega)]; simp [go_sem]
      have l4 : ∀ wk, Since ((w.alloc (.cells #[.slice ta ts.length tc] 22)).alloc (.cells #[.int .i64 14, .int .i64 width, .int .i64 flags, .slice a args.length c, .int .u32 imm] 47)) wk → wk.cell? ⟨w.heap.size + 1, 3, none⟩ = some (.slice a args.length c) := fun wk h => by rw [(bcell (show Below _ _ _ from h)).1 _ _ (by simp; try omega)]; simp [go_sem]
      have l5 : ∀ wk, Since ((w.alloc (.cells #[.slice ta ts.length tc] 22)).alloc (.cells #[.int .i64 14, .int .i64 width, .int .i64 flags, .slice a args.length c, .int .u32 imm] 47)) wk → wk.cell? ⟨w.heap.size + 1, 4, none⟩ = some (.int .u32 imm) := fun wk h => by rw [(bcell (show Below _ _ _ from h)).1 _ _ (by simp; try omega)]; simp [go_sem]
      have hn : ∀ wk, Since ((w.alloc (.cells #[.slice ta ts.length tc] 22)).alloc (.cells #[.int .i64 14, .int .i64 width, .int .i64 flags, .slice a args.length c, .int .u32 imm] 47)) wk → Nds wk (.slice ta ts.length tc) ts := fun wk h => HT.out.stays (below_box (below_box h))
      have hin : ∀ wk, Since ((w.alloc (.cells #[.slice ta ts.length tc] 22)).alloc (.cells #[.int .i64 14, .int .i64 width, .int .i64 flags, .slice a args.length c, .int .u32 imm] 47)) wk → Ints .i64 wk (.slice a args.length c) args := fun wk h => HV.out.stays (below_box (below_box h))
      go_enter Try.func47, Try.ntmps47
      go_wp2_with fail
      go_at_call 76
      refine (typed1_0 ts args _ _ _ _ _ (l0 _ h00) (l4 _ h00) (hn _ h00) (hin _ h00) (by omega) HR.out).mono ?_
      rintro e w' ⟨rfl, m0, rfl⟩
      go_wp2_with fail
      go_at_call 76
      refine (typed1_1 ts args _ _ _ _ _ (l0 _ (h00.drewN _)) (l4 _ (h00.drewN _)) (hn _ (h00.drewN _)) (hin _ (h00.drewN _)) (by omega) HR.out).mono ?_
      rintro e w' ⟨rfl, m1, rfl⟩
      go_wp2_with fail
      go_ret
      exact ⟨rfl, by repeat (first | with_reducible exact Below.refl _ _ | with_reducible refine below_drewN ?_ _ | with_reducible refine Below.alloc ?_ (by simp; try omega) _)⟩
    · have h13 : op ≤ 13 := by omega
      have q0 : decide (1 ≤ op) = true := by simp; omega
      have q1 : decide (op ≤ 13) = true := by simp; omega
      clear o14 h2
      cases c1 : (wdt ts args 0 == width)
      · have e : typed ts ⟨op, width, flags, args, imm⟩ = false := by simp [typed, h1, h13, c1]
        rw [e]
        clear e
        have h00 := Since.refl ((w.alloc (.cells #[.slice ta ts.length tc] 22)).alloc (.cells #[.int .i64 op, .int .i64 width, .int .i64 flags, .slice a args.length c, .int .u32 imm] 47))
        have l0 : ∀ wk, Since ((w.alloc (.cells #[.slice ta ts.length tc] 22)).alloc (.cells #[.int .i64 op, .int .i64 width, .int .i64 flags, .slice a args.length c, .int .u32 imm] 47)) wk → wk.cell? ⟨w.heap.size, 0, none⟩ = some (.slice ta ts.length tc) := fun wk h => by rw [(bcell (show Below _ _ _ from h)).1 _ _ (by simp; try omega)]; simp [go_sem]
        have l1 : ∀ wk, Since ((w.alloc (.cells #[.slice ta ts.length tc] 22)).alloc (.cells #[.int .i64 op, .int .i64 width, .int .i64 flags, .slice a args.length c, .int .u32 imm] 47)) wk → wk.cell? ⟨w.heap.size + 1, 0, none⟩ = some (.int .i64 op) := fun wk h => by rw [(bcell (show Below _ _ _ from h)).1 _ _ (by simp; try omega)]; simp [go_sem]
        have l2 : ∀ wk, Since ((w.alloc (.cells #[.slice ta ts.length tc] 22)).alloc (.cells #[.int .i64 op, .int .i64 width, .int .i64 flags, .slice a args.length c, .int .u32 imm] 47)) wk → wk.cell? ⟨w.heap.size + 1, 1, none⟩ = some (.int .i64 width) := fun wk h => by rw [(bcell (show Below _ _ _ from h)).1 _ _ (by simp; try omega)]; simp [go_sem]
        have l3 : ∀ wk, Since ((w.alloc (.cells #[.slice ta ts.length tc] 22)).alloc (.cells #[.int .i64 op, .int .i64 width, .int .i64 flags, .slice a args.length c, .int .u32 imm] 47)) wk → wk.cell? ⟨w.heap.size + 1, 2, none⟩ = some (.int .i64 flags) := fun wk h => by rw [(bcell (show Below _ _ _ from h)).1 _ _ (by simp; try omega)]; simp [go_sem]
        have l4 : ∀ wk, Since ((w.alloc (.cells #[.slice ta ts.length tc] 22)).alloc (.cells #[.int .i64 op, .int .i64 width, .int .i64 flags, .slice a args.length c, .int .u32 imm] 47)) wk → wk.cell? ⟨w.heap.size + 1, 3, none⟩ = some (.slice a args.length c) := fun wk h => by rw [(bcell (show Below _ _ _ from h)).1 _ _ (by simp; try omega)]; simp [go_sem]
        have l5 : ∀ wk, Since ((w.alloc (.cells #[.slice ta ts.length tc] 22)).alloc (.cells #[.int .i64 op, .int .i64 width, .int .i64 flags, .slice a args.length c, .int .u32 imm] 47)) wk → wk.cell? ⟨w.heap.size + 1, 4, none⟩ = some (.int .u32 imm) := fun wk h => by rw [(bcell (show Below _ _ _ from h)).1 _ _ (by simp; try omega)]; simp [go_sem]
        have hn : ∀ wk, Since ((w.alloc (.cells #[.slice ta ts.length tc] 22)).alloc (.cells #[.int .i64 op, .int .i64 width, .int .i64 flags, .slice a args.length c, .int .u32 imm] 47)) wk → Nds wk (.slice ta ts.length tc) ts := fun wk h => HT.out.stays (below_box (below_box h))
        have hin : ∀ wk, Since ((w.alloc (.cells #[.slice ta ts.length tc] 22)).alloc (.cells #[.int .i64 op, .int .i64 width, .int .i64 flags, .slice a args.length c, .int .u32 imm] 47)) wk → Ints .i64 wk (.slice a args.length c) args := fun wk h => HV.out.stays (below_box (below_box h))
        go_enter Try.func47, Try.ntmps47
        go_wp2_with fail
        go_quiet (first | (go_at_call 76; with_reducible exact Calls.quiet_of (typed1_0 ts args _ _ _ _ _ (l0 _ (h00.drewN _)) (l4 _ (h00.drewN _)) (hn _ (h00.drewN _)) (hin _ (h00.drewN _)) (by omega) HR.out)) | (go_at_call 76; with_reducible exact Calls.quiet_of (typed1_1 ts args _ _ _ _ _ (l0 _ (h00.drewN _)) (l4 _ (h00.drewN _)) (hn _ (h00.drewN _)) (hin _ (h00.drewN _)) (by omega) HR.out)))
        go_wp2_with fail
        go_ret
        exact ⟨rfl, by repeat (first | with_reducible exact Below.refl _ _ | with_reducible refine below_drewN ?_ _ | with_reducible refine Below.alloc ?_ (by simp; try omega) _)⟩
      · have e : typed ts ⟨op, width, flags, args, imm⟩ = (wdt ts args 1 == width) := by simp [typed, h1, h13, c1]
        rw [e]
        clear e
        have h00 := Since.refl ((w.alloc (.cells #[.slice ta ts.length tc] 22)).alloc (.cells #[.int .i64 op, .int .i64 width, .int .i64 flags, .slice a args.length c, .int .u32 imm] 47))
        have l0 : ∀ wk, Since ((w.alloc (.cells #[.slice ta ts.length tc] 22)).alloc (.cells #[.int .i64 op, .int .i64 width, .int .i64 flags, .slice a args.length c, .int .u32 imm] 47)) wk → wk.cell? ⟨w.heap.size, 0, none⟩ = some (.slice ta ts.length tc) := fun wk h => by rw [(bcell (show Below _ _ _ from h)).1 _ _ (by simp; try omega)]; simp [go_sem]
        have l1 : ∀ wk, Since ((w.alloc (.cells #[.slice ta ts.length tc] 22)).alloc (.cells #[.int .i64 op, .int .i64 width, .int .i64 flags, .slice a args.length c, .int .u32 imm] 47)) wk → wk.cell? ⟨w.heap.size + 1, 0, none⟩ = some (.int .i64 op) := fun wk h => by rw [(bcell (show Below _ _ _ from h)).1 _ _ (by simp; try omega)]; simp [go_sem]
        have l2 : ∀ wk, Since ((w.alloc (.cells #[.slice ta ts.length tc] 22)).alloc (.cells #[.int .i64 op, .int .i64 width, .int .i64 flags, .slice a args.length c, .int .u32 imm] 47)) wk → wk.cell? ⟨w.heap.size + 1, 1, none⟩ = some (.int .i64 width) := fun wk h => by rw [(bcell (show Below _ _ _ from h)).1 _ _ (by simp; try omega)]; simp [go_sem]
        have l3 : ∀ wk, Since ((w.alloc (.cells #[.slice ta ts.length tc] 22)).alloc (.cells #[.int .i64 op, .int .i64 width, .int .i64 flags, .slice a args.length c, .int .u32 imm] 47)) wk → wk.cell? ⟨w.heap.size + 1, 2, none⟩ = some (.int .i64 flags) := fun wk h => by rw [(bcell (show Below _ _ _ from h)).1 _ _ (by simp; try omega)]; simp [go_sem]
        have l4 : ∀ wk, Since ((w.alloc (.cells #[.slice ta ts.length tc] 22)).alloc (.cells #[.int .i64 op, .int .i64 width, .int .i64 flags, .slice a args.length c, .int .u32 imm] 47)) wk → wk.cell? ⟨w.heap.size + 1, 3, none⟩ = some (.slice a args.length c) := fun wk h => by rw [(bcell (show Below _ _ _ from h)).1 _ _ (by simp; try omega)]; simp [go_sem]
        have l5 : ∀ wk, Since ((w.alloc (.cells #[.slice ta ts.length tc] 22)).alloc (.cells #[.int .i64 op, .int .i64 width, .int .i64 flags, .slice a args.length c, .int .u32 imm] 47)) wk → wk.cell? ⟨w.heap.size + 1, 4, none⟩ = some (.int .u32 imm) := fun wk h => by rw [(bcell (show Below _ _ _ from h)).1 _ _ (by simp; try omega)]; simp [go_sem]
        have hn : ∀ wk, Since ((w.alloc (.cells #[.slice ta ts.length tc] 22)).alloc (.cells #[.int .i64 op, .int .i64 width, .int .i64 flags, .slice a args.length c, .int .u32 imm] 47)) wk → Nds wk (.slice ta ts.length tc) ts := fun wk h => HT.out.stays (below_box (below_box h))
        have hin : ∀ wk, Since ((w.alloc (.cells #[.slice ta ts.length tc] 22)).alloc (.cells #[.int .i64 op, .int .i64 width, .int .i64 flags, .slice a args.length c, .int .u32 imm] 47)) wk → Ints .i64 wk (.slice a args.length c) args := fun wk h => HV.out.stays (below_box (below_box h))
        go_enter Try.func47, Try.ntmps47
        go_wp2_with fail
        go_quiet (first | (go_at_call 76; with_reducible exact Calls.quiet_of (typed1_0 ts args _ _ _ _ _ (l0 _ (h00.drewN _)) (l4 _ (h00.drewN _)) (hn _ (h00.drewN _)) (hin _ (h00.drewN _)) (by omega) HR.out)) | (go_at_call 76; with_reducible exact Calls.quiet_of (typed1_1 ts args _ _ _ _ _ (l0 _ (h00.drewN _)) (l4 _ (h00.drewN _)) (hn _ (h00.drewN _)) (hin _ (h00.drewN _)) (by omega) HR.out)))
        go_wp2_with fail
        go_ret
        exact ⟨rfl, by repeat (first | with_reducible exact Below.refl _ _ | with_reducible refine below_drewN ?_ _ | with_reducible refine Below.alloc ?_ (by simp; try omega) _)⟩
  · have n3 : 2 < args.length := by omega
    clear hlen hpos e0
    cases c1 : (wdt ts args 0 == 1)
    · have e : typed ts ⟨15, width, flags, args, imm⟩ = false := by simp [typed, c1]
      rw [e]
      clear e
      have h00 := Since.refl ((w.alloc (.cells #[.slice ta ts.length tc] 22)).alloc (.cells #[.int .i64 15, .int .i64 width, .int .i64 flags, .slice a args.length c, .int .u32 imm] 47))
      have l0 : ∀ wk, Since ((w.alloc (.cells #[.slice ta ts.length tc] 22)).alloc (.cells #[.int .i64 15, .int .i64 width, .int .i64 flags, .slice a args.length c, .int .u32 imm] 47)) wk → wk.cell? ⟨w.heap.size, 0, none⟩ = some (.slice ta ts.length tc) := fun wk h => by rw [(bcell (show Below _ _ _ from h)).1 _ _ (by simp; try omega)]; simp [go_sem]
      have l1 : ∀ wk, Since ((w.alloc (.cells #[.slice ta ts.length tc] 22)).alloc (.cells #[.int .i64 15, .int .i64 width, .int .i64 flags, .slice a args.length c, .int .u32 imm] 47)) wk → wk.cell? ⟨w.heap.size + 1, 0, none⟩ = some (.int .i64 15) := fun wk h => by rw [(bcell (show Below _ _ _ from h)).1 _ _ (by simp; try omega)]; simp [go_sem]
      have l2 : ∀ wk, Since ((w.alloc (.cells #[.slice ta ts.length tc] 22)).alloc (.cells #[.int .i64 15, .int .i64 width, .int .i64 flags, .slice a args.length c, .int .u32 imm] 47)) wk → wk.cell? ⟨w.heap.size + 1, 1, none⟩ = some (.int .i64 width) := fun wk h => by rw [(bcell (show Below _ _ _ from h)).1 _ _ (by simp; try omega)]; simp [go_sem]
      have l3 : ∀ wk, Since ((w.alloc (.cells #[.slice ta ts.length tc] 22)).alloc (.cells #[.int .i64 15, .int .i64 width, .int .i64 flags, .slice a args.length c, .int .u32 imm] 47)) wk → wk.cell? ⟨w.heap.size + 1, 2, none⟩ = some (.int .i64 flags) := fun wk h => by rw [(bcell (show Below _ _ _ from h)).1 _ _ (by simp; try omega)]; simp [go_sem]
      have l4 : ∀ wk, Since ((w.alloc (.cells #[.slice ta ts.length tc] 22)).alloc (.cells #[.int .i64 15, .int .i64 width, .int .i64 flags, .slice a args.length c, .int .u32 imm] 47)) wk → wk.cell? ⟨w.heap.size + 1, 3, none⟩ = some (.slice a args.length c) := fun wk h => by rw [(bcell (show Below _ _ _ from h)).1 _ _ (by simp; try omega)]; simp [go_sem]
      have l5 : ∀ wk, Since ((w.alloc (.cells #[.slice ta ts.length tc] 22)).alloc (.cells #[.int .i64 15, .int .i64 width, .int .i64 flags, .slice a args.length c, .int .u32 imm] 47)) wk → wk.cell? ⟨w.heap.size + 1, 4, none⟩ = some (.int .u32 imm) := fun wk h => by rw [(bcell (show Below _ _ _ from h)).1 _ _ (by simp; try omega)]; simp [go_sem]
      have hn : ∀ wk, Since ((w.alloc (.cells #[.slice ta ts.length tc] 22)).alloc (.cells #[.int .i64 15, .int .i64 width, .int .i64 flags, .slice a args.length c, .int .u32 imm] 47)) wk → Nds wk (.slice ta ts.length tc) ts := fun wk h => HT.out.stays (below_box (below_box h))
      have hin : ∀ wk, Since ((w.alloc (.cells #[.slice ta ts.length tc] 22)).alloc (.cells #[.int .i64 15, .int .i64 width, .int .i64 flags, .slice a args.length c, .int .u32 imm] 47)) wk → Ints .i64 wk (.slice a args.length c) args := fun wk h => HV.out.stays (below_box (below_box h))
      go_enter Try.func47, Try.ntmps47
      go_wp2_with fail
      go_quiet (first | (go_at_call 76; with_reducible exact Calls.quiet_of (typed1_0 ts args _ _ _ _ _ (l0 _ (h00.drewN _)) (l4 _ (h00.drewN _)) (hn _ (h00.drewN _)) (hin _ (h00.drewN _)) (by omega) HR.out)) | (go_at_call 76; with_reducible exact Calls.quiet_of (typed1_1 ts args _ _ _ _ _ (l0 _ (h00.drewN _)) (l4 _ (h00.drewN _)) (hn _ (h00.drewN _)) (hin _ (h00.drewN _)) (by omega) HR.out)) | (go_at_call 76; with_reducible exact Calls.quiet_of (typed1_2 ts args _ _ _ _ _ (l0 _ (h00.drewN _)) (l4 _ (h00.drewN _)) (hn _ (h00.drewN _)) (hin _ (h00.drewN _)) (by omega) HR.out)))
      go_wp2_with fail
      go_ret
      exact ⟨rfl, by repeat (first | with_reducible exact Below.refl _ _ | with_reducible refine below_drewN ?_ _ | with_reducible refine Below.alloc ?_ (by simp; try omega) _)⟩
    · cases c2 : (wdt ts args 1 == width)
      · have e : typed ts ⟨15, width, flags, args, imm⟩ = false := by simp [typed, c1, c2]
        rw [e]
        clear e
        have h00 := Since.refl ((w.alloc (.cells #[.slice ta ts.length tc] 22)).alloc (.cells #[.int .i64 15, .int .i64 width, .int .i64 flags, .slice a args.length c, .int .u32 imm] 47))
        have l0 : ∀ wk, Since ((w.alloc (.cells #[.slice ta ts.length tc] 22)).alloc (.cells #[.int .i64 15, .int .i64 width, .int .i64 flags, .slice a args.length c, .int .u32 imm] 47)) wk → wk.cell? ⟨w.heap.size, 0, none⟩ = some (.slice ta ts.length tc) := fun wk h => by rw [(bcell (show Below _ _ _ from h)).1 _ _ (by simp; try omega)]; simp [go_sem]
        have l1 : ∀ wk, Since ((w.alloc (.cells #[.slice ta ts.length tc] 22)).alloc (.cells #[.int .i64 15, .int .i64 width, .int .i64 flags, .slice a args.length c, .int .u32 imm] 47)) wk → wk.cell? ⟨w.heap.size + 1, 0, none⟩ = some (.int .i64 15) := fun wk h => by rw [(bcell (show Below _ _ _ from h)).1 _ _ (by simp; try omega)]; simp [go_sem]
        have l2 : ∀ wk, Since ((w.alloc (.cells #[.slice ta ts.length tc] 22)).alloc (.cells #[.int .i64 15, .int .i64 width, .int .i64 flags, .slice a args.length c, .int .u32 imm] 47)) wk → wk.cell? ⟨w.heap.size + 1, 1, none⟩ = some (.int .i64 width) := fun wk h => by rw [(bcell (show Below _ _ _ from h)).1 _ _ (by simp; try omega)]; simp [go_sem]
        have l3 : ∀ wk, Since ((w.alloc (.cells #[.slice ta ts.length tc] 22)).alloc (.cells #[.int .i64 15, .int .i64 width, .int .i64 flags, .slice a args.length c, .int .u32 imm] 47)) wk → wk.cell? ⟨w.heap.size + 1, 2, none⟩ = some (.int .i64 flags) := fun wk h => by rw [(bcell (show Below _ _ _ from h)).1 _ _ (by simp; try omega)]; simp [go_sem]
        have l4 : ∀ wk, Since ((w.alloc (.cells #[.slice ta ts.length tc] 22)).alloc (.cells #[.int .i64 15, .int .i64 width, .int .i64 flags, .slice a args.length c, .int .u32 imm] 47)) wk → wk.cell? ⟨w.heap.size + 1, 3, none⟩ = some (.slice a args.length c) := fun wk h => by rw [(bcell (show Below _ _ _ from h)).1 _ _ (by simp; try omega)]; simp [go_sem]
        have l5 : ∀ wk, Since ((w.alloc (.cells #[.slice ta ts.length tc] 22)).alloc (.cells #[.int .i64 15, .int .i64 width, .int .i64 flags, .slice a args.length c, .int .u32 imm] 47)) wk → wk.cell? ⟨w.heap.size + 1, 4, none⟩ = some (.int .u32 imm) := fun wk h => by rw [(bcell (show Below _ _ _ from h)).1 _ _ (by simp; try omega)]; simp [go_sem]
        have hn : ∀ wk, Since ((w.alloc (.cells #[.slice ta ts.length tc] 22)).alloc (.cells #[.int .i64 15, .int .i64 width, .int .i64 flags, .slice a args.length c, .int .u32 imm] 47)) wk → Nds wk (.slice ta ts.length tc) ts := fun wk h => HT.out.stays (below_box (below_box h))
        have hin : ∀ wk, Since ((w.alloc (.cells #[.slice ta ts.length tc] 22)).alloc (.cells #[.int .i64 15, .int .i64 width, .int .i64 flags, .slice a args.length c, .int .u32 imm] 47)) wk → Ints .i64 wk (.slice a args.length c) args := fun wk h => HV.out.stays (below_box (below_box h))
        go_enter Try.func47, Try.ntmps47
        go_wp2_with fail
        go_quiet (first | (go_at_call 76; with_reducible exact Calls.quiet_of (typed1_0 ts args _ _ _ _ _ (l0 _ (h00.drewN _)) (l4 _ (h00.drewN _)) (hn _ (h00.drewN _)) (hin _ (h00.drewN _)) (by omega) HR.out)) | (go_at_call 76; with_reducible exact Calls.quiet_of (typed1_1 ts args _ _ _ _ _ (l0 _ (h00.drewN _)) (l4 _ (h00.drewN _)) (hn _ (h00.drewN _)) (hin _ (h00.drewN _)) (by omega) HR.out)) | (go_at_call 76; with_reducible exact Calls.quiet_of (typed1_2 ts args _ _ _ _ _ (l0 _ (h00.drewN _)) (l4 _ (h00.drewN _)) (hn _ (h00.drewN _)) (hin _ (h00.drewN _)) (by omega) HR.out)))
        go_wp2_with fail
        go_ret
        exact ⟨rfl, by repeat (first | with_reducible exact Below.refl _ _ | with_reducible refine below_drewN ?_ _ | with_reducible refine Below.alloc ?_ (by simp; try omega) _)⟩
      · have e : typed ts ⟨15, width, flags, args, imm⟩ = (wdt ts args 2 == width) := by simp [typed, c1, c2]
        rw [e]
        clear e
        have h00 := Since.refl ((w.alloc (.cells #[.slice ta ts.length tc] 22)).alloc (.cells #[.int .i64 15, .int .i64 width, .int .i64 flags, .slice a args.length c, .int .u32 imm] 47))
        have l0 : ∀ wk, Since ((w.alloc (.cells #[.slice ta ts.length tc] 22)).alloc (.cells #[.int .i64 15, .int .i64 width, .int .i64 flags, .slice a args.length c, .int .u32 imm] 47)) wk → wk.cell? ⟨w.heap.size, 0, none⟩ = some (.slice ta ts.length tc) := fun wk h => by rw [(bcell (show Below _ _ _ from h)).1 _ _ (by simp; try omega)]; simp [go_sem]
        have l1 : ∀ wk, Since ((w.alloc (.cells #[.slice ta ts.length tc] 22)).alloc (.cells #[.int .i64 15, .int .i64 width, .int .i64 flags, .slice a args.length c, .int .u32 imm] 47)) wk → wk.cell? ⟨w.heap.size + 1, 0, none⟩ = some (.int .i64 15) := fun wk h => by rw [(bcell (show Below _ _ _ from h)).1 _ _ (by simp; try omega)]; simp [go_sem]
        have l2 : ∀ wk, Since ((w.alloc (.cells #[.slice ta ts.length tc] 22)).alloc (.cells #[.int .i64 15, .int .i64 width, .int .i64 flags, .slice a args.length c, .int .u32 imm] 47)) wk → wk.cell? ⟨w.heap.size + 1, 1, none⟩ = some (.int .i64 width) := fun wk h => by rw [(bcell (show Below _ _ _ from h)).1 _ _ (by simp; try omega)]; simp [go_sem]
        have l3 : ∀ wk, Since ((w.alloc (.cells #[.slice ta ts.length tc] 22)).alloc (.cells #[.int .i64 15, .int .i64 width, .int .i64 flags, .slice a args.length c, .int .u32 imm] 47)) wk → wk.cell? ⟨w.heap.size + 1, 2, none⟩ = some (.int .i64 flags) := fun wk h => by rw [(bcell (show Below _ _ _ from h)).1 _ _ (by simp; try omega)]; simp [go_sem]
        have l4 : ∀ wk, Since ((w.alloc (.cells #[.slice ta ts.length tc] 22)).alloc (.cells #[.int .i64 15, .int .i64 width, .int .i64 flags, .slice a args.length c, .int .u32 imm] 47)) wk → wk.cell? ⟨w.heap.size + 1, 3, none⟩ = some (.slice a args.length c) := fun wk h => by rw [(bcell (show Below _ _ _ from h)).1 _ _ (by simp; try omega)]; simp [go_sem]
        have l5 : ∀ wk, Since ((w.alloc (.cells #[.slice ta ts.length tc] 22)).alloc (.cells #[.int .i64 15, .int .i64 width, .int .i64 flags, .slice a args.length c, .int .u32 imm] 47)) wk → wk.cell? ⟨w.heap.size + 1, 4, none⟩ = some (.int .u32 imm) := fun wk h => by rw [(bcell (show Below _ _ _ from h)).1 _ _ (by simp; try omega)]; simp [go_sem]
        have hn : ∀ wk, Since ((w.alloc (.cells #[.slice ta ts.length tc] 22)).alloc (.cells #[.int .i64 15, .int .i64 width, .int .i64 flags, .slice a args.length c, .int .u32 imm] 47)) wk → Nds wk (.slice ta ts.length tc) ts := fun wk h => HT.out.stays (below_box (below_box h))
        have hin : ∀ wk, Since ((w.alloc (.cells #[.slice ta ts.length tc] 22)).alloc (.cells #[.int .i64 15, .int .i64 width, .int .i64 flags, .slice a args.length c, .int .u32 imm] 47)) wk → Ints .i64 wk (.slice a args.length c) args := fun wk h => HV.out.stays (below_box (below_box h))
        go_enter Try.func47, Try.ntmps47
        go_wp2_with fail
        go_quiet (first | (go_at_call 76; with_reducible exact Calls.quiet_of (typed1_0 ts args _ _ _ _ _ (l0 _ (h00.drewN _)) (l4 _ (h00.drewN _)) (hn _ (h00.drewN _)) (hin _ (h00.drewN _)) (by omega) HR.out)) | (go_at_call 76; with_reducible exact Calls.quiet_of (typed1_1 ts args _ _ _ _ _ (l0 _ (h00.drewN _)) (l4 _ (h00.drewN _)) (hn _ (h00.drewN _)) (hin _ (h00.drewN _)) (by omega) HR.out)) | (go_at_call 76; with_reducible exact Calls.quiet_of (typed1_2 ts args _ _ _ _ _ (l0 _ (h00.drewN _)) (l4 _ (h00.drewN _)) (hn _ (h00.drewN _)) (hin _ (h00.drewN _)) (by omega) HR.out)))
        go_wp2_with fail
        go_ret
        exact ⟨rfl, by repeat (first | with_reducible exact Below.refl _ _ | with_reducible refine below_drewN ?_ _ | with_reducible refine Below.alloc ?_ (by simp; try omega) _)⟩
  · have n1 : 0 < args.length := by omega
    clear hlen hpos e0
    have h3 : op = 16 ∨ op = 17 ∨ op = 18 := by omega
    rcases h3 with rfl | rfl | rfl
    · have e : typed ts ⟨16, width, flags, args, imm⟩ = decide (wdt ts args 0 < width) := by simp [typed]
      rw [e]
      clear e
      have h00 := Since.refl ((w.alloc (.cells #[.slice ta ts.length tc] 22)).alloc (.cells #[.int .i64 16, .int .i64 width, .int .i64 flags, .slice a args.length c, .int .u32 imm] 47))
      have l0 : ∀ wk, Since ((w.alloc (.cells #[.slice ta ts.length tc] 22)).alloc (.cells #[.int .i64 16, .int .i64 width, .int .i64 flags, .slice a args.length c, .int .u32 imm] 47)) wk → wk.cell? ⟨w.heap.size, 0, none⟩ = some (.slice ta ts.length tc) := fun wk h => by rw [(bcell (show Below _ _ _ from h)).1 _ _ (by simp; try omega)]; simp [go_sem]
      have l1 : ∀ wk, Since ((w.alloc (.cells #[.slice ta ts.length tc] 22)).alloc (.cells #[.int .i64 16, .int .i64 width, .int .i64 flags, .slice a args.length c, .int .u32 imm] 47)) wk → wk.cell? ⟨w.heap.size + 1, 0, none⟩ = some (.int .i64 16) := fun wk h => by rw [(bcell (show Below _ _ _ from h)).1 _ _ (by simp; try omega)]; simp [go_sem]
      have l2 : ∀ wk, Since ((w.alloc (.cells #[.slice ta ts.length tc] 22)).alloc (.cells #[.int .i64 16, .int .i64 width, .int .i64 flags, .slice a args.length c, .int .u32 imm] 47)) wk → wk.cell? ⟨w.heap.size + 1, 1, none⟩ = some (.int .i64 width) := fun wk h => by rw [(bcell (show Below _ _ _ from h)).1 _ _ (by simp; try omega)]; simp [go_sem]
      have l3 : ∀ wk, Since ((w.alloc (.cells #[.slice ta ts.length tc] 22)).alloc (.cells #[.int .i64 16, .int .i64 width, .int .i64 flags, .slice a args.length c, .int .u32 imm] 47)) wk → wk.cell? ⟨w.heap.size + 1, 2, none⟩ = some (.int .i64 flags) := fun wk h => by rw [(bcell (show Below _ _ _ from h)).1 _ _ (by simp; try omega)]; simp [go_sem]
      have l4 : ∀ wk, Since ((w.alloc (.cells #[.slice ta ts.length tc] 22)).alloc (.cells #[.int .i64 16, .int .i64 width, .int .i64 flags, .slice a args.length c, .int .u32 imm] 47)) wk → wk.cell? ⟨w.heap.size + 1, 3, none⟩ = some (.slice a args.length c) := fun wk h => by rw [(bcell (show Below _ _ _ from h)).1 _ _ (by simp; try omega)]; simp [go_sem]
      have l5 : ∀ wk, Since ((w.alloc (.cells #[.slice ta ts.length tc] 22)).alloc (.cells #[.int .i64 16, .int .i64 width, .int .i64 flags, .slice a args.length c, .int .u32 imm] 47)) wk → wk.cell? ⟨w.heap.size + 1, 4, none⟩ = some (.int .u32 imm) := fun wk h => by rw [(bcell (show Below _ _ _ from h)).1 _ _ (by simp; try omega)]; simp [go_sem]
      have hn : ∀ wk, Since ((w.alloc (.cells #[.slice ta ts.length tc] 22)).alloc (.cells #[.int .i64 16, .int .i64 width, .int .i64 flags, .slice a args.length c, .int .u32 imm] 47)) wk → Nds wk (.slice ta ts.length tc) ts := fun wk h => HT.out.stays (below_box (below_box h))
      have hin : ∀ wk, Since ((w.alloc (.cells #[.slice ta ts.length tc] 22)).alloc (.cells #[.int .i64 16, .int .i64 width, .int .i64 flags, .slice a args.length c, .int .u32 imm] 47)) wk → Ints .i64 wk (.slice a args.length c) args := fun wk h => HV.out.stays (below_box (below_box h))
      go_enter Try.func47, Try.ntmps47
      go_wp2_with fail
      go_quiet (first | (go_at_call 76; with_reducible exact Calls.quiet_of (typed1_0 ts args _ _ _ _ _ (l0 _ (h00.drewN _)) (l4 _ (h00.drewN _)) (hn _ (h00.drewN _)) (hin _ (h00.drewN _)) (by omega) HR.out)))
      go_wp2_with fail
      go_ret
      exact ⟨rfl, by repeat (first | with_reducible exact Below.refl _ _ | with_reducible refine below_drewN ?_ _ | with_reducible refine Below.alloc ?_ (by simp; try omega) _)⟩
    · have e : typed ts ⟨17, width, flags, args, imm⟩ = decide (wdt ts args 0 < width) := by simp [typed]
      rw [e]
      clear e
      have h00 := Since.refl ((w.alloc (.cells #[.slice ta ts.length tc] 22)).alloc (.cells #[.int .i64 17, .int .i64 width, .int .i64 flags, .slice a args.length c, .int .u32 imm] 47))
      have l0 : ∀ wk, Since ((w.alloc (.cells #[.slice ta ts.length tc] 22)).alloc (.cells #[.int .i64 17, .int .i64 width, .int .i64 flags, .slice a args.length c, .int .u32 imm] 47)) wk → wk.cell? ⟨w.heap.size, 0, none⟩ = some (.slice ta ts.length tc) := fun wk h => by rw [(bcell (show Below _ _ _ from h)).1 _ _ (by simp; try omega)]; simp [go_sem]
      have l1 : ∀ wk, Since ((w.alloc (.cells #[.slice ta ts.length tc] 22)).alloc (.cells #[.int .i64 17, .int .i64 width, .int .i64 flags, .slice a args.length c, .int .u32 imm] 47)) wk → wk.cell? ⟨w.heap.size + 1, 0, none⟩ = some (.int .i64 17) := fun wk h => by rw [(bcell (show Below _ _ _ from h)).1 _ _ (by simp; try omega)]; simp [go_sem]
      have l2 : ∀ wk, Since ((w.alloc (.cells #[.slice ta ts.length tc] 22)).alloc (.cells #[.int .i64 17, .int .i64 width, .int .i64 flags, .slice a args.length c, .int .u32 imm] 47)) wk → wk.cell? ⟨w.heap.size + 1, 1, none⟩ = some (.int .i64 width) := fun wk h => by rw [(bcell (show Below _ _ _ from h)).1 _ _ (by simp; try omega)]; simp [go_sem]
      have l3 : ∀ wk, Since ((w.alloc (.cells #[.slice ta ts.length tc] 22)).alloc (.cells #[.int .i64 17, .int .i64 width, .int .i64 flags, .slice a args.length c, .int .u32 imm] 47)) wk → wk.cell? ⟨w.heap.size + 1, 2, none⟩ = some (.int .i64 flags) := fun wk h => by rw [(bcell (show Below _ _ _ from h)).1 _ _ (by simp; try omega)]; simp [go_sem]
      have l4 : ∀ wk, Since ((w.alloc (.cells #[.slice ta ts.length tc] 22)).alloc (.cells #[.int .i64 17, .int .i64 width, .int .i64 flags, .slice a args.length c, .int .u32 imm] 47)) wk → wk.cell? ⟨w.heap.size + 1, 3, none⟩ = some (.slice a args.length c) := fun wk h => by rw [(bcell (show Below _ _ _ from h)).1 _ _ (by simp; try omega)]; simp [go_sem]
      have l5 : ∀ wk, Since ((w.alloc (.cells #[.slice ta ts.length tc] 22)).alloc (.cells #[.int .i64 17, .int .i64 width, .int .i64 flags, .slice a args.length c, .int .u32 imm] 47)) wk → wk.cell? ⟨w.heap.size + 1, 4, none⟩ = some (.int .u32 imm) := fun wk h => by rw [(bcell (show Below _ _ _ from h)).1 _ _ (by simp; try omega)]; simp [go_sem]
      have hn : ∀ wk, Since ((w.alloc (.cells #[.slice ta ts.length tc] 22)).alloc (.cells #[.int .i64 17, .int .i64 width, .int .i64 flags, .slice a args.length c, .int .u32 imm] 47)) wk → Nds wk (.slice ta ts.length tc) ts := fun wk h => HT.out.stays (below_box (below_box h))
      have hin : ∀ wk, Since ((w.alloc (.cells #[.slice ta ts.length tc] 22)).alloc (.cells #[.int .i64 17, .int .i64 width, .int .i64 flags, .slice a args.length c, .int .u32 imm] 47)) wk → Ints .i64 wk (.slice a args.length c) args := fun wk h => HV.out.stays (below_box (below_box h))
      go_enter Try.func47, Try.ntmps47
      go_wp2_with fail
      go_quiet (first | (go_at_call 76; with_reducible exact Calls.quiet_of (typed1_0 ts args _ _ _ _ _ (l0 _ (h00.drewN _)) (l4 _ (h00.drewN _)) (hn _ (h00.drewN _)) (hin _ (h00.drewN _)) (by omega) HR.out)))
      go_wp2_with fail
      go_ret
      exact ⟨rfl, by repeat (first | with_reducible exact Below.refl _ _ | with_reducible refine below_drewN ?_ _ | with_reducible refine Below.alloc ?_ (by simp; try omega) _)⟩
    · have e : typed ts ⟨18, width, flags, args, imm⟩ = decide (width < wdt ts args 0) := by simp [typed]
      rw [e]
      clear e
      have h00 := Since.refl ((w.alloc (.cells #[.slice ta ts.length tc] 22)).alloc (.cells #[.int .i64 18, .int .i64 width, .int .i64 flags, .slice a args.length c, .int .u32 imm] 47))
      have l0 : ∀ wk, Since ((w.alloc (.cells #[.slice ta ts.length tc] 22)).alloc (.cells #[.int .i64 18, .int .i64 width, .int .i64 flags, .slice a args.length c, .int .u32 imm] 47)) wk → wk.cell? ⟨w.heap.size, 0, none⟩ = some (.slice ta ts.length tc) := fun wk h => by rw [(bcell (show Below _ _ _ from h)).1 _ _ (by simp; try omega)]; simp [go_sem]
      have l1 : ∀ wk, Since ((w.alloc (.cells #[.slice ta ts.length tc] 22)).alloc (.cells #[.int .i64 18, .int .i64 width, .int .i64 flags, .slice a args.length c, .int .u32 imm] 47)) wk → wk.cell? ⟨w.heap.size + 1, 0, none⟩ = some (.int .i64 18) := fun wk h => by rw [(bcell (show Below _ _ _ from h)).1 _ _ (by simp; try omega)]; simp [go_sem]
      have l2 : ∀ wk, Since ((w.alloc (.cells #[.slice ta ts.length tc] 22)).alloc (.cells #[.int .i64 18, .int .i64 width, .int .i64 flags, .slice a args.length c, .int .u32 imm] 47)) wk → wk.cell? ⟨w.heap.size + 1, 1, none⟩ = some (.int .i64 width) := fun wk h => by rw [(bcell (show Below _ _ _ from h)).1 _ _ (by simp; try omega)]; simp [go_sem]
      have l3 : ∀ wk, Since ((w.alloc (.cells #[.slice ta ts.length tc] 22)).alloc (.cells #[.int .i64 18, .int .i64 width, .int .i64 flags, .slice a args.length c, .int .u32 imm] 47)) wk → wk.cell? ⟨w.heap.size + 1, 2, none⟩ = some (.int .i64 flags) := fun wk h => by rw [(bcell (show Below _ _ _ from h)).1 _ _ (by simp; try omega)]; simp [go_sem]
      have l4 : ∀ wk, Since ((w.alloc (.cells #[.slice ta ts.length tc] 22)).alloc (.cells #[.int .i64 18, .int .i64 width, .int .i64 flags, .slice a args.length c, .int .u32 imm] 47)) wk → wk.cell? ⟨w.heap.size + 1, 3, none⟩ = some (.slice a args.length c) := fun wk h => by rw [(bcell (show Below _ _ _ from h)).1 _ _ (by simp; try omega)]; simp [go_sem]
      have l5 : ∀ wk, Since ((w.alloc (.cells #[.slice ta ts.length tc] 22)).alloc (.cells #[.int .i64 18, .int .i64 width, .int .i64 flags, .slice a args.length c, .int .u32 imm] 47)) wk → wk.cell? ⟨w.heap.size + 1, 4, none⟩ = some (.int .u32 imm) := fun wk h => by rw [(bcell (show Below _ _ _ from h)).1 _ _ (by simp; try omega)]; simp [go_sem]
      have hn : ∀ wk, Since ((w.alloc (.cells #[.slice ta ts.length tc] 22)).alloc (.cells #[.int .i64 18, .int .i64 width, .int .i64 flags, .slice a args.length c, .int .u32 imm] 47)) wk → Nds wk (.slice ta ts.length tc) ts := fun wk h => HT.out.stays (below_box (below_box h))
      have hin : ∀ wk, Since ((w.alloc (.cells #[.slice ta ts.length tc] 22)).alloc (.cells #[.int .i64 18, .int .i64 width, .int .i64 flags, .slice a args.length c, .int .u32 imm] 47)) wk → Ints .i64 wk (.slice a args.length c) args := fun wk h => HV.out.stays (below_box (below_box h))
      go_enter Try.func47, Try.ntmps47
      go_wp2_with fail
      go_quiet (first | (go_at_call 76; with_reducible exact Calls.quiet_of (typed1_0 ts args _ _ _ _ _ (l0 _ (h00.drewN _)) (l4 _ (h00.drewN _)) (hn _ (h00.drewN _)) (hin _ (h00.drewN _)) (by omega) HR.out)))
      go_wp2_with fail
      go_ret
      exact ⟨rfl, by repeat (first | with_reducible exact Below.refl _ _ | with_reducible refine below_drewN ?_ _ | with_reducible refine Below.alloc ?_ (by simp; try omega) _)⟩
  · omega

end Go.Proofs.Ythopdfikikdcbaa
