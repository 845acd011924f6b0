/- Walks of package backstayref07: which nodes are typed. -/
import Derived.Test.YthopdfikikdcbaaTe
namespace Go.Proofs.Ythopdfikikdcbaa
open Go.RowKit Wd
set_option linter.unusedVariables false
set_option linter.unusedSimpArgs false
theorem info_int : (Try.prog.info? 3).map (fun i => (i.zero, i.size, i.bytes)) = some (some (.int .i64 0), 1, 8) := by kernel_rfl
theorem take_snoc0 (l : List Int) (j : Nat) (h : j < l.length) : l.take (j + 1) = l.take j ++ [l.getD j 0] := by
  rw [List.take_succ_eq_append_getElem h, List.getD_eq_getElem?_getD, List.getElem?_eq_getElem h]; rfl
/-- All cells of a slice that is not empty. -/
theorem Ints.row {k : IntKind} {w : World} {a : Option Addr} {n c : Nat} {xs : List Int} (h : Ints k w (.slice a n c) xs) (h0 : 0 < xs.length) : ∃ b o, a = some ⟨b, o, none⟩ ∧ b < w.heap.size ∧ ∀ i, i < xs.length → w.cell? ⟨b, o + i, none⟩ = some (.int k (xs.getD i 0)) := by
  obtain ⟨a', c', e, _, _, _, hc⟩ := h
  cases e
  obtain ⟨b, o, rfl, hb, _⟩ := hc 0 h0
  refine ⟨b, o, rfl, hb, fun i hi => ?_⟩
  obtain ⟨b', o', e2, _, hd⟩ := hc i hi
  cases e2
  rw [Nat.mul_one] at hd
  exact hd
/-- The widths of the Args. -/
def wlist (ts : List Nd) (args : List Int) : List Int := args.map fun a => (ts.getD a.toNat default).width
theorem wlist_at (ts : List Nd) (args : List Int) (i : Nat) (h : i < args.length) : (wlist ts args).getD i 0 = wdt ts args i := by
  unfold wlist wdt
  rw [List.getD_eq_getElem?_getD, List.getElem?_map, List.getElem?_eq_getElem h, List.getD_eq_getElem?_getD (l := args), List.getElem?_eq_getElem h]; rfl

set_option maxRecDepth 100000 in
set_option maxHeartbeats 8000000 in
theorem rTyped (ts : List Nd) (x : Nd) (tv v : Value) (w : World) (hts : Nds w tv ts) (hv : Ints .i64 w v x.args) (hlen : (x.args.length : Int) = arV x.op) (hr : ∀ a ∈ x.args, 0 ≤ a ∧ a < ts.length) : Calls Try.prog 78 #[tv, .agg #[.int .i64 x.op, .int .i64 x.width, .int .i64 x.flags, v, .int .u32 x.imm]] w fun e w' => e = .returned (.bool (typed ts x)) ∧ Below w.heap.size w w' := by
  obtain ⟨op, width, flags, args, imm⟩ := x
  simp only at hv hlen hr ⊢
  have HV := Lib.hid hv
  have HT := Lib.hid hts
  have HR := Lib.hid hr
  have hl3 : args.length ≤ 3 := by rcases arV_cases op with h | h | h | h | h <;> omega
  obtain ⟨a, c, rfl, hc1, hc2, hc3, hcell⟩ := hv
  obtain ⟨ta, tc, rfl, ht1, ht2, _⟩ := hts
  clear hcell hc3 hr
  have HLen := Lib.hid hlen
  clear hlen
  obtain ⟨i0, hi0, hz0, hz1, hz2⟩ := info_parts info_int
  go_enter Try.func78, Try.ntmps78
  go_wp2_with fail
  go_loopw [5, 6] (fun v i wr => ∃ j : Nat, j ≤ args.length ∧ i = .int .i64 j ∧ RowI wr (w.heap.size + 1) 3 .i64 v ((wlist ts args).take j) ∧ Below (w.heap.size + 1) (w.alloc (.cells #[.int .i64 op, .int .i64 width, .int .i64 flags, .slice a args.length c, .int .u32 imm] 47)) wr) (fun _ i _ => args.length - (intOf i).toNat)
  case atStart => exact ⟨0, Nat.zero_le _, rfl, RowI.nil _ _ _ _, Below.refl _ _⟩
  case round =>
    obtain ⟨j, hj, rfl, hrow, hb⟩ := hrel
    have hsz := hb.size
    rw [World.size_alloc] at hsz
    have hbw : Below w.heap.size w wr := below_box (by rw [World.size_alloc]; exact hb)
    have l3 : wr.cell? ⟨w.heap.size, 3, none⟩ = some (.slice a args.length c) := by rw [hb.cell (p := ⟨w.heap.size, 3, none⟩) (by show w.heap.size < w.heap.size + 1; omega)]; simp [go_sem]
    have l1 : wr.cell? ⟨w.heap.size, 1, none⟩ = some (.int .i64 width) := by rw [hb.cell (p := ⟨w.heap.size, 1, none⟩) (by show w.heap.size < w.heap.size + 1; omega)]; simp [go_sem]
    have l0 : wr.cell? ⟨w.heap.size, 0, none⟩ = some (.int .i64 op) := by rw [hb.cell (p := ⟨w.heap.size, 0, none⟩) (by show w.heap.size < w.heap.size + 1; omega)]; simp [go_sem]
    have HB := Lib.hid hb
    have HBW := Lib.hid hbw
    by_cases hlt : j < args.length
    · obtain ⟨a', c', e', _, _, _, hcell⟩ := HV.out.stays hbw
      cases e'
      obtain ⟨b1, o1, rfl, hb1, d1⟩ := hcell j hlt
      rw [Nat.mul_one] at d1
      clear hcell
      have hy := HR.out (args.getD j 0) (by rw [List.getD_eq_getElem?_getD, List.getElem?_eq_getElem hlt]; exact List.getElem_mem hlt)
      obtain ⟨m, hm⟩ := Int.eq_ofNat_of_zero_le hy.1
      rw [hm] at d1 hy
      have hm2 : m < ts.length := by omega
      obtain ⟨b2, q2, c2, e2, _, _, hb2, _, f1, _⟩ := (HT.out.stays hbw).at hm2
      cases e2
      have HW : Hid ((wlist ts args).take (j + 1) = (wlist ts args).take j ++ [(ts.getD m default).width]) := by
        show _ = _
        rw [take_snoc0 _ j (by unfold wlist; rw [List.length_map]; exact hlt), wlist_at _ _ _ hlt]
        unfold wdt
        rw [hm]; rfl
      generalize (ts.getD m default).width = y at *
      have htl : ((wlist ts args).take j).length = j := by rw [List.length_take]; unfold wlist; rw [List.length_map]; omega
      generalize (wlist ts args).take j = l at *
      obtain ⟨va, vc, rfl⟩ := hrow.shape
      unfold RowI at hrow
      rw [htl] at hrow ⊢
      have HO0 := Lib.hid hrow
      have HTL := Lib.hid htl
      clear htl hm hy hb hbw hrow
      go_wp2_with (at_builtin; refine wpList_append_own _ rfl _ _ 25 rfl (w.heap.size + 1) 3 i0 (.int .i64 0) 1 8 Try.underlying25 hi0 hz0 hz1 hz2 rfl (by decide) _ _ _ rfl (HO0.out.alloc _) ⟨wr.heap.size, 0, none⟩ 1 1 [.int .i64 (y)] rfl rfl ?c1 ?c2 ?c3 ?c4 ?c5 ?_)
      case c1 =>
        intro i u h
        rcases i with _ | i
        · cases h; simp [go_sem, Addr.add]
        · cases h
      case c2 => simp [Value.oneCell']
      case c3 => unfold maxLen; omega
      case c4 => omega
      case c5 => simp; omega
      intro v' w1 hown' hgrow _
      have HO := Lib.hid hown'
      have HG := Lib.hid hgrow
      clear hown' hgrow
      go_wp2_with fail
      go_roundw
      case rel => exact ⟨j + 1, by omega, by go_num, RowI.app1 HO.out HTL.out HW.out, (HB.out.alloc (by omega) _).grown HG.out (by simp; omega) (own_ge HO0.out)⟩
      case measure => simp [intOf]; omega
    · obtain rfl : j = args.length := by omega
      have htk : (wlist ts args).take args.length = wlist ts args := List.take_of_length_le (by unfold wlist; rw [List.length_map]; omega)
      rw [htk] at hrow
      have hwl : (wlist ts args).length = args.length := by unfold wlist; rw [List.length_map]
      obtain ⟨va, vc, rfl⟩ := hrow.shape
      have hi := hrow.ints (by omega)
      have HL := Lib.hid hwl
      have HI := Lib.hid hi
      have HLen' := HLen.out
      rw [hwl]
      clear hwl hi hrow htk hb hbw
      have e0 := arV_cases op
      by_cases hz : op = 0 ∨ op = 33
      · have HV0 : Hid (typed ts ⟨op, width, flags, args, imm⟩ = true) := by show _ = _; rcases hz with rfl | rfl <;> simp [typed]
        clear HLen' e0
        rcases hz with rfl | rfl
        all_goals
          go_wp2_with fail
          go_ret
          exact ⟨ret_b HV0.out.symm, HBW.out⟩
      · have hn : 0 < args.length := by omega
        obtain ⟨vb, vo, rfl, hvb, hcs⟩ := HI.out.row (by rw [HL.out]; exact hn)
        have k0 := hcs 0 (by rw [HL.out]; exact hn)
        rw [wlist_at _ _ _ hn, Nat.add_zero] at k0
        have HC : Hid (∀ i, i < args.length → wr.cell? ⟨vb, vo + i, none⟩ = some (.int .i64 (wdt ts args i))) := fun i h => by
          have := hcs i (by rw [HL.out]; exact h)
          rw [wlist_at _ _ _ h] at this
          exact this
        clear hcs
        have z0 : (op == 0) = false := by simp; omega
        have z33 : (op == 33) = false := by simp; omega
        by_cases h14 : op = 14
        · subst h14
          have n2 : 1 < args.length := by have : arV 14 = 2 := rfl; omega
          have k1 := HC.out 1 n2
          clear e0 z0 z33 hz
          have HV0 : Hid (typed ts ⟨14, width, flags, args, imm⟩ = (wdt ts args 0 == wdt ts args 1)) := by show _ = _; simp [typed]
          clear HLen'
          go_wp2_with fail
          go_quiet (fail)
          go_wp2_with fail
          go_ret
          exact ⟨ret_b HV0.out.symm, by first | exact HBW.out | exact below_drewN HBW.out _⟩
        by_cases h15 : op = 15
        · subst h15
          have n3 : 2 < args.length := by have : arV 15 = 3 := rfl; omega
          have n2 : 1 < args.length := by omega
          have k1 := HC.out 1 n2
          have k2 := HC.out 2 n3
          clear e0 z0 z33 hz h14
          cases c1 : (wdt ts args 0 == 1)
          · have HV0 : Hid (typed ts ⟨15, width, flags, args, imm⟩ = false) := by show _ = _; simp [typed, c1]
            clear HLen'
            go_wp2_with fail
            go_quiet (fail)
            go_wp2_with fail
            go_ret
            exact ⟨ret_b HV0.out.symm, by first | exact HBW.out | exact below_drewN HBW.out _⟩
          · cases c2 : (wdt ts args 1 == width)
            · have HV0 : Hid (typed ts ⟨15, width, flags, args, imm⟩ = false) := by show _ = _; simp [typed, c1, c2]
              clear HLen'
              go_wp2_with fail
              go_quiet (fail)
              go_wp2_with fail
              go_ret
              exact ⟨ret_b HV0.out.symm, by first | exact HBW.out | exact below_drewN HBW.out _⟩
            · have HV0 : Hid (typed ts ⟨15, width, flags, args, imm⟩ = (wdt ts args 2 == width)) := by show _ = _; simp [typed, c1, c2]
              clear HLen'
              go_wp2_with fail
              go_quiet (fail)
              go_wp2_with fail
              go_ret
              exact ⟨ret_b HV0.out.symm, by first | exact HBW.out | exact below_drewN HBW.out _⟩
        by_cases h16 : op = 16
        · subst h16
          clear e0 z0 z33 hz h14 h15
          have HV0 : Hid (typed ts ⟨16, width, flags, args, imm⟩ = decide (wdt ts args 0 < width)) := by show _ = _; simp [typed]
          clear HLen'
          go_wp2_with fail
          go_quiet (fail)
          go_wp2_with fail
          go_ret
          exact ⟨ret_b HV0.out.symm, by first | exact HBW.out | exact below_drewN HBW.out _⟩
        by_cases h17 : op = 17
        · subst h17
          clear e0 z0 z33 hz h14 h15 h16
          have HV0 : Hid (typed ts ⟨17, width, flags, args, imm⟩ = decide (wdt ts args 0 < width)) := by show _ = _; simp [typed]
          clear HLen'
          go_wp2_with fail
          go_quiet (fail)
          go_wp2_with fail
          go_ret
          exact ⟨ret_b HV0.out.symm, by first | exact HBW.out | exact below_drewN HBW.out _⟩
        by_cases h18 : op = 18
        · subst h18
          clear e0 z0 z33 hz h14 h15 h16 h17
          have HV0 : Hid (typed ts ⟨18, width, flags, args, imm⟩ = decide (width < wdt ts args 0)) := by show _ = _; simp [typed]
          clear HLen'
          go_wp2_with fail
          go_quiet (fail)
          go_wp2_with fail
          go_ret
          exact ⟨ret_b HV0.out.symm, by first | exact HBW.out | exact below_drewN HBW.out _⟩
        have h13 : 1 ≤ op ∧ op ≤ 13 := by have := arV_cases op; omega
        have h2 : 1 < args.length := by have := arV_cases op; omega
        have k1 := HC.out 1 h2
        have z14 : (op == 14) = false := by simp; omega
        have z15 : (op == 15) = false := by simp; omega
        have z16 : (op == 16) = false := by simp; omega
        have z17 : (op == 17) = false := by simp; omega
        have z18 : (op == 18) = false := by simp; omega
        clear e0 hz h14 h15 h16 h17 h18
        obtain ⟨g1, g2⟩ := h13
        cases c1 : (wdt ts args 0 == width)
        · have HV0 : Hid (typed ts ⟨op, width, flags, args, imm⟩ = false) := by show _ = _; simp [typed, g1, g2, c1]
          clear HLen'
          go_wp2_with fail
          go_quiet (fail)
          go_wp2_with fail
          go_ret
          exact ⟨ret_b HV0.out.symm, by first | exact HBW.out | exact below_drewN HBW.out _⟩
        · have HV0 : Hid (typed ts ⟨op, width, flags, args, imm⟩ = (wdt ts args 1 == width)) := by show _ = _; simp [typed, g1, g2, c1]
          clear HLen'
          go_wp2_with fail
          go_quiet (fail)
          go_wp2_with fail
          go_ret
          exact ⟨ret_b HV0.out.symm, by first | exact HBW.out | exact below_drewN HBW.out _⟩

end Go.Proofs.Ythopdfikikdcbaa
