/- Walks of package backstayref07: which nodes are typed. -/
import Derived.Maps.AppendAt
import Derived.Test.YthopdfikikdcbaaZj1
import Derived.Test.YthopdfikikdcbaaZj4
namespace Go.Proofs.Ythopdfikikdcbaa
open Go.RowKit Wd
set_option linter.unusedVariables false
set_option linter.unusedSimpArgs false
theorem info_int : (Try.prog.info? 3).map (fun i => (i.zero, i.size, i.bytes)) = some (some (.int .i64 0), 1, 8) := by kernel_rfl
theorem take_snoc0 (l : List Int) (j : Nat) (h : j < l.length) : l.take (j + 1) = l.take j ++ [l.getD j 0] := by
  rw [List.take_succ_eq_append_getElem h, List.getD_eq_getElem?_getD, List.getElem?_eq_getElem h]; rfl
/-- All cells of a slice that is not empty. -/
theorem Ints.row {k : IntKind} {w : World} {a : Option Addr} {n c : Nat} {xs : List Int} (h : Ints k w (.slice a n c) xs) (h0 : 0 < xs.length) : ∃ b o, a = some ⟨b, o, none⟩ ∧ b < w.heap.size ∧ ∀ i, i < xs.length → w.cell? ⟨b, o + i, none⟩ = some (.int k (xs.getD i 0)) := by
  obtain ⟨a', c', e, _, _, _, hc⟩ := h
  cases e
  obtain ⟨b, o, rfl, hb, _⟩ := hc 0 h0
  refine ⟨b, o, rfl, hb, fun i hi => ?_⟩
  obtain ⟨b', o', e2, _, hd⟩ := hc i hi
  cases e2
  rw [Nat.mul_one] at hd
  exact hd
/-- The widths of the Args. -/
def wlist (ts : List Nd) (args : List Int) : List Int := args.map fun a => (ts.getD a.toNat default).width
theorem wlist_at (ts : List Nd) (args : List Int) (i : Nat) (h : i < args.length) : (wlist ts args).getD i 0 = wdt ts args i := by
  unfold wlist wdt
  rw [List.getD_eq_getElem?_getD, List.getElem?_map, List.getElem?_eq_getElem h, List.getD_eq_getElem?_getD (l := args), List.getElem?_eq_getElem h]; rfl

set_option maxRecDepth 100000 in
set_option maxHeartbeats 8000000 in
theorem rTyped (ts : List Nd) (x : Nd) (tv v : Value) (w : World) (hts : Nds w tv ts) (hv : Ints .i64 w v x.args) (hlen : (x.args.length : Int) = arV x.op) (hr : ∀ a ∈ x.args, 0 ≤ a ∧ a < ts.length) : Calls Try.prog 78 #[tv, .agg #[.int .i64 x.op, .int .i64 x.width, .int .i64 x.flags, v, .int .u32 x.imm]] w fun e w' => e = .returned (.bool (typed ts x)) ∧ Below w.heap.size w w' := by
  obtain ⟨op, width, flags, args, imm⟩ := x
  simp only at hv hlen hr ⊢
  have HV := Lib.hid hv
  have HT := Lib.hid hts
  have HR := Lib.hid hr
  have hl3 : args.length ≤ 3 := by rcases arV_cases op with h | h | h | h | h <;> omega
  obtain ⟨a, c, rfl, hc1, hc2, hc3, hcell⟩ := hv
  obtain ⟨ta, tc, rfl, ht1, ht2, _⟩ := hts
  clear hcell hc3 hr
  have HLen := Lib.hid hlen
  clear hlen
  obtain ⟨i0, hi0, hz0, hz1, hz2⟩ := info_parts info_int
  go_enter Try.func78, Try.ntmps78
  go_wp2_with fail
  go_loopw [5, 6] (fun v i wr => ∃ j : Nat, j ≤ args.length ∧ i = .int .i64 j ∧ RowI wr (w.heap.size + 1) 3 .i64 v ((wlist ts args).take j) ∧ Below (w.heap.size + 1) (w.alloc (.cells #[.int .i64 op, .int .i64 width, .int .i64 flags, .slice a args.length c, .int .u32 imm] 47)) wr) (fun _ i _ => args.length - (intOf i).toNat)
  case atStart => exact ⟨0, Nat.zero_le _, rfl, RowI.nil _ _ _ _, Below.refl _ _⟩
  case round =>
    obtain ⟨j, hj, rfl, hrow, hb⟩ := hrel
    have hsz := hb.size
    rw [World.size_alloc] at hsz
    have hbw : Below w.heap.size w wr := below_box (by rw [World.size_alloc]; exact hb)
    have l3 : wr.cell? ⟨w.heap.size, 3, none⟩ = some (.slice a args.length c) := by rw [hb.cell (p := ⟨w.heap.size, 3, none⟩) (by show w.heap.size < w.heap.size + 1; omega)]; simp [go_sem]
    have l1 : wr.cell? ⟨w.heap.size, 1, none⟩ = some (.int .i64 width) := by rw [hb.cell (p := ⟨w.heap.size, 1, none⟩) (by show w.heap.size < w.heap.size + 1; omega)]; simp [go_sem]
    have l0 : wr.cell? ⟨w.heap.size, 0, none⟩ = some (.int .i64 op) := by rw [hb.cell (p := ⟨w.heap.size, 0, none⟩) (by show w.heap.size < w.heap.size + 1; omega)]; simp [go_sem]
    have HB := Lib.hid hb
    have HBW := Lib.hid hbw
    by_cases hlt : j < args.length
    · obtain ⟨a', c', e', _, _, _, hcell⟩ := HV.out.stays hbw
      cases e'
      obtain ⟨b1, o1, rfl, hb1, d1⟩ := hcell j hlt
      rw [Nat.mul_one] at d1
      clear hcell
      have hy := HR.out (args.getD j 0) (by rw [List.getD_eq_getElem?_getD, List.getElem?_eq_getElem hlt]; exact List.getElem_mem hlt)
      obtain ⟨m, hm⟩ := Int.eq_ofNat_of_zero_le hy.1
      rw [hm] at d1 hy
      have hm2 : m < ts.length := by omega
      obtain ⟨b2, q2, c2, e2, _, _, hb2, _, f1, _⟩ := (HT.out.stays hbw).at hm2
      cases e2
      have HW : Hid ((wlist ts args).take (j + 1) = (wlist ts args).take j ++ [(ts.getD m default).width]) := by
        show _ = _
        rw [take_snoc0 _ j (by unfold wlist; rw [List.length_map]; exact hlt), wlist_at _ _ _ hlt]
        unfold wdt
        rw [hm]; rfl
      generalize (ts.getD m default).width = y at *
      have htl : ((wlist ts args).take j).length = j := by rw [List.length_take]; unfold wlist; rw [List.length_map]; omega
      generalize (wlist ts args).take j = l at *
      obtain ⟨va, vc, rfl⟩ := hrow.shape
      unfold RowI at hrow
      rw [htl] at hrow ⊢
      have HO0 := Lib.hid hrow
      have HTL := Lib.hid htl
      clear htl hm hy hb hbw hrow
      go_wp2_with (at_builtin; refine wpList_append_own _ rfl _ _ 25 rfl (w.heap.size + 1) 3 i0 (.int .i64 0) 1 8 Try.underlying25 hi0 hz0 hz1 hz2 rfl (by decide) _ _ _ rfl (HO0.out.alloc _) ⟨wr.heap.size, 0, none⟩ 1 1 [.int .i64 (y)] rfl rfl ?c1 ?c2 ?c3 ?c4 ?c5 ?_)
      case c1 =>
        intro i u h
        rcases i with _ | i
        · cases h; simp [go_sem, Addr.add]
        · cases h
      case c2 => simp [Value.oneCell']
      case c3 => unfold maxLen; omega
      case c4 => omega
      case c5 => simp; omega
      intro v' w1 hown' hgrow _
      have HO := Lib.hid hown'
      have HG := Lib.hid hgrow
      clear hown' hgrow
      go_wp2_with fail
      go_roundw
      case rel => exact ⟨j + 1, by omega, by go_num, RowI.app1 HO.out HTL.out HW.out, (HB.out.alloc (by omega) _).grown HG.out (by simp; omega) (own_ge HO0.out)⟩
      case measure => simp [intOf]; omega
    · obtain rfl : j = args.length := by omega
      have htk : (wlist ts args).take args.length = wlist ts args := List.take_of_length_le (by unfold wlist; rw [List.length_map]; omega)
      rw [htk] at hrow
      have hwl : (wlist ts args).length = args.length := by unfold wlist; rw [List.length_map]
      obtain ⟨va, vc, rfl⟩ := hrow.shape
      have hi := hrow.ints (by omega)
      have HL := Lib.hid hwl
      have HI := Lib.hid hi
      have HLen' := HLen.out
      rw [hwl]
      clear hwl hi hrow htk hb hbw
      have e0 := arV_cases op
      by_cases hz : op = 0 ∨ op = 33
      · have HV0 : Hid (typed ts ⟨op, width, flags, args, imm⟩ = true) := by show _ = _; rcases hz with rfl | rfl <;> simp [typed]
        clear HLen' e0
        rcases hz with rfl | rfl
        all_goals
          go_wp2_with fail
          go_ret
          exact ⟨ret_b HV0.out.symm, HBW.out⟩
      · have hn : 0 < args.length := by omega
        obtain ⟨vb, vo, rfl, hvb, hcs⟩ := HI.out.row (by rw [HL.out]; exact hn)
        have k0 := hcs 0 (by rw [HL.out]; exact hn)
        rw [wlist_at _ _ _ hn, Nat.add_zero] at k0
        have HC : Hid (∀ i, i < args.length → wr.cell? ⟨vb, vo + i, none⟩ = some (.int .i64 (wdt ts args i))) := fun i h => by
          have := hcs i (by rw [HL.out]; exact h)
          rw [wlist_at _ _ _ h] at this
          exact this
        clear hcs
        have z0 : (op == 0) = false := by simp; omega
        have z33 : (op == 33) = false := by simp; omega
        by_cases h14 : op = 14
        · subst h14
          have n2 : 1 < args.length := by have : arV 14 = 2 := rfl; omega
          have k1 := HC.out 1 n2
          clear e0 z0 z33 hz
          have HV0 : Hid (typed ts ⟨14, width, flags, args, imm⟩ = (wdt ts args 0 == wdt ts args 1)) := by show _ = _; simp [typed]
          clear HLen'
          go_wp2_with fail
          go_quiet (fail)
          go_wp2_with fail
          go_ret
          exact ⟨ret_b HV0.out.symm, by first | exact HBW.out | exact below_drewN HBW.out _⟩
        by_cases h15 : op = 15
        · subst h15
          have n3 : 2 < args.length := by have : arV 15 = 3 := rfl; omega
          have n2 : 1 < args.length := by omega
          have k1 := HC.out 1 n2
          have k2 := HC.out 2 n3
          clear e0 z0 z33 hz h14
          cases c1 : (wdt ts args 0 == 1)
          · have HV0 : Hid (typed ts ⟨15, width, flags, args, imm⟩ = false) := by show _ = _; simp [typed, c1]
            clear HLen'
            go_wp2_with fail
            go_quiet (fail)
            go_wp2_with fail
            go_ret
            exact ⟨ret_b HV0.out.symm, by first | exact HBW.out | exact below_drewN HBW.out _⟩
          · cases c2 : (wdt ts args 1 == width)
            · have HV0 : Hid (typed ts ⟨15, width, flags, args, imm⟩ = false) := by show _ = _; simp [typed, c1, c2]
              clear HLen'
              go_wp2_with fail
              go_quiet (fail)
              go_wp2_with fail
              go_ret
              exact ⟨ret_b HV0.out.symm, by first | exact HBW.out | exact below_drewN HBW.out _⟩
            · have HV0 : Hid (typed ts ⟨15, width, flags, args, imm⟩ = (wdt ts args 2 == width)) := by show _ = _; simp [typed, c1, c2]
              clear HLen'
              go_wp2_with fail
              go_quiet (fail)
              go_wp2_with fail
              go_ret
              exact ⟨ret_b HV0.out.symm, by first | exact HBW.out | exact below_drewN HBW.out _⟩
        by_cases h16 : op = 16
        · subst h16
          clear e0 z0 z33 hz h14 h15
          have HV0 : Hid (typed ts ⟨16, width, flags, args, imm⟩ = decide (wdt ts args 0 < width)) := by show _ = _; simp [typed]
          clear HLen'
          go_wp2_with fail
          go_quiet (fail)
          go_wp2_with fail
          go_ret
          exact ⟨ret_b HV0.out.symm, by first | exact HBW.out | exact below_drewN HBW.out _⟩
        by_cases h17 : op = 17
        · subst h17
          clear e0 z0 z33 hz h14 h15 h16
          have HV0 : Hid (typed ts ⟨17, width, flags, args, imm⟩ = decide (wdt ts args 0 < width)) := by show _ = _; simp [typed]
          clear HLen'
          go_wp2_with fail
          go_quiet (fail)
          go_wp2_with fail
          go_ret
          exact ⟨ret_b HV0.out.symm, by first | exact HBW.out | exact below_drewN HBW.out _⟩
        by_cases h18 : op = 18
        · subst h18
          clear e0 z0 z33 hz h14 h15 h16 h17
          have HV0 : Hid (typed ts ⟨18, width, flags, args, imm⟩ = decide (width < wdt ts args 0)) := by show _ = _; simp [typed]
          clear HLen'
          go_wp2_with fail
          go_quiet (fail)
          go_wp2_with fail
          go_ret
          exact ⟨ret_b HV0.out.symm, by first | exact HBW.out | exact below_drewN HBW.out _⟩
        have h13 : 1 ≤ op ∧ op ≤ 13 := by have := arV_cases op; omega
        have h2 : 1 < args.length := by have := arV_cases op; omega
        have k1 := HC.out 1 h2
        have z14 : (op == 14) = false := by simp; omega
        have z15 : (op == 15) = false := by simp; omega
        have z16 : (op == 16) = false := by simp; omega
        have z17 : (op == 17) = false := by simp; omega
        have z18 : (op == 18) = false := by simp; omega
        clear e0 hz h14 h15 h16 h17 h18
        obtain ⟨g1, g2⟩ := h13
        cases c1 : (wdt ts args 0 == width)
        · have HV0 : Hid (typed ts ⟨op, width, flags, args, imm⟩ = false) := by show _ = _; simp [typed, g1, g2, c1]
          clear HLen'
          go_wp2_with fail
          go_quiet (fail)
          go_wp2_with fail
          go_ret
          exact ⟨ret_b HV0.out.symm, by first | exact HBW.out | exact below_drewN HBW.out _⟩
        · have HV0 : Hid (typed ts ⟨op, width, flags, args, imm⟩ = (wdt ts args 1 == width)) := by show _ = _; simp [typed, g1, g2, c1]
          clear HLen'
          go_wp2_with fail
          go_quiet (fail)
          go_wp2_with fail
          go_ret
          exact ⟨ret_b HV0.out.symm, by first | exact HBW.out | exact below_drewN HBW.out _⟩

end Go.Proofs.Ythopdfikikdcbaa
/- Which terms are valid: the plain law; and the walks of Validate, Checked. -/
namespace Go.Proofs.Ythopdfikikdcbaa
open Go.RowKit Wd
set_option linter.unusedVariables false
set_option linter.unusedSimpArgs false
def okS (ts : List Nd) : Bool := (List.range ts.length).all fun k => shaped k (ts.getD k default)
def okT (ts : List Nd) : Bool := ts.all (typed ts)
/-- The error of a term. -/
def valE (ts : List Nd) : Int := if ts.length < 1 ∨ 300 < ts.length then 3 else if okS ts = false then 1 else if okT ts = false then 6 else if wmap ts = none then 7 else 0
theorem okS_bad {ts : List Nd} {j : Nat} (hj : j < ts.length) (h : shaped j (ts.getD j default) = false) : okS ts = false := by
  rw [Bool.eq_false_iff]
  intro ha
  have := List.all_eq_true.1 ha j (List.mem_range.2 hj)
  rw [h] at this; cases this
theorem okS_good {ts : List Nd} (h : ∀ i, i < ts.length → shaped i (ts.getD i default) = true) : okS ts = true :=
  List.all_eq_true.2 fun i hi => h i (List.mem_range.1 hi)
theorem okS_at {ts : List Nd} (h : okS ts = true) {i : Nat} (hi : i < ts.length) : shaped i (ts.getD i default) = true := List.all_eq_true.1 h i (List.mem_range.2 hi)
theorem okT_bad {ts : List Nd} {j : Nat} (hj : j < ts.length) (h : typed ts (ts.getD j default) = false) : okT ts = false := by
  rw [Bool.eq_false_iff]
  intro ha
  have := List.all_eq_true.1 ha _ (mem_getD hj)
  rw [h] at this; cases this
theorem okT_good {ts : List Nd} (h : ∀ i, i < ts.length → typed ts (ts.getD i default) = true) : okT ts = true :=
  List.all_eq_true.2 fun x hx => by
    obtain ⟨i, hi, rfl⟩ := List.getElem_of_mem hx
    have := h i hi
    rw [List.getD_eq_getElem?_getD, List.getElem?_eq_getElem hi] at this
    exact this
theorem okT_at {ts : List Nd} (h : okT ts = true) {i : Nat} (hi : i < ts.length) : typed ts (ts.getD i default) = true := List.all_eq_true.1 h _ (mem_getD hi)
theorem shaped_facts {k : Nat} {x : Nd} (h : shaped k x = true) : (x.args.length : Int) = arV x.op ∧ (∀ a ∈ x.args, 0 ≤ a ∧ a < k) ∧ (1 ≤ x.width ∧ x.width ≤ 32) ∧ x.flags = 0 ∧ immOk x = true ∧ (x.op = 33 → x.imm < 4) ∧ (x.op = 14 → x.width = 1) ∧ arV x.op ≠ -1 := by
  unfold shaped at h
  simp only [Bool.and_eq_true, Bool.not_eq_true', bne_iff_ne, ne_eq, decide_eq_false_iff_not, Bool.and_eq_false_imp, beq_iff_eq, bne_eq_false_iff_eq] at h
  obtain ⟨⟨⟨⟨⟨⟨⟨h1, h2⟩, h3⟩, h4⟩, h5⟩, h6⟩, h7⟩, h8⟩ := h
  refine ⟨h5, fun a ha => ?_, ⟨by omega, by omega⟩, h4, h6, fun h33 => ?_, h7, h1⟩
  · have := List.any_eq_false.1 h8 a ha
    simp only [bad, Bool.or_eq_true, decide_eq_true_eq, not_or] at this
    omega
  · unfold immOk at h6
    rw [if_neg (by omega), if_pos h33] at h6
    simpa using h6
/-- Two variables of one number and two widths. -/
def clash (x y : Nd) : Bool := (x.op == 33) && (y.op == 33) && (x.imm == y.imm) && (x.width != y.width)
theorem clash_iff (x y : Nd) : clash x y = true ↔ x.op = 33 ∧ y.op = 33 ∧ x.imm = y.imm ∧ x.width ≠ y.width := by
  simp [clash, and_assoc]
theorem getD_set_self {l : List Int} {k : Nat} {x : Int} (h : k < l.length) : (l.set k x).getD k 0 = x := by
  rw [List.getD_eq_getElem?_getD, List.getElem?_set_self h]; rfl
theorem getD_set_ne {l : List Int} {k j : Nat} {x : Int} (h : k ≠ j) : (l.set k x).getD j 0 = l.getD j 0 := by
  rw [List.getD_eq_getElem?_getD, List.getD_eq_getElem?_getD, List.getElem?_set_ne h]
theorem wmap_inv {ts : List Nd} (hI : ∀ x ∈ ts, 0 ≤ x.imm) (hS : ∀ i, i < ts.length → shaped i (ts.getD i default) = true) : ∀ (j : Nat) (l : List Int), j ≤ ts.length → wmap (ts.take j) = some l →
    (∀ i, i < j → (ts.getD i default).op = 33 → l.getD (ts.getD i default).imm.toNat 0 = (ts.getD i default).width) ∧
    (∀ v, l.getD v 0 ≠ 0 → ∃ i, i < j ∧ (ts.getD i default).op = 33 ∧ (ts.getD i default).imm = v ∧ (ts.getD i default).width = l.getD v 0)
  | 0, l, _, h => by
    refine ⟨fun i hi => absurd hi (by omega), fun v hv => ?_⟩
    rw [List.take_zero] at h
    cases h
    have : v = 0 ∨ v = 1 ∨ v = 2 ∨ v = 3 ∨ 4 ≤ v := by omega
    exfalso
    apply hv
    rcases this with rfl | rfl | rfl | rfl | h4
    · rfl
    · rfl
    · rfl
    · rfl
    · rw [List.getD_eq_getElem?_getD, List.getElem?_eq_none (by simpa using h4)]; rfl
  | j + 1, l, hj, h => by
    have hlt : j < ts.length := by omega
    rw [wmap_snoc ts j hlt] at h
    cases e : wmap (ts.take j) with
    | none => rw [e] at h; cases h
    | some l0 =>
      obtain ⟨i1, i2⟩ := wmap_inv hI hS j l0 (by omega) e
      have hl0 := wmap_len e
      rw [e] at h
      obtain ⟨s1, s2, s3, s4, s5, s6, s7, s8⟩ := shaped_facts (hS j hlt)
      have him := hI _ (mem_getD hlt)
      by_cases h33 : (ts.getD j default).op = 33
      · have hk : (ts.getD j default).imm.toNat < l0.length := by have := s6 h33; omega
        have hl : l = l0.set (ts.getD j default).imm.toNat (ts.getD j default).width ∧ ¬ (l0.getD (ts.getD j default).imm.toNat 0 ≠ 0 ∧ l0.getD (ts.getD j default).imm.toNat 0 ≠ (ts.getD j default).width) := by
          simp only [wstep, if_pos h33] at h
          by_cases c : l0.getD (ts.getD j default).imm.toNat 0 ≠ 0 ∧ l0.getD (ts.getD j default).imm.toNat 0 ≠ (ts.getD j default).width
          · rw [if_pos c] at h; cases h
          · rw [if_neg c] at h; cases h; exact ⟨rfl, c⟩
        obtain ⟨rfl, hc⟩ := hl
        refine ⟨fun i hi h3 => ?_, fun v hv => ?_⟩
        · by_cases e2 : i = j
          · subst e2; exact getD_set_self hk
          · have hi2 := i1 i (by omega) h3
            obtain ⟨_, _, t3, _⟩ := shaped_facts (hS i (by omega))
            by_cases e3 : (ts.getD i default).imm.toNat = (ts.getD j default).imm.toNat
            · rw [e3] at hi2 ⊢
              rw [getD_set_self hk]
              omega
            · rw [getD_set_ne (fun hh => e3 hh.symm)]; exact hi2
        · by_cases e3 : (ts.getD j default).imm.toNat = v
          · subst e3
            rw [getD_set_self hk] at hv ⊢
            exact ⟨j, by omega, h33, by omega, rfl⟩
          · rw [getD_set_ne e3] at hv ⊢
            obtain ⟨i, hi, r⟩ := i2 v hv
            exact ⟨i, by omega, r⟩
      · rw [wstep_other h33] at h
        cases h
        refine ⟨fun i hi h3 => ?_, fun v hv => ?_⟩
        · by_cases e2 : i = j
          · subst e2; exact absurd h3 h33
          · exact i1 i (by omega) h3
        · obtain ⟨i, hi, r⟩ := i2 v hv
          exact ⟨i, by omega, r⟩
theorem wmap_clash {ts : List Nd} (hI : ∀ x ∈ ts, 0 ≤ x.imm) (hS : ∀ i, i < ts.length → shaped i (ts.getD i default) = true) {i k : Nat} (hk : k < ts.length) (hi : i < k) (hc : clash (ts.getD i default) (ts.getD k default) = true) : wmap ts = none := by
  obtain ⟨c1, c2, c3, c4⟩ := (clash_iff _ _).1 hc
  cases e : wmap (ts.take k) with
  | none => exact wmap_dead ts k e
  | some l =>
    apply wmap_dead ts (k + 1)
    rw [wmap_snoc ts k hk, e]
    obtain ⟨i1, _⟩ := wmap_inv hI hS k l (by omega) e
    have hi2 := i1 i hi c1
    obtain ⟨_, _, t3, _⟩ := shaped_facts (hS i (by omega))
    simp only [wstep, if_pos c2]
    rw [← c3, hi2, if_pos ⟨by omega, c4⟩]
theorem wmap_calm {ts : List Nd} (hI : ∀ x ∈ ts, 0 ≤ x.imm) (hS : ∀ i, i < ts.length → shaped i (ts.getD i default) = true) (hc : ∀ k, k < ts.length → ∀ i, i < k → clash (ts.getD i default) (ts.getD k default) = false) : wmap ts ≠ none := by
  have : ∀ j, j ≤ ts.length → ∃ l, wmap (ts.take j) = some l := by
    intro j
    induction j with
    | zero => intro _; exact ⟨_, rfl⟩
    | succ j ih =>
      intro hj
      obtain ⟨l, e⟩ := ih (by omega)
      rw [wmap_snoc ts j (by omega), e]
      by_cases h33 : (ts.getD j default).op = 33
      · simp only [wstep, if_pos h33]
        by_cases c : l.getD (ts.getD j default).imm.toNat 0 ≠ 0 ∧ l.getD (ts.getD j default).imm.toNat 0 ≠ (ts.getD j default).width
        · exfalso
          obtain ⟨_, i2⟩ := wmap_inv hI hS j l (by omega) e
          obtain ⟨i, hi, r1, r2, r3⟩ := i2 _ c.1
          have h1 := hc j (by omega) i hi
          have him := hI _ (mem_getD (show j < ts.length by omega))
          rw [(clash_iff _ _).2 ⟨r1, h33, by omega, by rw [r3]; exact c.2⟩] at h1
          cases h1
        · rw [if_neg c]; exact ⟨_, rfl⟩
      · rw [wstep_other h33]; exact ⟨_, rfl⟩
  obtain ⟨l, h⟩ := this ts.length (Nat.le_refl _)
  rw [List.take_length] at h
  rw [h]
  exact fun hh => by cases hh
theorem valE_3 {ts : List Nd} (h : ts.length < 1 ∨ 300 < ts.length) : valE ts = 3 := if_pos h
theorem valE_1 {ts : List Nd} (h : ¬ (ts.length < 1 ∨ 300 < ts.length)) (h1 : okS ts = false) : valE ts = 1 := by unfold valE; rw [if_neg h, if_pos h1]
theorem valE_6 {ts : List Nd} (h : ¬ (ts.length < 1 ∨ 300 < ts.length)) (h1 : okS ts = true) (h2 : okT ts = false) : valE ts = 6 := by
  unfold valE; rw [if_neg h, if_neg (by rw [h1]; decide), if_pos h2]
theorem valE_7 {ts : List Nd} (h : ¬ (ts.length < 1 ∨ 300 < ts.length)) (h1 : okS ts = true) (h2 : okT ts = true) (h3 : wmap ts = none) : valE ts = 7 := by
  unfold valE; rw [if_neg h, if_neg (by rw [h1]; decide), if_neg (by rw [h2]; decide), if_pos h3]
theorem valE_0 {ts : List Nd} (h : ¬ (ts.length < 1 ∨ 300 < ts.length)) (h1 : okS ts = true) (h2 : okT ts = true) (h3 : wmap ts ≠ none) : valE ts = 0 := by
  unfold valE; rw [if_neg h, if_neg (by rw [h1]; decide), if_neg (by rw [h2]; decide), if_neg h3]
/-- What a valid term is. -/
theorem valid_facts {ts : List Nd} (h : valE ts = 0) : 1 ≤ ts.length ∧ ts.length ≤ 300 ∧ okS ts = true ∧ okT ts = true ∧ ∃ l, wmap ts = some l := by
  unfold valE at h
  by_cases c : ts.length < 1 ∨ 300 < ts.length
  · rw [if_pos c] at h; omega
  · rw [if_neg c] at h
    by_cases c1 : okS ts = false
    · rw [if_pos c1] at h; omega
    · rw [if_neg c1] at h
      by_cases c2 : okT ts = false
      · rw [if_pos c2] at h; omega
      · rw [if_neg c2] at h
        cases c3 : wmap ts with
        | none => rw [if_pos c3] at h; omega
        | some l => exact ⟨by omega, by omega, by simpa using c1, by simpa using c2, l, rfl⟩

set_option maxRecDepth 100000 in
set_option maxHeartbeats 8000000 in
theorem pValidate (ts : List Nd) (tv : Value) (w : World) (hts : Nds w tv ts) (hi : ∀ x ∈ ts, 0 ≤ x.imm ∧ x.imm ≤ 4294967295) : Calls Try.prog 17 #[tv] w fun e w' => e = .returned (.int .i64 (valE ts)) ∧ Below w.heap.size w w' := by
  have HT := Lib.hid hts
  have HI := Lib.hid hi
  obtain ⟨ta, tc, rfl, ht1, ht2, _⟩ := hts
  clear hi
  by_cases g1 : ts.length < 1
  · have HV : Hid (valE ts = 3) := valE_3 (.inl g1)
    have q1 : decide ((ts.length : Int) < 1) = true := by simp; omega
    go_enter Try.func17, Try.ntmps17
    go_wp2_with fail
    go_ret
    exact ⟨ret_i HV.out.symm, Below.refl _ _⟩
  have q1 : decide ((ts.length : Int) < 1) = false := by simp; omega
  by_cases g2 : 300 < ts.length
  · have HV : Hid (valE ts = 3) := valE_3 (.inr g2)
    have q2 : decide (300 < (ts.length : Int)) = true := by simp; omega
    go_enter Try.func17, Try.ntmps17
    go_wp2_with fail
    go_ret
    exact ⟨ret_i HV.out.symm, Below.refl _ _⟩
  have q2 : decide (300 < (ts.length : Int)) = false := by simp; omega
  have G : Hid (¬ (ts.length < 1 ∨ 300 < ts.length)) := fun h => by omega
  go_enter Try.func17, Try.ntmps17
  go_wp2_with fail
  go_loopw [19] (fun i wr => ∃ j : Nat, j ≤ ts.length ∧ i = .int .i64 j ∧ Hid (∀ i, i < j → shaped i (ts.getD i default) = true) ∧ Below w.heap.size w wr) (fun i _ => ts.length - (intOf i).toNat)
  case atStart => exact ⟨0, Nat.zero_le _, rfl, (fun i hi => absurd hi (by omega)), Below.refl _ _⟩
  case round =>
    obtain ⟨j, hj, rfl, hno, hb⟩ := hrel
    by_cases hlt : j < ts.length
    · obtain ⟨b, q, c', e', _, _, hbq, c0, c1, c2, ⟨av, c3, hav⟩, c4⟩ := (HT.out.stays hb).at hlt
      cases e'
      have him := HI.out _ (mem_getD hlt)
      generalize hx : ts.getD j default = x at *
      have HX := Lib.hid hx
      clear hx
      obtain ⟨op, width, flags, args, imm⟩ := x
      simp only at him c0 c1 c2 c3 c4 hav
      have HAV := Lib.hid hav
      obtain ⟨aa, ac, rfl, _⟩ := hav
      obtain ⟨i1, i2⟩ := him
      have hbs := hb.size
      have HB := Lib.hid hb
      clear hb
      cases hs : shaped j ⟨op, width, flags, args, imm⟩
      · have HV : Hid (valE ts = 1) := valE_1 G.out (okS_bad hlt (by rw [HX.out]; exact hs))
        go_wp2_with fail
        refine (isShaped_any j ⟨op, width, flags, args, imm⟩ _ _ (HAV.out.stays ((Below.refl _ _).alloc (Nat.le_refl _) _)) i1 i2).mono ?_
        rintro e w' ⟨rfl, hb1⟩
        go_wp2_with fail
        go_ret
        exact ⟨ret_i HV.out.symm, below_next (HB.out.alloc hbs _) (by simp; omega) hb1⟩
      · have HS := Lib.hid hs
        go_wp2_with fail
        refine (isShaped_any j ⟨op, width, flags, args, imm⟩ _ _ (HAV.out.stays ((Below.refl _ _).alloc (Nat.le_refl _) _)) i1 i2).mono ?_
        rintro e w' ⟨rfl, hb1⟩
        go_wp2_with fail
        go_roundw
        case rel => exact ⟨j + 1, by omega, by go_num, (fun i hi => by
          by_cases e : i = j
          · rw [e, HX.out]; exact HS.out
          · exact hno.out i (by omega)), below_next (HB.out.alloc hbs _) (by simp; omega) hb1⟩
        case measure => simp [intOf]; omega
    · obtain rfl : j = ts.length := by omega
      have HS : Hid (okS ts = true) := okS_good hno.out
      obtain ⟨wo, rfl⟩ : ∃ wo : World, wo = wr := ⟨_, rfl⟩
      have HB := Lib.hid hb
      clear hb
      go_wp2_with fail
      go_loopw [31] (fun i wr => ∃ j : Nat, j ≤ ts.length ∧ i = .int .i64 j ∧ Hid (∀ i, i < j → typed ts (ts.getD i default) = true) ∧ Below w.heap.size w wr) (fun i _ => ts.length - (intOf i).toNat)
      case atStart => exact ⟨0, Nat.zero_le _, rfl, (fun i hi => absurd hi (by omega)), HB.out⟩
      case round =>
        obtain ⟨j, hj, rfl, hty, hb⟩ := hrel
        by_cases hlt : j < ts.length
        · have HTT := Lib.hid (HT.out.stays hb)
          obtain ⟨b, q, c', e', _, _, hbq, c0, c1, c2, ⟨av, c3, hav⟩, c4⟩ := HTT.out.at hlt
          cases e'
          have HF := Lib.hid (shaped_facts (hno.out j hlt))
          generalize hx : ts.getD j default = x at *
          have HX := Lib.hid hx
          clear hx
          obtain ⟨op, width, flags, args, imm⟩ := x
          simp only at c0 c1 c2 c3 c4 hav
          have HAV := Lib.hid hav
          obtain ⟨aa, ac, rfl, _⟩ := hav
          have hbs := hb.size
          have HBB := Lib.hid hb
          clear hb
          have HA : Hid (∀ a ∈ args, 0 ≤ a ∧ a < ts.length) := fun a ha => by have := HF.out.2.1 a ha; omega
          cases hs : typed ts ⟨op, width, flags, args, imm⟩
          · have HV : Hid (valE ts = 6) := valE_6 G.out HS.out (okT_bad hlt (by rw [HX.out]; exact hs))
            go_wp2_with fail
            refine (isTyped_any ts ⟨op, width, flags, args, imm⟩ _ _ _ (HTT.out.stays ((Below.refl _ _).alloc (Nat.le_refl _) _)) (HAV.out.stays ((Below.refl _ _).alloc (Nat.le_refl _) _)) HF.out.1 HA.out).mono ?_
            rintro e w' ⟨rfl, hb1⟩
            go_wp2_with fail
            go_ret
            exact ⟨ret_i HV.out.symm, below_next (HBB.out.alloc hbs _) (by simp; omega) hb1⟩
          · have HTS := Lib.hid hs
            go_wp2_with fail
            refine (isTyped_any ts ⟨op, width, flags, args, imm⟩ _ _ _ (HTT.out.stays ((Below.refl _ _).alloc (Nat.le_refl _) _)) (HAV.out.stays ((Below.refl _ _).alloc (Nat.le_refl _) _)) HF.out.1 HA.out).mono ?_
            rintro e w' ⟨rfl, hb1⟩
            go_wp2_with fail
            go_roundw
            case rel => exact ⟨j + 1, by omega, by go_num, (fun i hi => by
              by_cases e : i = j
              · rw [e, HX.out]; exact HTS.out
              · exact hty.out i (by omega)), below_next (HBB.out.alloc hbs _) (by simp; omega) hb1⟩
            case measure => simp [intOf]; omega
        · obtain rfl : j = ts.length := by omega
          have HTO : Hid (okT ts = true) := okT_good hty.out
          have HBB := Lib.hid hb
          clear hb
          go_wp2_with fail
          refine (widths_any ts _ _ (HT.out.stays HBB.out) (fun x hx => ⟨(HI.out x hx).1, fun h33 => by
            obtain ⟨i, hi, rfl⟩ := List.getElem_of_mem hx
            have := (shaped_facts (hno.out i hi)).2.2.2.2.2.1
            rw [List.getD_eq_getElem?_getD, List.getElem?_eq_getElem hi] at this
            exact this h33⟩)).mono ?_
          rintro e w' ⟨v, rfl, hl1, hl2, hb1⟩
          have HL := Lib.hid (And.intro hl1 hl2)
          clear hl1 hl2
          cases hm : wmap ts with
          | none =>
            have HV : Hid (valE ts = 7) := valE_7 G.out HS.out HTO.out hm
            go_wp2_with fail
            go_ret
            exact ⟨ret_i HV.out.symm, below_next HBB.out HBB.out.size hb1⟩
          | some l =>
            have HV : Hid (valE ts = 0) := valE_0 G.out HS.out HTO.out (by rw [hm]; exact fun h => by cases h)
            go_wp2_with fail
            go_ret
            exact ⟨ret_i HV.out.symm, below_next HBB.out HBB.out.size hb1⟩

end Go.Proofs.Ythopdfikikdcbaa
/- Walks of backstayref07.Checked, Validate. -/
namespace Go.Proofs.Ythopdfikikdcbaa
open Go.RowKit Wd
set_option linter.unusedVariables false
set_option linter.unusedSimpArgs false

set_option maxRecDepth 100000 in
set_option maxHeartbeats 8000000 in
theorem rChecked (ts : List Nd) (tv : Value) (w : World) (hts : Nds w tv ts) (hi : ∀ x ∈ ts, 0 ≤ x.imm ∧ x.imm ≤ 4294967295) : Calls Try.prog 48 #[tv, .bool true] w fun e w' => e = .returned (.int .i64 (valE ts)) ∧ Below w.heap.size w w' := by
  have HT := Lib.hid hts
  have HI := Lib.hid hi
  obtain ⟨ta, tc, rfl, ht1, ht2, _⟩ := hts
  clear hi
  by_cases g1 : ts.length < 1
  · have HV : Hid (valE ts = 3) := valE_3 (.inl g1)
    have q1 : decide ((ts.length : Int) < 1) = true := by simp; omega
    go_enter Try.func48, Try.ntmps48
    go_wp2_with fail
    go_ret
    exact ⟨ret_i HV.out.symm, Below.refl _ _⟩
  have q1 : decide ((ts.length : Int) < 1) = false := by simp; omega
  by_cases g2 : 300 < ts.length
  · have HV : Hid (valE ts = 3) := valE_3 (.inr g2)
    have q2 : decide (300 < (ts.length : Int)) = true := by simp; omega
    go_enter Try.func48, Try.ntmps48
    go_wp2_with fail
    go_ret
    exact ⟨ret_i HV.out.symm, Below.refl _ _⟩
  have q2 : decide (300 < (ts.length : Int)) = false := by simp; omega
  have G : Hid (¬ (ts.length < 1 ∨ 300 < ts.length)) := fun h => by omega
  go_enter Try.func48, Try.ntmps48
  go_wp2_with fail
  go_loopw [5] (fun i wr => ∃ j : Nat, j ≤ ts.length ∧ i = .int .i64 j ∧ Hid (∀ i, i < j → shaped i (ts.getD i default) = true) ∧ Below w.heap.size w wr) (fun i _ => ts.length - (intOf i).toNat)
  case atStart => exact ⟨0, Nat.zero_le _, rfl, (fun i hi => absurd hi (by omega)), Below.refl _ _⟩
  case round =>
    obtain ⟨j, hj, rfl, hno, hb⟩ := hrel
    by_cases hlt : j < ts.length
    · have HTT := Lib.hid (HT.out.stays hb)
      have him := Lib.hid (HI.out _ (mem_getD hlt))
      have hbs := hb.size
      have HB := Lib.hid hb
      clear hb
      cases hs : shaped j (ts.getD j default)
      · have HV : Hid (valE ts = 1) := valE_1 G.out (okS_bad hlt hs)
        have HS := Lib.hid hs
        clear hs
        go_wp2_with fail
        refine (rArg ts _ j _ HTT.out hlt him.out.1 him.out.2).mono ?_
        rintro e w' ⟨rfl, hb1⟩
        rw [HS.out]
        go_wp2_with fail
        go_ret
        exact ⟨ret_i HV.out.symm, below_next HB.out hbs hb1⟩
      · have HS := Lib.hid hs
        clear hs
        go_wp2_with fail
        refine (rArg ts _ j _ HTT.out hlt him.out.1 him.out.2).mono ?_
        rintro e w' ⟨rfl, hb1⟩
        rw [HS.out]
        go_wp2_with fail
        go_roundw
        case rel => exact ⟨j + 1, by omega, by go_num, (fun i hi => by
          by_cases e : i = j
          · rw [e]; exact HS.out
          · exact hno.out i (by omega)), below_next HB.out hbs hb1⟩
        case measure => simp [intOf]; omega
    · obtain rfl : j = ts.length := by omega
      have HS : Hid (okS ts = true) := okS_good hno.out
      obtain ⟨wo, rfl⟩ : ∃ wo : World, wo = wr := ⟨_, rfl⟩
      have HB := Lib.hid hb
      clear hb
      go_wp2_with fail
      go_loopw [6] (fun i wr => ∃ j : Nat, j ≤ ts.length ∧ i = .int .i64 j ∧ Hid (∀ i, i < j → typed ts (ts.getD i default) = true) ∧ Below w.heap.size w wr) (fun i _ => ts.length - (intOf i).toNat)
      case atStart => exact ⟨0, Nat.zero_le _, rfl, (fun i hi => absurd hi (by omega)), HB.out⟩
      case round =>
        obtain ⟨j, hj, rfl, hty, hb⟩ := hrel
        by_cases hlt : j < ts.length
        · have HTT := Lib.hid (HT.out.stays hb)
          obtain ⟨b, q, c', e', _, _, hbq, c0, c1, c2, ⟨av, c3, hav⟩, c4⟩ := HTT.out.at hlt
          cases e'
          have HF := Lib.hid (shaped_facts (hno.out j hlt))
          generalize hx : ts.getD j default = x at *
          have HX := Lib.hid hx
          clear hx
          obtain ⟨op, width, flags, args, imm⟩ := x
          simp only at c0 c1 c2 c3 c4 hav
          have HAV := Lib.hid hav
          obtain ⟨aa, ac, rfl, _⟩ := hav
          have hbs := hb.size
          have HBB := Lib.hid hb
          clear hb
          have HA : Hid (∀ a ∈ args, 0 ≤ a ∧ a < ts.length) := fun a ha => by have := HF.out.2.1 a ha; omega
          cases hs : typed ts ⟨op, width, flags, args, imm⟩
          · have HV : Hid (valE ts = 6) := valE_6 G.out HS.out (okT_bad hlt (by rw [HX.out]; exact hs))
            go_wp2_with fail
            refine (rTyped ts ⟨op, width, flags, args, imm⟩ _ _ _ HTT.out HAV.out HF.out.1 HA.out).mono ?_
            rintro e w' ⟨rfl, hb1⟩
            go_wp2_with fail
            go_ret
            exact ⟨ret_i HV.out.symm, below_next HBB.out hbs hb1⟩
          · have HTS := Lib.hid hs
            go_wp2_with fail
            refine (rTyped ts ⟨op, width, flags, args, imm⟩ _ _ _ HTT.out HAV.out HF.out.1 HA.out).mono ?_
            rintro e w' ⟨rfl, hb1⟩
            go_wp2_with fail
            go_roundw
            case rel => exact ⟨j + 1, by omega, by go_num, (fun i hi => by
              by_cases e : i = j
              · rw [e, HX.out]; exact HTS.out
              · exact hty.out i (by omega)), below_next HBB.out hbs hb1⟩
            case measure => simp [intOf]; omega
        · obtain rfl : j = ts.length := by omega
          have HTO : Hid (okT ts = true) := okT_good hty.out
          obtain ⟨wp, rfl⟩ : ∃ wp : World, wp = wr := ⟨_, rfl⟩
          have HBB := Lib.hid hb
          clear hb
          go_wp2_with fail
          go_loopw [7] (fun i wr => ∃ j : Nat, j ≤ ts.length ∧ i = .int .i64 j ∧ Hid (∀ k, k < j → ∀ i, i < k → clash (ts.getD i default) (ts.getD k default) = false) ∧ Below w.heap.size w wr) (fun i _ => ts.length - (intOf i).toNat)
          case atStart => exact ⟨0, Nat.zero_le _, rfl, (fun i hi => absurd hi (by omega)), HBB.out⟩
          case round =>
            obtain ⟨k, hk, rfl, hcalm, hb⟩ := hrel
            by_cases hlt : k < ts.length
            · obtain ⟨wq, rfl⟩ : ∃ wq : World, wq = wr := ⟨_, rfl⟩
              have HB3 := Lib.hid hb
              clear hb
              go_wp2_with fail
              go_loopw [8] (fun i wr => ∃ i' : Nat, i' ≤ k ∧ i = .int .i64 i' ∧ Hid (∀ i, i < i' → clash (ts.getD i default) (ts.getD k default) = false) ∧ Below w.heap.size w wr) (fun i _ => k - (intOf i).toNat)
              case atStart => exact ⟨0, Nat.zero_le _, rfl, (fun i hi => absurd hi (by omega)), HB3.out⟩
              case round =>
                obtain ⟨i, hik, rfl, hcalm2, hb⟩ := hrel
                by_cases hli : i < k
                · have hlti : i < ts.length := by omega
                  have HTT := HT.out.stays hb
                  obtain ⟨b, q, c', e', _, _, hbq, x0, x1, x2, ⟨xv, x3, _⟩, x4⟩ := HTT.at hlti
                  cases e'
                  obtain ⟨b2, q2, c2, e', _, _, _, y0, y1, y2, ⟨yv, y3, _⟩, y4⟩ := HTT.at hlt
                  cases e'
                  clear HTT HB3
                  have HB3 := Lib.hid hb
                  clear hb
                  generalize hxa : ts.getD i default = xa at *
                  have HXA := Lib.hid hxa
                  clear hxa
                  generalize hxb : ts.getD k default = xb at *
                  have HXB := Lib.hid hxb
                  clear hxb
                  obtain ⟨opa, widtha, flagsa, argsa, imma⟩ := xa
                  obtain ⟨opb, widthb, flagsb, argsb, immb⟩ := xb
                  simp only at x0 x1 x2 x3 x4 y0 y1 y2 y3 y4
                  cases c1 : (opa == 33)
                  · have hcl : clash ⟨opa, widtha, flagsa, argsa, imma⟩ ⟨opb, widthb, flagsb, argsb, immb⟩ = false := by simp only [clash, c1]; try rfl
                    have HC := Lib.hid hcl
                    clear hcl
                    go_wp2_with fail
                    go_quiet (fail)
                    go_wp2_with fail
                    go_roundw
                    case rel => exact ⟨i + 1, by omega, by go_num, (fun i' hi' => by
                      by_cases e : i' = i
                      · rw [e, HXA.out]; exact HC.out
                      · exact hcalm2.out i' (by omega)), below_drewN HB3.out _⟩
                    case measure => simp [intOf]; omega
                  · cases c2 : (opb == 33)
                    · have hcl : clash ⟨opa, widtha, flagsa, argsa, imma⟩ ⟨opb, widthb, flagsb, argsb, immb⟩ = false := by simp only [clash, c1, c2]; try rfl
                      have HC := Lib.hid hcl
                      clear hcl
                      go_wp2_with fail
                      go_quiet (fail)
                      go_wp2_with fail
                      go_roundw
                      case rel => exact ⟨i + 1, by omega, by go_num, (fun i' hi' => by
                        by_cases e : i' = i
                        · rw [e, HXA.out]; exact HC.out
                        · exact hcalm2.out i' (by omega)), below_drewN HB3.out _⟩
                      case measure => simp [intOf]; omega
                    · cases c3 : (imma == immb)
                      · have hcl : clash ⟨opa, widtha, flagsa, argsa, imma⟩ ⟨opb, widthb, flagsb, argsb, immb⟩ = false := by simp only [clash, c1, c2, c3]; try rfl
                        have HC := Lib.hid hcl
                        clear hcl
                        go_wp2_with fail
                        go_quiet (fail)
                        go_wp2_with fail
                        go_roundw
                        case rel => exact ⟨i + 1, by omega, by go_num, (fun i' hi' => by
                          by_cases e : i' = i
                          · rw [e, HXA.out]; exact HC.out
                          · exact hcalm2.out i' (by omega)), below_drewN HB3.out _⟩
                        case measure => simp [intOf]; omega
                      · cases c4 : (widtha != widthb)
                        · have hcl : clash ⟨opa, widtha, flagsa, argsa, imma⟩ ⟨opb, widthb, flagsb, argsb, immb⟩ = false := by simp only [clash, c1, c2, c3, c4]; try rfl
                          have HC := Lib.hid hcl
                          clear hcl
                          go_wp2_with fail
                          go_quiet (fail)
                          go_wp2_with fail
                          go_roundw
                          case rel => exact ⟨i + 1, by omega, by go_num, (fun i' hi' => by
                            by_cases e : i' = i
                            · rw [e, HXA.out]; exact HC.out
                            · exact hcalm2.out i' (by omega)), below_drewN HB3.out _⟩
                          case measure => simp [intOf]; omega
                        · have hcl : clash ⟨opa, widtha, flagsa, argsa, imma⟩ ⟨opb, widthb, flagsb, argsb, immb⟩ = true := by simp only [clash, c1, c2, c3, c4]; try rfl
                          have HC := Lib.hid hcl
                          clear hcl
                          have HV : Hid (valE ts = 7) := valE_7 G.out HS.out HTO.out (wmap_clash (fun x hx => (HI.out x hx).1) hno.out hlt hli (by rw [HXA.out, HXB.out]; exact HC.out))
                          go_wp2_with fail
                          go_quiet (fail)
                          go_wp2_with fail
                          go_ret
                          exact ⟨ret_i HV.out.symm, below_drewN HB3.out _⟩

                · obtain rfl : i = k := by omega
                  have HB4 := Lib.hid hb
                  clear hb
                  go_wp2_with fail
                  go_roundw
                  case rel => exact ⟨i + 1, by omega, by go_num, (fun k' hk' => by
                    by_cases e : k' = i
                    · rw [e]; exact hcalm2.out
                    · exact hcalm.out k' (by omega)), HB4.out⟩
                  case measure => simp [intOf]; omega
            · obtain rfl : k = ts.length := by omega
              have HV : Hid (valE ts = 0) := valE_0 G.out HS.out HTO.out (wmap_calm (fun x hx => (HI.out x hx).1) hno.out hcalm.out)
              have HB4 := Lib.hid hb
              clear hb
              go_wp2_with fail
              go_ret
              exact ⟨ret_i HV.out.symm, HB4.out⟩

set_option maxRecDepth 100000 in
theorem rValidate (ts : List Nd) (tv : Value) (w : World) (hts : Nds w tv ts) (hi : ∀ x ∈ ts, 0 ≤ x.imm ∧ x.imm ≤ 4294967295) : Calls Try.prog 18 #[tv] w fun e w' => e = .returned (.int .i64 (valE ts)) ∧ Below w.heap.size w w' := by
  have HT := Lib.hid hts
  have HI := Lib.hid hi
  obtain ⟨ta, tc, rfl, ht1, ht2, _⟩ := hts
  clear hi
  go_enter Try.func18, Try.ntmps18
  go_wp2_with fail
  refine (rChecked ts _ _ HT.out HI.out).mono ?_
  rintro e w' ⟨rfl, hb1⟩
  go_wp2_with fail
  go_ret
  exact ⟨rfl, hb1⟩

end Go.Proofs.Ythopdfikikdcbaa
/- Walks of Widths of both sides, of SameInts and Long. -/
namespace Go.Proofs.Ythopdfikikdcbaa
open Go.RowKit Wd
set_option linter.unusedVariables false
set_option linter.unusedSimpArgs false
/-- A node is far beyond the limits, or the list. -/
def longB (ts : List Nd) : Bool := decide (400 < ts.length) || ts.any fun x => decide (20 < x.args.length)
theorem longB_no {ts : List Nd} (h : longB ts = false) : ts.length ≤ 400 ∧ ∀ x ∈ ts, x.args.length ≤ 20 := by
  unfold longB at h
  simp only [Bool.or_eq_false_iff, decide_eq_false_iff_not, List.any_eq_false, decide_eq_true_eq] at h
  exact ⟨by omega, fun x hx => by have := h.2 x hx; omega⟩
/-- The widths of the variables of a valid term; none of another. -/
def widL (ts : List Nd) : List Int := if valE ts = 0 then (wmap ts).getD [] else []
theorem widL_ok {ts : List Nd} (h : valE ts = 0) : wmap ts = some (widL ts) ∧ (widL ts).length = 4 := by
  obtain ⟨_, _, _, _, l, hl⟩ := valid_facts h
  have : widL ts = l := by unfold widL; rw [if_pos h, hl]; rfl
  rw [this]
  exact ⟨hl, wmap_len hl⟩
theorem widL_no {ts : List Nd} (h : valE ts ≠ 0) : widL ts = [] := if_neg h
/-- The widths, the last one counts. -/
def rwl (ts : List Nd) : List Int := ts.foldl (fun l x => if x.op = 33 then l.set x.imm.toNat x.width else l) [0, 0, 0, 0]
theorem rwl_snoc (ts : List Nd) (j : Nat) (h : j < ts.length) : rwl (ts.take (j + 1)) = if (ts.getD j default).op = 33 then (rwl (ts.take j)).set (ts.getD j default).imm.toNat (ts.getD j default).width else rwl (ts.take j) := by
  unfold rwl; rw [take_snoc ts j h, List.foldl_append]; rfl
theorem rwl_len (ts : List Nd) : (rwl ts).length = 4 := by
  have : ∀ (ts : List Nd) (l : List Int), (ts.foldl (fun l x => if x.op = 33 then l.set x.imm.toNat x.width else l) l).length = l.length := by
    intro ts
    induction ts with
    | nil => intro l; rfl
    | cons x ts ih => intro l; rw [List.foldl_cons, ih]; split <;> simp
  exact this ts _
theorem rwl_wmap {ts : List Nd} {l : List Int} : wmap ts = some l → rwl ts = l := by
  have : ∀ (ts : List Nd) (l0 : List Int), ts.foldl wstep (some l0) = some l → ts.foldl (fun l x => if x.op = 33 then l.set x.imm.toNat x.width else l) l0 = l := by
    intro ts
    induction ts with
    | nil => intro l0 h; cases h; rfl
    | cons x ts ih =>
      intro l0 h
      rw [List.foldl_cons] at h ⊢
      cases e : wstep (some l0) x with
      | none => rw [e, wstep_none] at h; cases h
      | some l1 =>
        rw [e] at h
        have : (if x.op = 33 then l0.set x.imm.toNat x.width else l0) = l1 := by
          simp only [wstep] at e
          by_cases c : x.op = 33
          · rw [if_pos c] at e ⊢
            by_cases d : l0.getD x.imm.toNat 0 ≠ 0 ∧ l0.getD x.imm.toNat 0 ≠ x.width
            · rw [if_pos d] at e; cases e
            · rw [if_neg d] at e; cases e; rfl
          · rw [if_neg c] at e ⊢; cases e; rfl
        rw [this]
        exact ih l1 h
  intro h
  exact this ts _ h
theorem Ints.nil (k : IntKind) (w : World) : Ints k w (.slice none 0 0) [] := ⟨none, 0, rfl, Nat.le_refl _, ⟨by simp, by omega⟩, fun _ => rfl, fun i hi => absurd hi (by simp)⟩
theorem Ints.at {k : IntKind} {w : World} {v : Value} {xs : List Int} (h : Ints k w v xs) {j : Nat} (hj : j < xs.length) : ∃ b q c, v = .slice (some ⟨b, q, none⟩) xs.length c ∧ xs.length ≤ c ∧ b < w.heap.size ∧ w.cell? ⟨b, q + j, none⟩ = some (.int k (xs.getD j 0)) := by
  obtain ⟨a, c, rfl, h1, h2, _, h4⟩ := h
  obtain ⟨b, q, rfl, h5, h6⟩ := h4 j hj
  rw [Nat.mul_one] at h6
  exact ⟨b, q, c, rfl, h1, h5, h6⟩
theorem Ints.shape {k : IntKind} {w : World} {v : Value} {xs : List Int} (h : Ints k w v xs) : ∃ a c, v = .slice a xs.length c ∧ xs.length ≤ c ∧ xs.length ≤ 140737488351232 := by
  obtain ⟨a, c, rfl, h1, h2, _⟩ := h
  exact ⟨a, c, rfl, h1, h2.1⟩
theorem Nds.shape {w : World} {v : Value} {ts : List Nd} (h : Nds w v ts) : ∃ a c, v = .slice a ts.length c ∧ ts.length ≤ c ∧ ts.length ≤ 140737488351232 := by
  obtain ⟨a, c, rfl, h1, h2, _⟩ := h
  exact ⟨a, c, rfl, h1, h2.1⟩
theorem ext_getD {xs ys : List Int} (hl : xs.length = ys.length) (h : ∀ i, i < xs.length → xs.getD i 0 = ys.getD i 0) : xs = ys := by
  apply List.ext_getElem hl
  intro i h1 h2
  have := h i h1
  rw [List.getD_eq_getElem?_getD, List.getD_eq_getElem?_getD, List.getElem?_eq_getElem h1, List.getElem?_eq_getElem h2] at this
  exact this

set_option maxRecDepth 100000 in
set_option maxHeartbeats 4000000 in
theorem sameInts_any (xs ys : List Int) (v u : Value) (w : World) (hv : Ints .i64 w v xs) (hu : Ints .i64 w u ys) : Calls Try.prog 19 #[v, u] w fun e w' => e = .returned (.bool (decide (xs = ys))) ∧ Dr w w' := by
  have HX := Lib.hid hv
  have HY := Lib.hid hu
  obtain ⟨a, c, rfl, h1, h2⟩ := hv.shape
  obtain ⟨a2, c2, rfl, k1, k2⟩ := hu.shape
  clear hv hu
  cases hne : ((xs.length : Int) != ys.length)
  · have hl : xs.length = ys.length := by
      have h : (xs.length : Int) = ys.length := by simpa using hne
      omega
    have HL := Lib.hid hl
    clear hl
    go_enter Try.func19, Try.ntmps19
    go_wp2_with fail
    go_loopw [5] (fun i wr => ∃ j : Nat, j ≤ xs.length ∧ i = .int .i64 j ∧ Hid (∀ i, i < j → xs.getD i 0 = ys.getD i 0) ∧ Dr w wr) (fun i _ => xs.length - (intOf i).toNat)
    case atStart => exact ⟨0, Nat.zero_le _, rfl, (fun i hi => absurd hi (by omega)), Dr.refl _⟩
    case round =>
      obtain ⟨j, hj, rfl, hno, n, rfl⟩ := hrel
      by_cases hlt : j < xs.length
      · have hlt2 : j < ys.length := by have := HL.out; omega
        obtain ⟨b, q, c', e', _, _, d0⟩ := HX.out.at hlt
        cases e'
        obtain ⟨b2, q2, c2', e', _, _, d1⟩ := HY.out.at hlt2
        cases e'
        generalize hx : xs.getD j 0 = x at *
        generalize hy : ys.getD j 0 = y at *
        have HXJ := Lib.hid hx
        have HYJ := Lib.hid hy
        clear hx hy
        cases hc : (x != y)
        · have HC : Hid (x = y) := by have : x = y := by simpa using hc
                                      exact this
          go_wp2_with fail
          go_quiet (fail)
          go_wp2_with fail
          go_roundw
          case rel => exact ⟨j + 1, by omega, by go_num, (fun i hi => by
            by_cases e : i = j
            · rw [e, HXJ.out, HYJ.out]; exact HC.out
            · exact hno.out i (by omega)), _, rfl⟩
          case measure => simp [intOf]; omega
        · have HV : Hid (decide (xs = ys) = false) := by
            have hc' : x ≠ y := by simpa using hc
            show _ = _
            rw [decide_eq_false_iff_not]
            intro e
            exact hc' (by rw [← HXJ.out, ← HYJ.out, e])
          go_wp2_with fail
          go_quiet (fail)
          go_wp2_with fail
          go_ret
          exact ⟨ret_b HV.out.symm, _, by first | rfl | exact World.drewN_drewN _ _ _⟩
      · have HV : Hid (decide (xs = ys) = true) := by
          show _ = _
          rw [decide_eq_true_iff]
          exact ext_getD HL.out (fun i hi => hno.out i (by omega))
        go_wp2_with fail
        go_ret
        exact ⟨ret_b HV.out.symm, _, rfl⟩
  · have HV : Hid (decide (xs = ys) = false) := by
      have hl : xs.length ≠ ys.length := by intro e; rw [e] at hne; simp at hne
      show _ = _
      rw [decide_eq_false_iff_not]
      intro e
      exact hl (by rw [e])
    go_enter Try.func19, Try.ntmps19
    go_wp2_with fail
    go_ret
    exact ⟨ret_b HV.out.symm, Dr.refl _⟩

set_option maxRecDepth 100000 in
set_option maxHeartbeats 4000000 in
theorem long_any (ts : List Nd) (tv : Value) (w : World) (hts : Nds w tv ts) : Calls Try.prog 11 #[tv] w fun e w' => e = .returned (.bool (longB ts)) ∧ w = w' := by
  have HT := Lib.hid hts
  obtain ⟨ta, tc, rfl, h1, h2⟩ := hts.shape
  clear hts
  cases hl : decide (400 < (ts.length : Int))
  · have HL : Hid (¬ 400 < ts.length) := by have := of_decide_eq_false hl; show ¬ _; omega
    go_enter Try.func11, Try.ntmps11
    go_wp2_with fail
    go_loop [3] (fun i => ∃ j : Nat, j ≤ ts.length ∧ i = .int .i64 j ∧ Hid (∀ i, i < j → ¬ 20 < (ts.getD i default).args.length)) (fun i => ts.length - (intOf i).toNat)
    case atStart => exact ⟨0, Nat.zero_le _, rfl, (fun i hi => absurd hi (by omega))⟩
    case round =>
      obtain ⟨j, hj, rfl, hno⟩ := hrel
      by_cases hlt : j < ts.length
      · obtain ⟨b, q, c', e', _, _, hbq, c0, c1, c2, ⟨av, c3, hav⟩, c4⟩ := HT.out.at hlt
        cases e'
        have hm := mem_getD hlt
        generalize hx : ts.getD j default = x at *
        have HX := Lib.hid (And.intro hx hm)
        clear hx hm
        obtain ⟨op, width, flags, args, imm⟩ := x
        simp only at c0 c1 c2 c3 c4 hav
        obtain ⟨aa, ac, rfl, _⟩ := hav
        cases hc : decide (20 < (args.length : Int))
        · have HC : Hid (¬ 20 < args.length) := by have := of_decide_eq_false hc; show ¬ _; omega
          go_wp2_with fail
          go_round
          case rel => exact ⟨j + 1, by omega, by go_num, (fun i hi => by
            by_cases e : i = j
            · rw [e, HX.out.1]; exact HC.out
            · exact hno.out i (by omega))⟩
          case measure => simp [intOf]; omega
        · have HV : Hid (longB ts = true) := by
            have hc' := of_decide_eq_true hc
            show _ = _
            unfold longB
            rw [List.any_eq_true.2 ⟨_, HX.out.2, by simp; omega⟩, Bool.or_true]
          go_wp2_with fail
          go_ret
          exact ⟨ret_b HV.out.symm, rfl⟩
      · have HV : Hid (longB ts = false) := by
          show _ = _
          unfold longB
          rw [Bool.or_eq_false_iff]
          refine ⟨by simp; have := HL.out; omega, List.any_eq_false.2 fun x hx => ?_⟩
          obtain ⟨i, hi, rfl⟩ := List.getElem_of_mem hx
          have := hno.out i (by omega)
          rw [List.getD_eq_getElem?_getD, List.getElem?_eq_getElem hi] at this
          simpa using this
        go_wp2_with fail
        go_ret
        exact ⟨ret_b HV.out.symm, rfl⟩
  · have HV : Hid (longB ts = true) := by
      have hc' := of_decide_eq_true hl
      show _ = _
      unfold longB
      rw [show decide (400 < ts.length) = true by simp; omega, Bool.true_or]
    go_enter Try.func11, Try.ntmps11
    go_wp2_with fail
    go_ret
    exact ⟨ret_b HV.out.symm, rfl⟩

set_option maxRecDepth 100000 in
set_option maxHeartbeats 4000000 in
theorem rwidths_any (ts : List Nd) (tv : Value) (w : World) (hts : Nds w tv ts) (hi : ∀ x ∈ ts, 0 ≤ x.imm ∧ (x.op = 33 → x.imm < 4)) : Calls Try.prog 45 #[tv] w fun e w' => ∃ v, e = .returned v ∧ Ints .i64 w' v (rwl ts) ∧ Below w.heap.size w w' := by
  have HT := Lib.hid hts
  have HI := Lib.hid hi
  obtain ⟨ta, tc, rfl, ht1, ht2⟩ := hts.shape
  clear hi hts
  have hmk : ∀ w : World, (Instr.makeSlice 25 (.int .i64 4) (.int .i64 4)).run Try.prog w = .ok (.slice (some ⟨w.heap.size, 0, none⟩) 4 4) (w.alloc (.cells #[.int .i64 0, .int .i64 0, .int .i64 0, .int .i64 0] 3)) := fun _ => by kernel_rfl
  go_enter Try.func45, Try.ntmps45
  go_wp2_with fail
  go_loopw [4] (fun i wr => ∃ (j : Nat), j ≤ ts.length ∧ i = .int .i64 j ∧ OInts .i64 wr w.heap.size (rwl (ts.take j)) ∧ Below w.heap.size w wr) (fun i _ => ts.length - (intOf i).toNat)
  case atStart =>
    refine ⟨0, Nat.zero_le _, rfl, ⟨by simp, fun i hi => ?_⟩, (Below.refl _ _).alloc (Nat.le_refl _) _⟩
    rw [rwl_len] at hi
    have : i = 0 ∨ i = 1 ∨ i = 2 ∨ i = 3 := by omega
    rcases this with rfl | rfl | rfl | rfl <;> simp [go_sem, rwl]
  case round =>
    obtain ⟨j, hj, rfl, ho, hb⟩ := hrel
    have hBs := ho.1
    have HB := Lib.hid hb
    have h4 := rwl_len (ts.take j)
    by_cases hlt : j < ts.length
    · have hx := HI.out _ (mem_getD hlt)
      obtain ⟨b, q, c', e', _, _, hbq, c0, c1, c2, ⟨av, c3, hav⟩, c4⟩ := (HT.out.stays hb).at hlt
      cases e'
      have HS := Lib.hid (rwl_snoc ts j hlt)
      clear hb
      generalize ts.getD j default = x at *
      generalize rwl (ts.take j) = l at *
      have HO := Lib.hid ho
      obtain ⟨op, width, flags, args, imm⟩ := x
      simp only at hx c0 c1 c2 c3 c4 hav
      obtain ⟨aa, ac, rfl, _⟩ := hav
      obtain ⟨k, rfl⟩ := Int.eq_ofNat_of_zero_le hx.1
      cases h33 : (op == 33)
      · have HN : Hid (¬ op = 33) := by have : ¬ op = 33 := by simpa using h33
                                        exact this
        clear hx ho
        go_wp2_with fail
        go_roundw
        case rel => exact ⟨j + 1, by omega, by go_num, by rw [HS.out, if_neg HN.out]; exact HO.out, HB.out⟩
        case measure => simp [intOf]; omega
      · have e33 : op = 33 := by simpa using h33
        have hk := hx.2 e33
        subst e33
        have hk4 : k < l.length := by omega
        have d0 := ho.cell hk4
        have d1 := ho.free hk4
        clear hx ho
        generalize l.getD k 0 = y at d0
        go_wp2_with fail
        go_region
        all_goals go_wp2_with fail
        all_goals go_roundw
        case rel => exact ⟨j + 1, by omega, by go_num, by rw [HS.out]; simp only [if_true, Int.toNat_natCast]; exact HO.out.set hk4 width, (below_at HB.out (Nat.le_refl _) _ _).drew⟩
        case measure => simp [intOf]; omega
    · obtain rfl : j = ts.length := by omega
      rw [List.take_length] at ho h4
      have HO := Lib.hid ho
      clear ho hb
      have H4 := Lib.hid h4
      clear h4
      go_wp2_with fail
      go_ret
      refine ⟨_, rfl, ?_, HB.out⟩
      have := HO.out.ints (by rw [H4.out]; omega)
      rw [H4.out] at this
      exact this

set_option maxRecDepth 100000 in
set_option maxHeartbeats 4000000 in
theorem pWidths (ts : List Nd) (tv : Value) (w : World) (hts : Nds w tv ts) (hi : ∀ x ∈ ts, 0 ≤ x.imm ∧ x.imm ≤ 4294967295) : Calls Try.prog 13 #[tv] w fun e w' => ∃ v, e = .returned (.tuple #[v, .int .i64 (valE ts)]) ∧ Ints .i64 w' v (widL ts) ∧ Below w.heap.size w w' := by
  have HT := Lib.hid hts
  have HI := Lib.hid hi
  obtain ⟨ta, tc, rfl, ht1, ht2⟩ := hts.shape
  clear hi hts
  cases hz : (valE ts != 0)
  · have hz' : valE ts = 0 := by simpa using hz
    have HZ := Lib.hid hz'
    clear hz hz'
    go_enter Try.func13, Try.ntmps13
    go_wp2_with fail
    refine (pValidate ts _ _ HT.out HI.out).mono ?_
    rintro e w' ⟨rfl, hb1⟩
    rw [HZ.out]
    have HB1 := Lib.hid hb1
    clear hb1
    go_wp2_with fail
    refine (widths_any ts _ _ (HT.out.stays HB1.out) (fun x hx => ⟨(HI.out x hx).1, fun h33 => by
      obtain ⟨i, hi, rfl⟩ := List.getElem_of_mem hx
      have := (shaped_facts (okS_at (valid_facts HZ.out).2.2.1 hi)).2.2.2.2.2.1
      rw [List.getD_eq_getElem?_getD, List.getElem?_eq_getElem hi] at this
      exact this h33⟩)).mono ?_
    rintro e w' ⟨v, rfl, hl1, hl2, hb2⟩
    have HL := Lib.hid hl1
    clear hl1 hl2
    go_wp2_with fail
    go_ret2
    refine ⟨_, by rw [HZ.out]; rfl, ?_, below_next HB1.out HB1.out.size hb2⟩
    exact HL.out _ (widL_ok HZ.out).1
  · have HZ : Hid (valE ts ≠ 0) := by have : ¬ valE ts = 0 := by simpa using hz
                                      exact this
    go_enter Try.func13, Try.ntmps13
    go_wp2_with fail
    refine (pValidate ts _ _ HT.out HI.out).mono ?_
    rintro e w' ⟨rfl, hb1⟩
    go_wp2_with fail
    go_ret2
    exact ⟨_, rfl, by rw [widL_no HZ.out]; exact Ints.nil _ _, hb1⟩

set_option maxRecDepth 100000 in
set_option maxHeartbeats 4000000 in
theorem rWidths (ts : List Nd) (tv : Value) (w : World) (hts : Nds w tv ts) (hi : ∀ x ∈ ts, 0 ≤ x.imm ∧ x.imm ≤ 4294967295) : Calls Try.prog 14 #[tv] w fun e w' => ∃ v, e = .returned (.tuple #[v, .int .i64 (valE ts)]) ∧ Ints .i64 w' v (widL ts) ∧ Below w.heap.size w w' := by
  have HT := Lib.hid hts
  have HI := Lib.hid hi
  obtain ⟨ta, tc, rfl, ht1, ht2⟩ := hts.shape
  clear hi hts
  cases hz : (valE ts != 0)
  · have hz' : valE ts = 0 := by simpa using hz
    have HZ := Lib.hid hz'
    clear hz hz'
    go_enter Try.func14, Try.ntmps14
    go_wp2_with fail
    refine (rValidate ts _ _ HT.out HI.out).mono ?_
    rintro e w' ⟨rfl, hb1⟩
    rw [HZ.out]
    have HB1 := Lib.hid hb1
    clear hb1
    go_wp2_with fail
    refine (rwidths_any ts _ _ (HT.out.stays HB1.out) (fun x hx => ⟨(HI.out x hx).1, fun h33 => by
      obtain ⟨i, hi, rfl⟩ := List.getElem_of_mem hx
      have := (shaped_facts (okS_at (valid_facts HZ.out).2.2.1 hi)).2.2.2.2.2.1
      rw [List.getD_eq_getElem?_getD, List.getElem?_eq_getElem hi] at this
      exact this h33⟩)).mono ?_
    rintro e w' ⟨v, rfl, hl1, hb2⟩
    have HL := Lib.hid hl1
    clear hl1
    go_wp2_with fail
    go_ret2
    refine ⟨_, by rw [HZ.out]; rfl, ?_, below_next HB1.out HB1.out.size hb2⟩
    rw [← rwl_wmap (widL_ok HZ.out).1]; exact HL.out
  · have HZ : Hid (valE ts ≠ 0) := by have : ¬ valE ts = 0 := by simpa using hz
                                      exact this
    go_enter Try.func14, Try.ntmps14
    go_wp2_with fail
    refine (rValidate ts _ _ HT.out HI.out).mono ?_
    rintro e w' ⟨rfl, hb1⟩
    go_wp2_with fail
    go_ret2
    exact ⟨_, rfl, by rw [widL_no HZ.out]; exact Ints.nil _ _, hb1⟩

end Go.Proofs.Ythopdfikikdcbaa
/- Walks of Depth of both sides. -/
namespace Go.Proofs.Ythopdfikikdcbaa
open Go.RowKit Wd
set_option linter.unusedVariables false
set_option linter.unusedSimpArgs false
/-- The greatest depth among some Args. -/
def dmax (acc : List Int) (args : List Int) : Int := args.foldl (fun m a => max m (acc.getD a.toNat 0)) 0
def deep (ts : List Nd) : List Int := ts.foldl (fun acc x => acc ++ [dmax acc x.args + 1]) []
def depV (ts : List Nd) : Int := if valE ts = 0 then (deep ts).getD (ts.length - 1) 0 else 0
theorem deep_snoc (ts : List Nd) (j : Nat) (h : j < ts.length) : deep (ts.take (j + 1)) = deep (ts.take j) ++ [dmax (deep (ts.take j)) (ts.getD j default).args + 1] := by
  unfold deep; rw [take_snoc ts j h, List.foldl_append]; rfl
theorem deep_len (ts : List Nd) : (deep ts).length = ts.length := by
  have : ∀ (ts : List Nd) (acc : List Int), (ts.foldl (fun acc x => acc ++ [dmax acc x.args + 1]) acc).length = acc.length + ts.length := by
    intro ts
    induction ts with
    | nil => intro acc; rfl
    | cons x ts ih => intro acc; rw [List.foldl_cons, ih]; simp; omega
  have := this ts []
  rw [List.length_nil, Nat.zero_add] at this
  exact this
theorem dmax_snoc (acc args : List Int) (i : Nat) (h : i < args.length) : dmax acc (args.take (i + 1)) = max (dmax acc (args.take i)) (acc.getD (args.getD i 0).toNat 0) := by
  unfold dmax; rw [take_snoc0 args i h, List.foldl_append]; rfl
theorem dmax_bd {acc : List Int} {b : Int} (h : ∀ a, 0 ≤ acc.getD a 0 ∧ acc.getD a 0 ≤ b) (hb : 0 ≤ b) (args : List Int) : 0 ≤ dmax acc args ∧ dmax acc args ≤ b := by
  have : ∀ (args : List Int) (m : Int), 0 ≤ m → m ≤ b → 0 ≤ args.foldl (fun m a => max m (acc.getD a.toNat 0)) m ∧ args.foldl (fun m a => max m (acc.getD a.toNat 0)) m ≤ b := by
    intro args
    induction args with
    | nil => intro m h1 h2; exact ⟨h1, h2⟩
    | cons a args ih => intro m h1 h2; rw [List.foldl_cons]; have := h a.toNat; exact ih _ (by omega) (by omega)
  exact this args 0 (Int.le_refl _) hb
theorem getD_append_lt {xs ys : List Int} {i : Nat} (h : i < xs.length) : (xs ++ ys).getD i 0 = xs.getD i 0 := by
  rw [List.getD_eq_getElem?_getD, List.getD_eq_getElem?_getD, List.getElem?_append_left h]
theorem getD_none {xs : List Int} {i : Nat} (h : xs.length ≤ i) : xs.getD i 0 = 0 := by
  rw [List.getD_eq_getElem?_getD, List.getElem?_eq_none h]; rfl
theorem deep_bd (ts : List Nd) : ∀ j, j ≤ ts.length → ∀ a, 0 ≤ (deep (ts.take j)).getD a 0 ∧ (deep (ts.take j)).getD a 0 ≤ j
  | 0, _, a => by
    have e : (deep (ts.take 0)).getD a 0 = 0 := by rw [List.take_zero]; exact getD_none (by simp [deep])
    rw [e]; omega
  | j + 1, h, a => by
    have ih := deep_bd ts j (by omega)
    have hl : (deep (ts.take j)).length = j := by rw [deep_len, List.length_take]; omega
    rw [deep_snoc ts j (by omega)]
    have hm := dmax_bd ih (by omega) (ts.getD j default).args
    rcases Nat.lt_trichotomy a j with h1 | h1 | h1
    · rw [getD_append_lt (by omega)]; have := ih a; omega
    · subst h1
      rw [List.getD_eq_getElem?_getD, List.getElem?_append_right (by omega), hl, Nat.sub_self]
      show 0 ≤ dmax _ _ + 1 ∧ dmax _ _ + 1 ≤ _
      omega
    · rw [getD_none (by simp; omega)]; omega
/-- The depths of the first nodes, and zeros. -/
def dL (ts : List Nd) (j : Nat) : List Int := deep (ts.take j) ++ List.replicate (ts.length - j) 0
theorem deep_take_len {ts : List Nd} {j : Nat} (h : j ≤ ts.length) : (deep (ts.take j)).length = j := by rw [deep_len, List.length_take]; omega
theorem dL_len {ts : List Nd} {j : Nat} (h : j ≤ ts.length) : (dL ts j).length = ts.length := by
  unfold dL; rw [List.length_append, deep_take_len h, List.length_replicate]; omega
theorem dL_get {ts : List Nd} {j a : Nat} (h : j ≤ ts.length) (ha : a < j) : (dL ts j).getD a 0 = (deep (ts.take j)).getD a 0 := by
  unfold dL; rw [getD_append_lt (by rw [deep_take_len h]; exact ha)]
theorem dL_at {ts : List Nd} {j : Nat} (h : j < ts.length) : (dL ts j).getD j 0 = 0 := by
  unfold dL
  rw [List.getD_eq_getElem?_getD, List.getElem?_append_right (by rw [deep_take_len (by omega)]; omega), deep_take_len (by omega), Nat.sub_self, List.getElem?_replicate]
  split <;> rfl
theorem dL_set {ts : List Nd} {j : Nat} (h : j < ts.length) : (dL ts j).set j (dmax (deep (ts.take j)) (ts.getD j default).args + 1) = dL ts (j + 1) := by
  unfold dL
  rw [deep_snoc ts j h, List.set_append_right _ _ (by rw [deep_take_len (by omega)]; omega), deep_take_len (by omega), Nat.sub_self]
  have e : ts.length - j = (ts.length - (j + 1)) + 1 := by omega
  rw [e, List.replicate_succ, List.set_cons_zero, List.append_assoc]
  rfl
theorem set_at {l : List Int} {k : Nat} {x : Int} (h : l.getD k 0 = x) (hk : k < l.length) : l.set k x = l := by
  apply List.ext_getElem (by simp)
  intro i h1 h2
  rw [List.getElem_set]
  split
  · rename_i e
    subst e
    rw [← h, List.getD_eq_getElem?_getD, List.getElem?_eq_getElem hk]; rfl
  · rfl
theorem OInts.made {w : World} {base g n : Nat} {e : TypeId} {k : IntKind} (h : w.ownsRow base e 1 (.slice (some ⟨g, 0, none⟩) n n) n (madeCells #[Value.int k 0] n).toList) : OInts k w g (List.replicate n 0) := by
  refine ⟨(h.lt g rfl).2, fun i hi => ?_⟩
  rw [List.length_replicate] at hi
  refine ⟨?_, h.frozenAt i⟩
  rw [h.cellAt i (by omega)]
  rw [toList_madeCells_one, List.getElem?_replicate, if_pos hi, List.getD_eq_getElem?_getD, List.getElem?_replicate, if_pos hi]; rfl
/-- A node, read at a later world; its Args are told of the first one. -/
theorem Nds.at2 {w wr : World} {v : Value} {ts : List Nd} (h : Nds w v ts) (hb : Below w.heap.size w wr) {k : Nat} (hk : k < ts.length) : ∃ b q c av, v = .slice (some ⟨b, q, none⟩) ts.length c ∧ ts.length ≤ c ∧ b < w.heap.size ∧ Ints .i64 w av (ts.getD k default).args ∧
    wr.cell? ⟨b, q + k * 5, none⟩ = some (.int .i64 (ts.getD k default).op) ∧ wr.cell? ⟨b, q + k * 5 + 1, none⟩ = some (.int .i64 (ts.getD k default).width) ∧ wr.cell? ⟨b, q + k * 5 + 2, none⟩ = some (.int .i64 (ts.getD k default).flags) ∧
    wr.cell? ⟨b, q + k * 5 + 3, none⟩ = some av ∧ wr.cell? ⟨b, q + k * 5 + 4, none⟩ = some (.int .u32 (ts.getD k default).imm) := by
  obtain ⟨b, q, c, e, l1, l2, hbw, x0, x1, x2, ⟨av, x3, hV⟩, x4⟩ := h.at hk
  exact ⟨b, q, c, av, e, l1, hbw, hV, below_cell hb hbw x0, below_cell hb hbw x1, below_cell hb hbw x2, below_cell hb hbw x3, below_cell hb hbw x4⟩
theorem max_if (p z : Int) : (if p < z then z else p) = max p z := by rw [Int.max_def]; split <;> split <;> omega
theorem below_made {w w' : World} (h : w.grownBy w' none) : Below w.heap.size w w' := (Below.refl _ _).grown h (Nat.le_refl _) (fun k hk => by cases hk)

set_option maxRecDepth 100000 in
set_option maxHeartbeats 8000000 in
theorem pDepth (ts : List Nd) (tv : Value) (w : World) (hts : Nds w tv ts) (hi : ∀ x ∈ ts, 0 ≤ x.imm ∧ x.imm ≤ 4294967295) : Calls Try.prog 15 #[tv] w fun e w' => e = .returned (.tuple #[.int .i64 (depV ts), .int .i64 (valE ts)]) ∧ Below w.heap.size w w' := by
  have HT := Lib.hid hts
  have HI := Lib.hid hi
  obtain ⟨ta, tc, rfl, ht1, ht2⟩ := hts.shape
  clear hi hts
  obtain ⟨i0, hi0, hz0, hz1, hz2⟩ := info_parts info_int
  cases hz : (valE ts != 0)
  rotate_left
  · have HZ : Hid (valE ts ≠ 0) := by
      have h : ¬ valE ts = 0 := by simpa using hz
      exact h
    have HV : Hid (depV ts = 0) := if_neg HZ.out
    go_enter Try.func15, Try.ntmps15
    go_wp2_with fail
    refine (pValidate ts _ _ HT.out HI.out).mono ?_
    rintro e w' ⟨rfl, hb1⟩
    go_wp2_with fail
    go_ret2
    exact ⟨by rw [HV.out]; rfl, hb1⟩
  have hz' : valE ts = 0 := by simpa using hz
  have HZ := Lib.hid hz'
  clear hz hz'
  have HF := Lib.hid (valid_facts HZ.out)
  have hlen : 1 ≤ ts.length ∧ ts.length ≤ 300 := ⟨HF.out.1, HF.out.2.1⟩
  obtain ⟨hl1, hl2⟩ := hlen
  have HV : Hid (depV ts = (deep ts).getD (ts.length - 1) 0) := if_pos HZ.out
  go_enter Try.func15, Try.ntmps15
  go_wp2_with fail
  refine (pValidate ts _ _ HT.out HI.out).mono ?_
  rintro e w1 ⟨rfl, hb1⟩
  rw [HZ.out]
  have hb1s := hb1.size
  have HB1 := Lib.hid hb1
  clear hb1
  go_wp2_with (at_make; refine wpList_make_full _ rfl _ _ 25 rfl (w1.heap.size) 3 i0 (.int .i64 0) 1 Try.underlying25 hi0 hz0 hz1 .i64 .i64 _ _ ts.length rfl rfl rfl rfl ?d1 ?d2 ?d3 ?_)
  case d1 => rw [hz2]; omega
  case d2 => unfold maxLen; omega
  case d3 => exact Nat.le_refl _
  intro w2 hown hgr
  have hO : OInts .i64 w2 w1.heap.size (dL ts 0) := (OInts.made hown : OInts .i64 w2 w1.heap.size (List.replicate ts.length 0))
  have hb2 := below_next HB1.out HB1.out.size (below_made hgr)
  have hbn : w.heap.size ≤ w1.heap.size := hb1s
  have HB2 := Lib.hid (And.intro hO hb2)
  clear hown hgr hO hb2
  go_wp2_with fail
  go_loopw [20] (fun i wr => ∃ j : Nat, j ≤ ts.length ∧ i = .int .i64 j ∧ OInts .i64 wr w1.heap.size (dL ts j) ∧ Below w.heap.size w wr) (fun i _ => ts.length - (intOf i).toNat)
  case atStart => exact ⟨0, Nat.zero_le _, rfl, HB2.out.1, HB2.out.2⟩
  case round =>
    obtain ⟨j, hj, rfl, ho, hb⟩ := hrel
    have hBs := ho.1
    have HO := Lib.hid ho
    have HB := Lib.hid hb
    have hbs := hb.size
    by_cases hlt : j < ts.length
    · obtain ⟨b, q, c', av, e', _, hbq, hav, c0, c1, c2, c3, c4⟩ := HT.out.at2 hb hlt
      cases e'
      have HSF := Lib.hid (shaped_facts (okS_at HF.out.2.2.1 hlt))
      have HDS := Lib.hid (@dL_set ts j hlt)
      have HDB := Lib.hid (deep_bd ts j hj)
      have HDG := Lib.hid (fun a => @dL_get ts j a hj)
      have h0 := dL_at hlt
      have HDL := Lib.hid (@dL_len ts j hj)
      have HD0 := Lib.hid (set_at h0 (by rw [HDL.out]; exact hlt))
      clear hb ho h0
      have HDM := Lib.hid (dmax_snoc (deep (ts.take j)))
      generalize dL ts j = L at *
      generalize deep (ts.take j) = acc at *
      generalize ts.getD j default = x at *
      obtain ⟨op, width, flags, args, imm⟩ := x
      simp only at c0 c1 c2 c3 c4 hav HSF HDS
      have HAV := Lib.hid hav
      have hal : args.length ≤ 3 := by have := HSF.out.1; rcases arV_cases op with h | h | h | h | h <;> omega
      obtain ⟨aa, ac, rfl, _⟩ := hav.shape
      clear hav
      obtain ⟨wo, rfl⟩ : ∃ wo : World, wo = wr := ⟨_, rfl⟩
      go_wp2_with fail
      go_loopw [28] (fun i wr => ∃ k : Nat, k ≤ args.length ∧ i = .int .i64 k ∧ OInts .i64 wr w1.heap.size (L.set j (dmax acc (args.take k))) ∧ Below w.heap.size w wr) (fun i _ => args.length - (intOf i).toNat)
      case atStart => exact ⟨0, Nat.zero_le _, rfl, by rw [show dmax acc (args.take 0) = 0 from rfl, HD0.out]; exact HO.out.alloc _, HB.out.alloc (by omega) _⟩
      case round =>
        obtain ⟨k, hk, rfl, ho, hb⟩ := hrel
        have hbs2 := ho.1
        by_cases hlk : k < args.length
        · obtain ⟨b2, q2, c2', e', _, hb2, d0⟩ := (HAV.out.stays hb).at hlk
          cases e'
          have hr := HSF.out.2.1 (args.getD k 0) (by rw [List.getD_eq_getElem?_getD, List.getElem?_eq_getElem hlk]; exact List.getElem_mem hlk)
          have HM := Lib.hid (HDM.out args k hlk)
          generalize args.getD k 0 = y at *
          obtain ⟨m, rfl⟩ := Int.eq_ofNat_of_zero_le hr.1
          have hmj : m < j := by omega
          have hll : (L.set j (dmax acc (args.take k))).length = ts.length := by rw [List.length_set, HDL.out]
          have e1 := ho.cell (i := j) (by rw [hll]; exact hlt)
          have e2 := ho.cell (i := m) (by rw [hll]; omega)
          have f1 := ho.free (i := j) (by rw [hll]; exact hlt)
          rw [getD_set_self (by rw [HDL.out]; exact hlt)] at e1
          rw [getD_set_ne (by omega), HDG.out m hmj] at e2
          have bd := HDB.out m
          have bm := dmax_bd HDB.out (by omega) (args.take k)
          rw [Int.toNat_natCast] at HM
          have HO1 := Lib.hid ho
          have HLL := Lib.hid hll
          have HBB := Lib.hid hb
          clear ho hb hr hll
          generalize dmax acc (args.take k) = p at *
          generalize acc.getD m 0 = z at *
          have hmj2 : m < ts.length := by omega
          go_wp2_with fail
          go_region
          all_goals go_wp2_with fail
          all_goals go_roundw
          case rel => exact ⟨k + 1, by omega, by go_num, by
            rw [HM.out, ← max_if]
            have h := HO1.out.set (i := j) (by rw [HLL.out]; exact hlt) (if p < z then z else p)
            rw [List.set_set] at h
            exact h, (below_at HBB.out hbn _ _).drew⟩
          case measure => simp [intOf]; omega
        · obtain rfl : k = args.length := by omega
          have hll : (L.set j (dmax acc (args.take args.length))).length = ts.length := by rw [List.length_set, HDL.out]
          rw [List.take_length] at ho hll
          have e1 := ho.cell (i := j) (by rw [hll]; exact hlt)
          have f1 := ho.free (i := j) (by rw [hll]; exact hlt)
          rw [getD_set_self (by rw [HDL.out]; exact hlt)] at e1
          have bm := dmax_bd HDB.out (by omega) args
          have HO1 := Lib.hid ho
          have HLL := Lib.hid hll
          have HBB := Lib.hid hb
          clear ho hll hb
          generalize dmax acc args = p at *
          go_wp2_with fail
          go_roundw
          case rel => exact ⟨j + 1, by omega, by go_num, by
            rw [← HDS.out]
            have h := HO1.out.set (i := j) (by rw [HLL.out]; exact hlt) (p + 1)
            rw [List.set_set] at h
            exact h, below_at HBB.out hbn _ _⟩
          case measure => simp [intOf]; omega
    · obtain rfl : j = ts.length := by omega
      have hll := dL_len (Nat.le_refl ts.length)
      have hlast : ts.length - 1 < ts.length := by omega
      have e1 := ho.cell (i := ts.length - 1) (by rw [hll]; exact hlast)
      have hdl : dL ts ts.length = deep ts := by unfold dL; rw [List.take_length, Nat.sub_self]; simp
      rw [hdl, ← HV.out] at e1
      have hix : ((ts.length : Int) - 1).toNat = ts.length - 1 := by omega
      obtain ⟨n, hn⟩ : ∃ n, ts.length = n + 1 := ⟨ts.length - 1, by omega⟩
      have HN := Lib.hid hn
      clear hll hdl ho hb hn hix
      go_wp2_with fail
      go_ret2
      exact ⟨by rw [HZ.out]; rfl, HB.out⟩

end Go.Proofs.Ythopdfikikdcbaa
/- Walk of the builder's from, with any step. -/
namespace Go.Proofs.Ythopdfikikdcbaa
open Go.RowKit Go.Maps Wd
set_option linter.unusedVariables false
set_option linter.unusedSimpArgs false
/-- The node as a value, its Args in the slice av. -/
def ndA (x : Nd) (av : Value) : Value := .agg #[.int .i64 x.op, .int .i64 x.width, .int .i64 x.flags, av, .int .u32 x.imm]
section
variable {σ : Type}
/-- What a function that does the step promises. -/
def MadeOk (step : σ → Nd → σ × Int) (I : σ → (Nat → Prop) → World → Prop) (J : σ → List Int → Prop) (ts : List Nd) (w0 : World) (mf : FuncId) (fs cs : Array Value) : Prop :=
  ∀ (s : σ) (nos : List Int) (k : Nat) (T : Nat → Prop) (w : World) (av : Value), J s nos → k < ts.length → gno nos k < 0 → (∀ a ∈ (nd ts k).args, 0 ≤ gno nos a.toNat) → I s T w →
    IntsF w av (gnd ts k nos).args → (∀ b, av.ownBlock = some b → ¬ T b ∧ b < w.heap.size ∧ w0.heap.size ≤ b) → (∀ b, T b → w0.heap.size ≤ b) → Below w0.heap.size w0 w →
    Calls Try.prog mf (fs.push (ndA (gnd ts k nos) av) ++ cs) w fun e w' => e = .returned (.int .i64 (step s (gnd ts k nos)).2) ∧
      ∃ T', I (step s (gnd ts k nos)).1 T' w' ∧ (∀ b, T' b → T b ∨ w.heap.size ≤ b ∨ av.ownBlock = some b) ∧ Chg T w w'
/-- What is kept about the state. -/
structure IOk (I : σ → (Nat → Prop) → World → Prop) : Prop where
  same : ∀ {s : σ} {T : Nat → Prop} {w w' : World}, I s T w → Same T w w' → I s T w'
  lt : ∀ {s : σ} {T : Nat → Prop} {w : World}, I s T w → ∀ b, T b → b < w.heap.size
theorem IOk.chg {I : σ → (Nat → Prop) → World → Prop} (h : IOk I) {s : σ} {T U : Nat → Prop} {w w' : World} (hi : I s T w) (hc : Chg U w w') (hT : ∀ k, T k → ¬ U k) : I s T w' :=
  h.same hi (hc.same fun k hk => ⟨h.lt hi k hk, hT k hk⟩)
/-- The state behind a walk. -/
def FrP (I : σ → (Nat → Prop) → World → Prop) (sm : Nat) (T : Nat → Prop) (w : World) (c : σ × List Int) (w' : World) : Prop :=
  ∃ T', I c.1 T' w' ∧ SeenIs w' sm c.2 ∧ (∀ b, T' b → T b ∨ w.heap.size ≤ b) ∧ Chg (fun b => T b ∨ b = sm) w w'
/-- Within the loop over the Args: W1 is the world at its beginning. -/
def FrL (I : σ → (Nat → Prop) → World → Prop) (sm : Nat) (T : Nat → Prop) (W1 : World) (c : σ × List Int) (v : Value) (wr : World) : Prop :=
  ∃ T', I c.1 T' wr ∧ SeenIs wr sm c.2 ∧ (∀ b, T' b → T b ∨ W1.heap.size ≤ b) ∧ (∀ b, v.ownBlock = some b → ¬ T' b) ∧ Chg (fun b => T b ∨ b = sm) W1 wr
variable {step : σ → Nd → σ × Int} {I : σ → (Nat → Prop) → World → Prop} {J : σ → List Int → Prop}
theorem FrL.next (hI : IOk I) {sm : Nat} {T T' : Nat → Prop} {W1 wr w1 w2 : World} {X : Obj} {c c2 : σ × List Int} {v v' : Value} (h1 : I c.1 T' wr) (h3 : ∀ b, T' b → T b ∨ W1.heap.size ≤ b) (h4 : ∀ b, v.ownBlock = some b → ¬ T' b)
    (h5 : Chg (fun b => T b ∨ b = sm) W1 wr) (hp : FrP I sm T' wr c2 w1) (hg : (w1.alloc X).grownBy w2 v.ownBlock) (hv : v'.ownBlock = v.ownBlock ∨ v'.ownBlock = some (w1.alloc X).heap.size) (hb : ∀ b, v.ownBlock = some b → W1.heap.size ≤ b ∧ b < wr.heap.size) (hsm : sm < W1.heap.size) :
    FrL I sm T W1 c2 v' w2 := by
  obtain ⟨T2, i2, s2, t2, ch2⟩ := hp
  have hc12 : Chg (fun b => v.ownBlock = some b) w1 w2 := (Chg.of_below ((Below.refl _ _).alloc (Nat.le_refl _) X)).trans (Chg.of_grown hg (fun k hk => hk)) (fun _ _ h => h)
  have hno : ∀ b, v.ownBlock = some b → ¬ T2 b := fun b hv hT => by
    rcases t2 b hT with h | h
    · exact h4 b hv h
    · have := (hb b hv).2; omega
  refine ⟨T2, hI.chg i2 hc12 (fun k hk hv => hno k hv hk), s2.chg hc12 (fun hv => by have := (hb _ hv).1; omega), ?_, ?_, ?_⟩
  · intro b hT
    rcases t2 b hT with h | h
    · exact h3 b h
    · have := h5.size; exact .inr (by omega)
  · intro b hv' hT
    rcases hv with hv | hv
    · exact hno b (by rw [← hv]; exact hv') hT
    · rw [hv] at hv'
      cases hv'
      have := hI.lt i2 _ hT
      simp at this
      omega
  · refine (h5.trans ch2 ?_).trans hc12 ?_
    · rintro k hk (h | h)
      · rcases h3 k h with h | h
        · exact .inl h
        · omega
      · exact .inr h
    · intro k hk h
      have := (hb k h).1
      omega
theorem FrL.done (hI : IOk I) {sm : Nat} {T T' : Nat → Prop} {w W1 wr W2 w3 : World} {v : Value} {s3 : σ} {nos3 : List Int} {o : Nat} {es : Array MapEntry} {cl : Nat}
    (h3 : ∀ b, T' b → T b ∨ W1.heap.size ≤ b) (h5 : Chg (fun b => T b ∨ b = sm) W1 wr) (hst : ¬ T' sm) (hT : ∀ b, T b → b < w.heap.size) (hsm : sm < w.heap.size) (hw1 : Chg T w W1) (hw : w.heap.size < W1.heap.size) (hW2 : W2 = wr.setCell ⟨w.heap.size, o, none⟩ v)
    (hb : ∀ b, v.ownBlock = some b → W1.heap.size ≤ b)
    (hm : ∃ T3, I s3 T3 w3 ∧ (∀ b, T3 b → T' b ∨ W2.heap.size ≤ b ∨ v.ownBlock = some b) ∧ Chg T' W2 w3) (hs : SeenIs (setMap w3 sm es cl) sm nos3) : FrP I sm T w (s3, nos3) (setMap w3 sm es cl) := by
  obtain ⟨T3, i3, t3, ch3⟩ := hm
  have hz : W2.heap.size = wr.heap.size := by rw [hW2]; simp [World.setCell]
  have h5s := h5.size
  have hno : ¬ T3 sm := fun h => by
    rcases t3 sm h with h | h | h
    · exact hst h
    · omega
    · have := hb _ h; omega
  refine ⟨T3, hI.chg i3 ((Chg.refl (fun b => b = sm) w3).setMap rfl es cl) (fun k hk e => hno (e ▸ hk)), hs, ?_, ?_⟩
  · intro b h
    rcases t3 b h with h | h | h
    · rcases h3 b h with h | h
      · exact .inl h
      · exact .inr (by omega)
    · exact .inr (by omega)
    · exact .inr (by have := hb _ h; omega)
  · have c1 : Chg (fun b => T b ∨ b = sm) w wr := (hw1.mono (fun k _ h => .inl h)).trans h5 (fun k _ h => h)
    have c2 : Chg (fun b => T b ∨ b = sm) w W2 := by
      rw [hW2]
      exact c1.trans ((Chg.refl (fun b => b = w.heap.size) wr).setCell rfl v) (fun k hk e => by omega)
    refine (c2.trans ch3 ?_).setMap (.inr rfl) es cl
    intro k hk h
    rcases h3 k h with h | h
    · exact .inl h
    · omega
set_option maxRecDepth 100000 in
set_option maxHeartbeats 1000000 in
theorem from_any (ts : List Nd) (tv bv : Value) (w0 : World) (mf : FuncId) (fs cs : Array Value) (hcf : ∀ (args : Array Value) (w : World), (callFunc mf args).run Try.prog w = .ok (.enter mf args) w) (hd : Down ts) (hJ : GJ step ts J) (hI : IOk I) (hts : Nds w0 tv ts) (hn : ∀ k, k < ts.length → (nd ts k).args.length ≤ 1000) (hm : MadeOk step I J ts w0 mf fs cs) :
    ∀ (f k : Nat) (s : σ) (nos : List Int) (T : Nat → Prop) (w : World) (sm : Nat), k < f → k < ts.length → J s nos → I s T w → SeenIs w sm nos → ¬ T sm → w0.heap.size ≤ sm → (∀ b, T b → w0.heap.size ≤ b) → Below w0.heap.size w0 w →
    Calls Try.prog 66 #[bv, tv, .int .i64 (k : Int), .map (some sm), .func (.func mf) fs cs] w fun e w' => e = .returned (.int .i64 (gno (gvis step ts f k (s, nos)).2 k)) ∧ FrP I sm T w (gvis step ts f k (s, nos)) w' := by
  intro f
  induction f with
  | zero => intro k _ _ _ _ _ h; exact absurd h (by omega)
  | succ f ih =>
    intro k s nos T w sm hf hk hj hi hs hsT hsB hTB hb
    have HIH := Lib.hid ih
    have HD := Lib.hid hd
    have HJ := Lib.hid hJ
    have HI := Lib.hid hI
    have HT := Lib.hid hts
    have HM := Lib.hid hm
    have HN := Lib.hid (hn k hk)
    have HJ0 := Lib.hid hj
    have HI0 := Lib.hid hi
    have HS := Lib.hid hs
    have HST := Lib.hid hsT
    have HSB := Lib.hid hsB
    have HTB := Lib.hid hTB
    have HB := Lib.hid hb
    have hlen : nos.length = ts.length := hJ.len hj
    have hkn : k < nos.length := by omega
    obtain ⟨ta, tc, rfl, ht1, ht2⟩ := hts.shape
    by_cases h0 : 0 ≤ gno nos k
    · have hlook := hs.hit hkn h0
      have e : gvis step ts (f + 1) k (s, nos) = (s, nos) := by unfold gvis; rw [if_pos h0]
      rw [e]
      clear ih hd hJ hI hts hm hn hj hi hs hsT hsB hTB hb e h0 hlen
      go_enter Try.func66, Try.ntmps66
      go_wp2_with fail
      go_outline
      go_ret
      exact ⟨rfl, T, HI0.out, HS.out, fun b h => .inl h, Chg.refl _ _⟩
    · have hlook := hs.miss hkn (by omega)
      have hmis : gno nos k < 0 := by omega
      have HMIS := Lib.hid hmis
      have e : gvis step ts (f + 1) k (s, nos) = gput step ts k (gargs (gvis step ts f) (nd ts k).args (s, nos)) := by conv => lhs; unfold gvis; rw [if_neg h0]
      have HE := Lib.hid e
      have hda := hd k hk
      have HGA := Lib.hid (fun l hl => gvis_args (f := f) hd hJ (by omega) hk (c := (s, nos)) hj l hl)
      obtain ⟨b, q, c', av, e', hc', hbq, hav, c0, c1, c2, c3, c4⟩ := hts.at2 hb hk
      cases e'
      have hHI := hI.lt hi
      have hsl := hs.lt
      have hbw := hb.size
      clear ih hd hJ hI hts hm hn hj hi hs hsB hb e h0 hlen
      have HX : Hid (nd ts k = ts.getD k default) := rfl
      have HDA := Lib.hid hda
      have HLT := Lib.hid hHI
      clear hda hHI hmis hsT hTB
      generalize ts.getD k default = x at *
      obtain ⟨op, width, flags, args, imm⟩ := x
      simp only at hav c0 c1 c2 c3 c4
      have hn20 : args.length ≤ 1000 := by have := HN.out; rw [HX.out] at this; exact this
      have HAV := Lib.hid hav
      obtain ⟨aa, ac, rfl, ha1, ha2⟩ := hav.shape
      clear hav
      obtain ⟨i0, hi0, hz0, hz1, hz2⟩ := info_parts info_int
      go_enter Try.func66, Try.ntmps66
      go_wp2_with fail
      go_loopw [14, 33] (fun v0 i wr => ∃ (j : Nat) (v : Value), v = v0 ∧ j ≤ args.length ∧ i = .int .i64 j ∧ RowI wr (w.heap.size + 1) 3 .i64 v (gargs (gvis step ts f) (args.take j) (s, nos)).2 ∧ FrL I sm T (w.alloc (.cells #[.int .i64 op, .int .i64 width, .int .i64 flags, .slice aa args.length ac, .int .u32 imm] 47)) (gargs (gvis step ts f) (args.take j) (s, nos)).1 v wr) (fun _ i _ => args.length - (intOf i).toNat)
      case atStart => 
        refine ⟨0, _, rfl, Nat.zero_le _, rfl, RowI.nil _ _ _ _, T, ?_, ?_, fun b h => .inl h, (fun b h => by cases h), Chg.refl _ _⟩
        · exact HI.out.chg HI0.out (Chg.of_below ((Below.refl _ _).alloc (Nat.le_refl _) _) (T := fun _ => False)) (fun _ _ h => h)
        · exact HS.out.chg (Chg.of_below ((Below.refl _ _).alloc (Nat.le_refl _) _) (T := fun _ => False)) (fun h => h)
      case round =>
        obtain ⟨j, v, rfl, hj, rfl, hrow, T', h1, h2, h3, h4, h5⟩ := hrel
        have hlr := gargs_len (gvis step ts f) (args.take j) (s, nos)
        rw [List.length_take, Nat.min_eq_left hj] at hlr
        have H1 := Lib.hid h1
        have H2 := Lib.hid h2
        have H3 := Lib.hid h3
        have H4 := Lib.hid h4
        have H5 := Lib.hid h5
        have HROW := Lib.hid hrow
        have h5s := h5.size
        simp only [World.size_alloc] at h5s
        have HLR := Lib.hid hlr
        have HBR : Hid (Below w0.heap.size w0 wr) := HB.out.trans ((((Below.refl _ _).alloc (Nat.le_refl _) _).mono (by omega)).trans (h5.below (by simp; omega) (fun k hk => by rcases hk with hk | hk; exact HTB.out k hk; have := HSB.out; omega)))
        have HJA := Lib.hid (HGA.out (args.take j) (fun a ha => by have := HDA.out a (by rw [HX.out]; exact List.mem_of_mem_take ha); exact this))
        have hsB := HSB.out
        have HST' : Hid (¬ T' sm) := fun h => by
          rcases h3 sm h with h | h
          · exact HST.out h
          · simp at h; omega
        have HTB' : Hid (∀ b, T' b → w0.heap.size ≤ b) := fun b h => by
          rcases h3 b h with h | h
          · exact HTB.out b h
          · simp at h; omega
        clear hsB
        clear h1 h2 h3 h4 h5 hrow hlr
        by_cases hlt : j < args.length
        · have hG := gargs_take (gvis step ts f) args (s, nos) j hlt
          obtain ⟨ab, ao, rfl, hab, hcs⟩ := HAV.out.row (by omega)
          have d0 := below_cell HBR.out hab (hcs j hlt)
          have hak := HDA.out (args.getD j 0) (by rw [HX.out]; exact mem_getD hlt)
          clear hcs
          generalize args.getD j 0 = y at *
          obtain ⟨m, rfl⟩ := Int.eq_ofNat_of_zero_le hak.1
          rw [Int.toNat_natCast] at hG
          generalize gargs (gvis step ts f) (args.take j) (s, nos) = r at *
          obtain ⟨⟨s', nos'⟩, l'⟩ := r
          simp only at hG
          have HG := Lib.hid hG
          clear hG
          go_wp2_with fail
          refine (HIH.out m s' nos' T' _ sm (by omega) (by omega) HJA.out.1.j H1.out H2.out HST'.out HSB.out HTB'.out HBR.out).mono ?_
          rintro e w1 ⟨rfl, hp⟩
          have HR1 : Hid (w1.ownsRow (w.heap.size + 1) 3 1 v l'.length (l'.map (Value.int .i64))) := by
            obtain ⟨T2, _, _, _, ch⟩ := hp
            refine own_same (T := fun b => v.ownBlock = some b) HROW.out (ch.same fun k hk => ⟨own_lt HROW.out k hk, fun h => ?_⟩) (fun b h => h)
            rcases h with h | h
            · exact H4.out k hk h
            · have := own_ge HROW.out k hk; omega
          have hw1 : wr.heap.size ≤ w1.heap.size := by obtain ⟨T2, _, _, _, ch⟩ := hp; exact ch.size
          have HP := Lib.hid hp
          have hll : l'.length = j := HLR.out
          clear hp
          generalize gvis step ts f m (s', nos') = c2 at *
          generalize gno c2.2 m = gy at *
          go_wp2_with (at_builtin; refine wpList_append_own_at _ rfl _ _ 25 rfl (w.heap.size + 1) 3 i0 (.int .i64 0) 1 8 Try.underlying25 hi0 hz0 hz1 hz2 rfl (by decide) _ _ _ rfl (HR1.out.alloc _) ⟨w1.heap.size, 0, none⟩ 1 1 [.int .i64 gy] rfl rfl ?c1 ?c2 ?c3 ?c4 ?c5 ?_)
          case c1 =>
            intro i u h
            rcases i with _ | i
            · cases h; simp [go_sem, Addr.add]
            · cases h
          case c2 => simp [Value.oneCell']
          case c3 => unfold maxLen; omega
          case c4 => omega
          case c5 => simp; omega
          intro v' w2 hown' hgrow _ hat
          have HO := Lib.hid hown'
          have HGR := Lib.hid hgrow
          have HAT := Lib.hid hat
          clear hown' hgrow hat hll
          go_wp2_with fail
          go_roundw
          case rel =>
            refine ⟨j + 1, v', rfl, by omega, by go_num, RowI.app1 HO.out HLR.out (by rw [HG.out]), ?_⟩
            rw [HG.out]
            exact FrL.next (c := ((s', nos') : σ × List Int)) HI.out H1.out H3.out H4.out H5.out HP.out HGR.out (by simpa using HAT.out) (fun b hb => ⟨by have := own_ge HROW.out b hb; simp; omega, own_lt HROW.out b hb⟩) (by simp; omega)
          case measure => simp [intOf]; omega
        · obtain rfl : j = args.length := by omega
          obtain ⟨va, vc, hv⟩ := HROW.out.shape
          rw [HLR.out] at hv
          subst hv
          have hnT : ¬ (T w.heap.size ∨ w.heap.size = sm) := fun h => by
            rcases h with h | h
            · exact absurd (HLT.out _ h) (by omega)
            · omega
          have y0 := H5.out.cell (b := w.heap.size) (o := 0) hnT (v := .int .i64 op) (by simp [go_sem])
          have y1 := H5.out.cell (b := w.heap.size) (o := 1) hnT (v := .int .i64 width) (by simp [go_sem])
          have y2 := H5.out.cell (b := w.heap.size) (o := 2) hnT (v := .int .i64 flags) (by simp [go_sem])
          have y3 := H5.out.cell (b := w.heap.size) (o := 3) hnT (v := .slice aa args.length ac) (by simp [go_sem])
          have y4 := H5.out.cell (b := w.heap.size) (o := 4) hnT (v := .int .u32 imm) (by simp [go_sem])
          have z3 : wr.frozen? ⟨w.heap.size, 3, none⟩ = false := by rw [H5.out.frozen hnT (by simp)]; simp [go_sem]
          clear hnT
          have HE2 : Hid (gvis step ts (f + 1) k (s, nos) = gput step ts k (gargs (gvis step ts f) args (s, nos))) := by
            have e2 := HE.out
            rw [HX.out] at e2
            exact e2
          rw [List.take_length] at H1 H2 HLR HJA HROW
          generalize gargs (gvis step ts f) args (s, nos) = r at *
          obtain ⟨⟨s', nos'⟩, l'⟩ := r
          have HEG : Hid (gnd ts k nos' = ⟨op, width, flags, l', imm⟩) := by
            show _ = _
            have e3 := HJA.out.2.1
            simp only at e3
            rw [e3]
            unfold gnd gn
            rw [HX.out]
          have HU : Hid (gno nos' k < 0) := by
            have h8 := HJA.out.1.up k (Nat.le_refl _)
            have h9 : gno nos k < 0 := HMIS.out
            show gno nos' k < 0
            rw [h8]; exact h9
          have HTA : Hid (∀ a ∈ (nd ts k).args, 0 ≤ gno nos' a.toNat) := by
            show ∀ a ∈ (nd ts k).args, 0 ≤ gno nos' a.toNat
            rw [HX.out]; exact HJA.out.2.2
          have hbT : ¬ T' w.heap.size := fun h => by
            rcases H3.out _ h with h | h
            · exact absurd (HLT.out _ h) (by omega)
            · simp at h; omega
          have HST2 : Hid (Chg (fun b => b = w.heap.size) wr (wr.setCell ⟨w.heap.size, 3, none⟩ (.slice va args.length vc))) := (Chg.refl (fun b => b = w.heap.size) wr).setCell (b := w.heap.size) rfl _
          have HI2 : Hid (I s' T' (wr.setCell ⟨w.heap.size, 3, none⟩ (.slice va args.length vc))) := HI.out.chg H1.out HST2.out (fun j hj e => hbT (e ▸ hj))
          have HOW : Hid (∀ b, (Value.slice va args.length vc).ownBlock = some b → w.heap.size + 1 ≤ b ∧ b < wr.heap.size) := fun b hb => ⟨own_ge HROW.out b hb, own_lt HROW.out b hb⟩
          have HIN : Hid (IntsF (wr.setCell ⟨w.heap.size, 3, none⟩ (.slice va args.length vc)) (.slice va args.length vc) (gnd ts k nos').args) := by
            have h9 : RowI (wr.setCell ⟨w.heap.size, 3, none⟩ (.slice va args.length vc)) (w.heap.size + 1) 3 .i64 (.slice va args.length vc) l' :=
              own_same (T := fun b => (Value.slice va args.length vc).ownBlock = some b) HROW.out (HST2.out.same fun j hj => ⟨(HOW.out j hj).2, by have := (HOW.out j hj).1; omega⟩) (fun b h => h)
            have h8 : l'.length = args.length := HLR.out
            have h7 := h9.intsF (by omega)
            rw [HEG.out]; exact h7
          have HSE : Hid (SeenIs (wr.setCell ⟨w.heap.size, 3, none⟩ (.slice va args.length vc)) sm nos') := by
            have h8 : SeenIs wr sm nos' := H2.out
            exact h8.chg HST2.out (by omega)
          have HJS := Lib.hid (HJ.out.step HJA.out.1.j hk HU.out HTA.out)
          have hkn' : k < nos'.length := by rw [HJ.out.len HJA.out.1.j]; exact hk
          have HB2 : Hid (Below w0.heap.size w0 (wr.setCell ⟨w.heap.size, 3, none⟩ (.slice va args.length vc))) := below_at HBR.out (by omega) _ _
          have HCM := Lib.hid (HM.out s' nos' k T' (wr.setCell ⟨w.heap.size, 3, none⟩ (.slice va args.length vc)) (.slice va args.length vc) HJA.out.1.j hk HU.out HTA.out HI2.out HIN.out (fun b hb => ⟨H4.out b hb, by simp [World.setCell]; exact (HOW.out b hb).2, by have := (HOW.out b hb).1; omega⟩) HTB'.out HB2.out)
          clear hbT
          rw [HEG.out] at HCM
          go_wp2_with fail
          refine HCM.out.mono ?_
          rintro e w3 ⟨rfl, hpost⟩
          rw [← HEG.out] at hpost
          have HP := Lib.hid hpost
          have hsn : SeenIs w3 sm nos' := by
            obtain ⟨T3, _, _, ch⟩ := hpost
            exact HSE.out.chg ch HST'.out
          clear hpost
          rw [← HEG.out]
          obtain ⟨es, cl, hrun, hsn2⟩ := hsn.put hkn' HU.out HJS.out.2
          have HSN := Lib.hid hsn2
          clear hsn hsn2
          generalize hn : (step s' (gnd ts k nos')).2 = n at *
          have HNN := Lib.hid hn
          clear hn
          go_wp2_with fail
          go_ret
          have hfin : gvis step ts (f + 1) k (s, nos) = ((step s' (gnd ts k nos')).1, nos'.set k n) := by
            rw [HE2.out]
            unfold gput
            simp only
            have : gn ts k l' = gnd ts k nos' := by
              rw [HEG.out]; unfold gn; rw [HX.out]
            rw [this, HNN.out]
          rw [hfin]
          refine ⟨congrArg (fun z => Ending.returned (.int .i64 z)) (gno_set_self hkn').symm, ?_⟩
          exact FrL.done (W1 := w.alloc (.cells #[.int .i64 op, .int .i64 width, .int .i64 flags, .slice aa args.length ac, .int .u32 imm] 47)) (o := 3) HI.out H3.out H5.out HST'.out HLT.out hsl (Chg.of_below ((Below.refl _ _).alloc (Nat.le_refl _) _)) (by simp) rfl (fun b hb => by have := (HOW.out b hb).1; simp; omega) HP.out HSN.out
end
end Go.Proofs.Ythopdfikikdcbaa
