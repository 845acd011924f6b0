/- Walks of package backstayref07: nodes compared, lists of nodes compared. -/
import Derived.Test.YthopdfikikdcbaaShr
import Derived.Test.YthopdfikikdcbaaTm
namespace Go.Proofs.Ythopdfikikdcbaa
open Go.RowKit Go.Maps Wd
set_option linter.unusedVariables false
set_option linter.unusedSimpArgs false
theorem nd_eq {x y : Nd} (h1 : x.op = y.op) (h2 : x.width = y.width) (h3 : x.flags = y.flags) (h4 : x.imm = y.imm) (h5 : x.args = y.args) : x = y := by
  obtain ⟨a, b, c, d, e⟩ := x; obtain ⟨a', b', c', d', e'⟩ := y
  simp only at h1 h2 h3 h4 h5
  subst h1 h2 h3 h4 h5; rfl
set_option maxRecDepth 100000 in
set_option maxHeartbeats 1000000 in
theorem rSameNode (x y : Nd) (xv yv : Value) (w : World) (hx : Ints .i64 w xv x.args) (hy : Ints .i64 w yv y.args) :
    Calls Try.prog 55 #[ndA x xv, ndA y yv] w fun e w' => e = .returned (.bool (decide (x = y))) ∧ Below w.heap.size w w' := by
  obtain ⟨a, b, c, d, i⟩ := x
  obtain ⟨a', b', c', d', i'⟩ := y
  simp only [ndA] at hx hy ⊢
  have HX := Lib.hid hx
  have HY := Lib.hid hy
  have hs := fun W (hb : Below w.heap.size w W) => sameInts_any d d' xv yv W (hx.stays hb) (hy.stays hb)
  have HS := Lib.hid hs
  clear hs hx hy
  have HB : Hid (Below w.heap.size w ((w.alloc (.cells #[.int .i64 a, .int .i64 b, .int .i64 c, xv, .int .u32 i] 47)).alloc (.cells #[.int .i64 a', .int .i64 b', .int .i64 c', yv, .int .u32 i'] 47))) := ((Below.refl _ _).alloc (Nat.le_refl _) _).alloc (by simp) _
  cases h1 : (a == a')
  · have HE : Hid (decide ((⟨a, b, c, d, i⟩ : Nd) = ⟨a', b', c', d', i'⟩) = false) := by
      show _ = _
      rw [decide_eq_false_iff_not]; intro e; cases e; simp at h1
    go_enter Try.func55, Try.ntmps55
    go_wp2_with fail
    go_ret
    exact ⟨ret_b HE.out.symm, HB.out⟩
  cases h2 : (b == b')
  · have HE : Hid (decide ((⟨a, b, c, d, i⟩ : Nd) = ⟨a', b', c', d', i'⟩) = false) := by
      show _ = _
      rw [decide_eq_false_iff_not]; intro e; cases e; simp at h2
    go_enter Try.func55, Try.ntmps55
    go_wp2_with fail
    go_ret
    exact ⟨ret_b HE.out.symm, HB.out⟩
  cases h3 : (c == c')
  · have HE : Hid (decide ((⟨a, b, c, d, i⟩ : Nd) = ⟨a', b', c', d', i'⟩) = false) := by
      show _ = _
      rw [decide_eq_false_iff_not]; intro e; cases e; simp at h3
    go_enter Try.func55, Try.ntmps55
    go_wp2_with fail
    go_ret
    exact ⟨ret_b HE.out.symm, HB.out⟩
  cases h4 : (i == i')
  · have HE : Hid (decide ((⟨a, b, c, d, i⟩ : Nd) = ⟨a', b', c', d', i'⟩) = false) := by
      show _ = _
      rw [decide_eq_false_iff_not]; intro e; cases e; simp at h4
    go_enter Try.func55, Try.ntmps55
    go_wp2_with fail
    go_ret
    exact ⟨ret_b HE.out.symm, HB.out⟩
  have HE : Hid (decide ((⟨a, b, c, d, i⟩ : Nd) = ⟨a', b', c', d', i'⟩) = decide (d = d')) := by
    show _ = _
    simp at h1 h2 h3 h4
    subst h1 h2 h3 h4
    rw [Bool.eq_iff_iff, decide_eq_true_iff, decide_eq_true_iff]
    exact ⟨fun e => by cases e; rfl, fun e => by rw [e]⟩
  have HS2 := Lib.hid (HS.out _ HB.out)
  generalize decide (d = d') = z at *
  go_enter Try.func55, Try.ntmps55
  go_wp2_with fail
  refine HS2.out.mono ?_
  rintro e w' ⟨rfl, hd⟩
  have HD := Lib.hid hd
  clear hd
  cases z
  all_goals
    go_wp2_with fail
    go_ret
    exact ⟨ret_b HE.out.symm, HB.out.trans (HD.out.below _)⟩

set_option maxRecDepth 100000 in
set_option maxHeartbeats 1000000 in
theorem rSameNodes (ts us : List Nd) (tv uv : Value) (w : World) (ht : Nds w tv ts) (hu : Nds w uv us) :
    Calls Try.prog 30 #[tv, uv] w fun e w' => e = .returned (.bool (decide (ts = us))) ∧ Below w.heap.size w w' := by
  have HT := Lib.hid ht
  have HU := Lib.hid hu
  obtain ⟨ta, tc, rfl, ht1, ht2⟩ := ht.shape
  obtain ⟨ua, uc, rfl, hu1, hu2⟩ := hu.shape
  clear ht hu
  cases hl : ((ts.length : Int) != us.length)
  · have hll : ts.length = us.length := by have h9 : (ts.length : Int) = us.length := by simpa using hl
                                           omega
    have HLL := Lib.hid hll
    clear hll
    go_enter Try.func30, Try.ntmps30
    go_wp2_with fail
    go_loopw [5] (fun i wr => ∃ j : Nat, j ≤ ts.length ∧ i = .int .i64 j ∧ Hid (∀ k, k < j → ts.getD k default = us.getD k default) ∧ Below w.heap.size w wr) (fun i _ => ts.length - (intOf i).toNat)
    case atStart => exact ⟨0, Nat.zero_le _, rfl, fun k hk => absurd hk (by omega), Below.refl _ _⟩
    case round =>
      obtain ⟨j, hj, rfl, heq, hb⟩ := hrel
      have HB := Lib.hid hb
      clear hb
      by_cases hlt : j < ts.length
      · have hltu : j < us.length := by have := HLL.out; omega
        obtain ⟨b, q, c', av, e', _, hbq, hav, c0, c1, c2, c3, c4⟩ := HT.out.at2 (Below.refl _ _) hlt
        cases e'
        obtain ⟨b', q', c'', av', e', _, hbq', hav', d0, d1, d2, d3, d4⟩ := HU.out.at2 (Below.refl _ _) hltu
        cases e'
        have HAV := Lib.hid hav
        have HAV' := Lib.hid hav'
        have hs0 : (0 : Int) ≤ (j : Int) := by omega
        have hs1 : (j : Int) < ts.length := by omega
        have hs2 : (j : Int) < us.length := by omega
        have HX : Hid (∀ (P : Nd → Prop), P (ts.getD j default) → P (ts.getD j default)) := fun _ h => h
        generalize hx : ts.getD j default = x at *
        generalize hy : us.getD j default = y at *
        have HXX := Lib.hid hx
        have HYY := Lib.hid hy
        clear hx hy HX hav hav'
        obtain ⟨op, width, flags, args, imm⟩ := x
        obtain ⟨op', width', flags', args', imm'⟩ := y
        simp only at c0 c1 c2 c3 c4 d0 d1 d2 d3 d4
        have hbw := HB.out.size
        have h00 := Since.refl wr
        have r0 : ∀ wk, Since wr wk → wk.cell? ⟨b, q + j * 5, none⟩ = some (.int .i64 op) := fun wk h => h.cell (below_cell HB.out hbq c0)
        have r1 : ∀ wk, Since wr wk → wk.cell? ⟨b, q + j * 5 + 1, none⟩ = some (.int .i64 width) := fun wk h => h.cell (below_cell HB.out hbq c1)
        have r2 : ∀ wk, Since wr wk → wk.cell? ⟨b, q + j * 5 + 2, none⟩ = some (.int .i64 flags) := fun wk h => h.cell (below_cell HB.out hbq c2)
        have r3 : ∀ wk, Since wr wk → wk.cell? ⟨b, q + j * 5 + 3, none⟩ = some av := fun wk h => h.cell (below_cell HB.out hbq c3)
        have r4 : ∀ wk, Since wr wk → wk.cell? ⟨b, q + j * 5 + 4, none⟩ = some (.int .u32 imm) := fun wk h => h.cell (below_cell HB.out hbq c4)
        have s0 : ∀ wk, Since wr wk → wk.cell? ⟨b', q' + j * 5, none⟩ = some (.int .i64 op') := fun wk h => h.cell (below_cell HB.out hbq' d0)
        have s1 : ∀ wk, Since wr wk → wk.cell? ⟨b', q' + j * 5 + 1, none⟩ = some (.int .i64 width') := fun wk h => h.cell (below_cell HB.out hbq' d1)
        have s2 : ∀ wk, Since wr wk → wk.cell? ⟨b', q' + j * 5 + 2, none⟩ = some (.int .i64 flags') := fun wk h => h.cell (below_cell HB.out hbq' d2)
        have s3 : ∀ wk, Since wr wk → wk.cell? ⟨b', q' + j * 5 + 3, none⟩ = some av' := fun wk h => h.cell (below_cell HB.out hbq' d3)
        have s4 : ∀ wk, Since wr wk → wk.cell? ⟨b', q' + j * 5 + 4, none⟩ = some (.int .u32 imm') := fun wk h => h.cell (below_cell HB.out hbq' d4)
        clear c0 c1 c2 c3 c4 d0 d1 d2 d3 d4
        have HC : Hid (∀ wk, Since wr wk → Calls Try.prog 55 #[.agg #[.int .i64 op, .int .i64 width, .int .i64 flags, av, .int .u32 imm], .agg #[.int .i64 op', .int .i64 width', .int .i64 flags', av', .int .u32 imm']] wk fun e w' => e = .returned (.bool (decide ((⟨op, width, flags, args, imm⟩ : Nd) = ⟨op', width', flags', args', imm'⟩))) ∧ Below wk.heap.size wk w') :=
          fun wk h => rSameNode ⟨op, width, flags, args, imm⟩ ⟨op', width', flags', args', imm'⟩ av av' wk (HAV.out.stays (below_hop HB.out h)) (HAV'.out.stays (below_hop HB.out h))
        generalize hz : decide ((⟨op, width, flags, args, imm⟩ : Nd) = ⟨op', width', flags', args', imm'⟩) = z at *
        have HZ := Lib.hid hz
        clear hz
        go_wp2_with fail
        go_region_held3 (fun wk => Since wr wk) (first | assumption | exact Since.drew (by assumption) | exact Since.next (by assumption) (by assumption)) (first | (go_at_call 55; (with_reducible refine (HC.out _ (by assumption)).mono ?_); rintro e w' ⟨rfl, hb⟩))
        clear r0 r1 r2 r3 r4 s0 s1 s2 s3 s4 h00
        cases z
        · go_wp2_with fail
          go_ret
          refine ⟨ret_b (Eq.symm ?_), below_hop HB.out (show Since wr _ by assumption)⟩
          rw [decide_eq_false_iff_not]
          intro e
          have hz := HZ.out
          rw [← HXX.out, ← HYY.out, e] at hz
          simp at hz
        · have hxy : ts.getD j default = us.getD j default := by
            rw [HXX.out, HYY.out]; exact of_decide_eq_true HZ.out
          have HXY := Lib.hid hxy
          clear hxy
          go_wp2_with fail
          go_roundw
          case rel => exact ⟨j + 1, by omega, by go_num, fun k hk => by
            by_cases e : k = j
            · subst e; exact HXY.out
            · exact heq.out k (by omega), below_hop HB.out (show Since wr _ by assumption)⟩
          case measure => simp [intOf]; omega
      · obtain rfl : j = ts.length := by omega
        go_wp2_with fail
        go_ret
        refine ⟨ret_b (Eq.symm ?_), HB.out⟩
        rw [decide_eq_true_iff]
        apply List.ext_getElem HLL.out
        intro i h1 h2
        have := heq.out i h1
        rw [List.getD_eq_getElem?_getD, List.getD_eq_getElem?_getD, List.getElem?_eq_getElem h1, List.getElem?_eq_getElem h2] at this
        exact this
  · have HF : Hid (decide (ts = us) = false) := by
      show _ = _
      rw [decide_eq_false_iff_not]; intro e; subst e; simp at hl
    go_enter Try.func30, Try.ntmps30
    go_wp2_with fail
    go_ret
    exact ⟨ret_b HF.out.symm, Below.refl _ _⟩
end Go.Proofs.Ythopdfikikdcbaa
