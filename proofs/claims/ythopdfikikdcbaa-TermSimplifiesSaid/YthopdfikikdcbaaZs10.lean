/- Walk of the builder's identity. -/
import Derived.Test.YthopdfikikdcbaaZs9
namespace Go.Proofs.Ythopdfikikdcbaa
open Go.RowKit Go.Maps Wd
set_option linter.unusedVariables false
set_option linter.unusedSimpArgs false
section
variable {bb b2 b3 : Nat} {o : List Nd} {T : Nat → Prop} {w : World} {wd flags imm : Int} {p q : Nat} {aa : Option Addr} {ac : Nat}
set_option maxRecDepth 100000 in
set_option maxHeartbeats 4000000 in
theorem ident_1 (h : Bld bb o T w) (hg : Good o) (hpl : p < o.length) (hql : q < o.length) (hl : o.length ≤ 2000) (hav : Ints .i64 w (.slice aa 2 ac) [(p : Int), (q : Int)]) (h2 : w.cell? ⟨b2, 0, none⟩ = some (.pointer (some ⟨bb, 0, none⟩))) (h3 : w.cell? ⟨b3, 1, none⟩ = some (.int .i64 wd)) (hw : Sml wd) :
    Calls Try.prog 100 #[.pointer (some ⟨bb, 0, none⟩), .agg #[.int .i64 1, .int .i64 wd, .int .i64 flags, .slice aa 2 ac, .int .u32 imm], .func (.func 98) #[] #[.pointer (some ⟨b2, 0, none⟩), .pointer (some ⟨b3, 0, none⟩)]] w (IdPost bb o T w 1 wd p q) := by
  have HBL := Lib.hid h
  have HGD := Lib.hid hg
  have HRp := Lib.hid hpl
  have HRq := Lib.hid hql
  obtain ⟨ab, ao, rfl, hab, hcs⟩ := hav.row (by simp)
  have d0 : w.cell? ⟨ab, ao, none⟩ = some (.int .i64 (p : Int)) := hcs 0 (by simp)
  have d1 : w.cell? ⟨ab, ao + 1, none⟩ = some (.int .i64 (q : Int)) := hcs 1 (by simp)
  have H2 := Lib.hid h2
  have H3 := Lib.hid h3
  have HWS := Lib.hid hw
  have l2 := cell_lt h2
  have l3 := cell_lt h3
  have HTI : Hid (tree o p = tree o q → p = q) := fun e => tree_inj hg hpl hql e
  have KP : ((nd o p).imm : Int) = (tree o p).imm ∧ (nd o p).op = (tree o p).op := by rw [tree_eq hg.down hpl]; exact ⟨rfl, rfl⟩
  have KQ : ((nd o q).imm : Int) = (tree o q).imm ∧ (nd o q).op = (tree o q).op := by rw [tree_eq hg.down hql]; exact ⟨rfl, rfl⟩
  have HM0 : Hid (∀ x ∈ o, 0 ≤ x.imm) := fun x hx => by
    obtain ⟨W, R, nv, fv, avs, hT, hb⟩ := h
    exact ((hb.kn x hx).imm).1
  have hmp : 0 ≤ (nd o p).imm := HM0.out _ (mem_getD hpl)
  have hmq : 0 ≤ (nd o q).imm := HM0.out _ (mem_getD hql)
  have NQ : Hid (∀ W, Below w.heap.size w W → Calls Try.prog 99 #[.pointer (some ⟨bb, 0, none⟩), .int .i64 (q : Int)] W fun e w' => e = .returned (.tuple #[.int .u32 (nd o q).imm, .bool ((nd o q).op == 0)]) ∧ Below W.heap.size W w') := fun W hW => number_any bb o T W q (h.next hW) hql (by omega)
  have NP : Hid (∀ W, Below w.heap.size w W → Calls Try.prog 99 #[.pointer (some ⟨bb, 0, none⟩), .int .i64 (p : Int)] W fun e w' => e = .returned (.tuple #[.int .u32 (nd o p).imm, .bool ((nd o p).op == 0)]) ∧ Below W.heap.size W w') := fun W hW => number_any bb o T W p (h.next hW) hpl (by omega)
  have CN : Hid (∀ W, Below w.heap.size w W → Calls Try.prog 98 #[.int .u32 0, .pointer (some ⟨b2, 0, none⟩), .pointer (some ⟨b3, 0, none⟩)] W fun e w' => e = .returned (.int .i64 ((addN o ⟨0, wd, 0, [], 0⟩).2 : Int)) ∧
      ∃ T', Bld bb (addN o ⟨0, wd, 0, [], 0⟩).1 T' w' ∧ (∀ b, T' b → T b ∨ W.heap.size ≤ b) ∧ Chg T W w') := fun W hW => const_any bb b2 b3 o T W wd 0 (h.next hW) (below_cell hW l2 h2) (below_cell hW l3 h3) hw ⟨by omega, by omega⟩ (by omega)
  obtain ⟨m, hm⟩ : ∃ m, (nd o p).imm = m := ⟨_, rfl⟩
  obtain ⟨n, hn⟩ : ∃ n, (nd o q).imm = n := ⟨_, rfl⟩
  obtain ⟨lb, hlb⟩ : ∃ b, ((nd o p).op == 0) = b := ⟨_, rfl⟩
  obtain ⟨rb, hrb⟩ : ∃ b, ((nd o q).op == 0) = b := ⟨_, rfl⟩
  have Hm : Hid ((tree o p).imm = m) := by show _ = _; rw [← KP.1, hm]
  have Hn : Hid ((tree o q).imm = n) := by show _ = _; rw [← KQ.1, hn]
  have Hlb : Hid ((tree o p).op = 0 ↔ lb = true) := by show _ ↔ _; rw [← KP.2, ← hlb]; simp
  have Hrb : Hid ((tree o q).op = 0 ↔ rb = true) := by show _ ↔ _; rw [← KQ.2, ← hrb]; simp
  rw [hm] at hmp
  rw [hn] at hmq
  rw [hm, hlb] at NP
  rw [hn, hrb] at NQ
  clear hm hn hlb hrb KP KQ
  obtain ⟨ones, HON⟩ : ∃ ones, Hid (mkX wd = ones) := ⟨_, rfl⟩
  have HMK := Lib.hid (pMask wd)
  rw [HON.out] at HMK
  have hbx : Below w.heap.size w (w.alloc (.cells #[.int .i64 1, .int .i64 wd, .int .i64 flags, .slice (some ⟨ab, ao, none⟩) 2 ac, .int .u32 imm] 47)) := (Below.refl _ _).alloc (Nat.le_refl _) _
  have HBX := Lib.hid hbx
  have hpi : (0 : Int) ≤ p := by omega
  have hqi : (0 : Int) ≤ q := by omega
  clear h hg hpl hql hav hcs h2 h3 hw hbx HM0
  go_enter Try.func100, Try.ntmps100
  go_wp2_with fail
  refine (HMK.out _).mono ?_
  rintro e w1 ⟨rfl, rfl⟩
  go_wp2_with fail
  go_quiet (fail)
  have HBQ := Lib.hid (below_drewN HBX.out nq)
  have x0 : ((w.alloc (.cells #[.int .i64 1, .int .i64 wd, .int .i64 flags, .slice (some ⟨ab, ao, none⟩) 2 ac, .int .u32 imm] 47)).drewN nq).cell? ⟨w.heap.size, 0, none⟩ = some (.int .i64 1) := by simp [go_sem]
  have xs : w.heap.size < ((w.alloc (.cells #[.int .i64 1, .int .i64 wd, .int .i64 flags, .slice (some ⟨ab, ao, none⟩) 2 ac, .int .u32 imm] 47)).drewN nq).heap.size := by simp
  generalize (w.alloc (.cells #[.int .i64 1, .int .i64 wd, .int .i64 flags, .slice (some ⟨ab, ao, none⟩) 2 ac, .int .u32 imm] 47)).drewN nq = wq at *
  go_wp2_with fail
  refine (NQ.out wq HBQ.out).mono ?_
  rintro e w2 ⟨rfl, hb2⟩
  have HB2 := Lib.hid (below_hop HBQ.out hb2)
  have y0 := below_cell hb2 xs x0
  have ys := hb2.size
  clear hb2 x0
  go_wp2_with fail
  refine (NP.out w2 HB2.out).mono ?_
  rintro e w3 ⟨rfl, hb3⟩
  have HBW := Lib.hid (below_hop HB2.out hb3)
  have z0 := below_cell hb3 (by omega) y0
  have zs := hb3.size
  clear hb3 y0
  have HCN := Lib.hid (CN.out w3 HBW.out)
  clear CN NP NQ HMK
  cases lb
  · have flb : ¬ (tree o p).op = 0 := fun h => by have := Hlb.out.1 h; cases this
    have Flb := Lib.hid flb
    clear flb
    cases rb
    · have frb : ¬ (tree o q).op = 0 := fun h => by have := Hrb.out.1 h; cases this
      have Frb := Lib.hid frb
      clear frb
      cases hpq : ((p : Int) == (q : Int))
      · have fe : ¬ tree o p = tree o q := fun h => by have := HTI.out h; subst this; simp at hpq
        have FE := Lib.hid fe
        clear fe
        go_wp2_with fail
        go_ret2
        exact idp_none (by unfold idG; simp [Flb.out, Frb.out, FE.out]) HBW.out
      · have h9 : (p : Int) = q := (by simpa using hpq)
        have epq : p = q := by omega
        clear h9
        have fe : tree o p = tree o q := by rw [epq]
        have FE := Lib.hid fe
        clear fe epq
        go_wp2_with fail
        go_ret2
        exact idp_none (by unfold idG; simp [Flb.out, Frb.out, FE.out]) HBW.out
    · have Frb := Lib.hid (Hrb.out.2 rfl)
      cases hn : (n == 0)
      · have Fn : Hid (¬ (tree o q).imm = 0) := by show ¬ _; rw [Hn.out]; simpa using hn
        cases hpq : ((p : Int) == (q : Int))
        · have fe : ¬ tree o p = tree o q := fun h => by have := HTI.out h; subst this; simp at hpq
          have FE := Lib.hid fe
          clear fe
          go_wp2_with fail
          go_ret2
          exact idp_none (by unfold idG; simp [Flb.out, Frb.out, Fn.out, FE.out]) HBW.out
        · have h9 : (p : Int) = q := (by simpa using hpq)
          have epq : p = q := by omega
          clear h9
          have fe : tree o p = tree o q := by rw [epq]
          have FE := Lib.hid fe
          clear fe epq
          go_wp2_with fail
          go_ret2
          exact idp_none (by unfold idG; simp [Flb.out, Frb.out, Fn.out, FE.out]) HBW.out
      · have Fn : Hid ((tree o q).imm = 0) := by show _ = _; rw [Hn.out]; simpa using hn
        go_wp2_with fail
        go_ret2
        have HID : idG 1 wd (tree o p) (tree o q) = some (tree o p) := by unfold idG; simp [Flb.out, Frb.out, Fn.out]
        first | exact idp_p (r := p) HBL.out HGD.out HRp.out HID HBW.out | exact idp_p (r := p) HBL.out HGD.out HRp.out HID (HBW.out.alloc HBW.out.size _)
  · have Flb := Lib.hid (Hlb.out.2 rfl)
    cases hm : (m == 0)
    · have Fm : Hid (¬ (tree o p).imm = 0) := by show ¬ _; rw [Hm.out]; simpa using hm
      cases rb
      · have frb : ¬ (tree o q).op = 0 := fun h => by have := Hrb.out.1 h; cases this
        have Frb := Lib.hid frb
        clear frb
        cases hpq : ((p : Int) == (q : Int))
        · have fe : ¬ tree o p = tree o q := fun h => by have := HTI.out h; subst this; simp at hpq
          have FE := Lib.hid fe
          clear fe
          go_wp2_with fail
          go_ret2
          exact idp_none (by unfold idG; simp [Flb.out, Fm.out, Frb.out, FE.out]) HBW.out
        · have h9 : (p : Int) = q := (by simpa using hpq)
          have epq : p = q := by omega
          clear h9
          have fe : tree o p = tree o q := by rw [epq]
          have FE := Lib.hid fe
          clear fe epq
          go_wp2_with fail
          go_ret2
          exact idp_none (by unfold idG; simp [Flb.out, Fm.out, Frb.out, FE.out]) HBW.out
      · have Frb := Lib.hid (Hrb.out.2 rfl)
        cases hn : (n == 0)
        · have Fn : Hid (¬ (tree o q).imm = 0) := by show ¬ _; rw [Hn.out]; simpa using hn
          cases hpq : ((p : Int) == (q : Int))
          · have fe : ¬ tree o p = tree o q := fun h => by have := HTI.out h; subst this; simp at hpq
            have FE := Lib.hid fe
            clear fe
            go_wp2_with fail
            go_ret2
            exact idp_none (by unfold idG; simp [Flb.out, Fm.out, Frb.out, Fn.out, FE.out]) HBW.out
          · have h9 : (p : Int) = q := (by simpa using hpq)
            have epq : p = q := by omega
            clear h9
            have fe : tree o p = tree o q := by rw [epq]
            have FE := Lib.hid fe
            clear fe epq
            go_wp2_with fail
            go_ret2
            exact idp_none (by unfold idG; simp [Flb.out, Fm.out, Frb.out, Fn.out, FE.out]) HBW.out
        · have Fn : Hid ((tree o q).imm = 0) := by show _ = _; rw [Hn.out]; simpa using hn
          go_wp2_with fail
          go_ret2
          have HID : idG 1 wd (tree o p) (tree o q) = some (tree o p) := by unfold idG; simp [Flb.out, Fm.out, Frb.out, Fn.out]
          first | exact idp_p (r := p) HBL.out HGD.out HRp.out HID HBW.out | exact idp_p (r := p) HBL.out HGD.out HRp.out HID (HBW.out.alloc HBW.out.size _)
    · have Fm : Hid ((tree o p).imm = 0) := by show _ = _; rw [Hm.out]; simpa using hm
      go_wp2_with fail
      go_ret2
      have HID : idG 1 wd (tree o p) (tree o q) = some (tree o q) := by unfold idG; simp [Flb.out, Fm.out]
      first | exact idp_p (r := q) HBL.out HGD.out HRq.out HID HBW.out | exact idp_p (r := q) HBL.out HGD.out HRq.out HID (HBW.out.alloc HBW.out.size _)
set_option maxRecDepth 100000 in
set_option maxHeartbeats 4000000 in
theorem ident_2 (h : Bld bb o T w) (hg : Good o) (hpl : p < o.length) (hql : q < o.length) (hl : o.length ≤ 2000) (hav : Ints .i64 w (.slice aa 2 ac) [(p : Int), (q : Int)]) (h2 : w.cell? ⟨b2, 0, none⟩ = some (.pointer (some ⟨bb, 0, none⟩))) (h3 : w.cell? ⟨b3, 1, none⟩ = some (.int .i64 wd)) (hw : Sml wd) :
    Calls Try.prog 100 #[.pointer (some ⟨bb, 0, none⟩), .agg #[.int .i64 2, .int .i64 wd, .int .i64 flags, .slice aa 2 ac, .int .u32 imm], .func (.func 98) #[] #[.pointer (some ⟨b2, 0, none⟩), .pointer (some ⟨b3, 0, none⟩)]] w (IdPost bb o T w 2 wd p q) := by
  have HBL := Lib.hid h
  have HGD := Lib.hid hg
  have HRp := Lib.hid hpl
  have HRq := Lib.hid hql
  obtain ⟨ab, ao, rfl, hab, hcs⟩ := hav.row (by simp)
  have d0 : w.cell? ⟨ab, ao, none⟩ = some (.int .i64 (p : Int)) := hcs 0 (by simp)
  have d1 : w.cell? ⟨ab, ao + 1, none⟩ = some (.int .i64 (q : Int)) := hcs 1 (by simp)
  have H2 := Lib.hid h2
  have H3 := Lib.hid h3
  have HWS := Lib.hid hw
  have l2 := cell_lt h2
  have l3 := cell_lt h3
  have HTI : Hid (tree o p = tree o q → p = q) := fun e => tree_inj hg hpl hql e
  have KP : ((nd o p).imm : Int) = (tree o p).imm ∧ (nd o p).op = (tree o p).op := by rw [tree_eq hg.down hpl]; exact ⟨rfl, rfl⟩
  have KQ : ((nd o q).imm : Int) = (tree o q).imm ∧ (nd o q).op = (tree o q).op := by rw [tree_eq hg.down hql]; exact ⟨rfl, rfl⟩
  have HM0 : Hid (∀ x ∈ o, 0 ≤ x.imm) := fun x hx => by
    obtain ⟨W, R, nv, fv, avs, hT, hb⟩ := h
    exact ((hb.kn x hx).imm).1
  have hmp : 0 ≤ (nd o p).imm := HM0.out _ (mem_getD hpl)
  have hmq : 0 ≤ (nd o q).imm := HM0.out _ (mem_getD hql)
  have NQ : Hid (∀ W, Below w.heap.size w W → Calls Try.prog 99 #[.pointer (some ⟨bb, 0, none⟩), .int .i64 (q : Int)] W fun e w' => e = .returned (.tuple #[.int .u32 (nd o q).imm, .bool ((nd o q).op == 0)]) ∧ Below W.heap.size W w') := fun W hW => number_any bb o T W q (h.next hW) hql (by omega)
  have NP : Hid (∀ W, Below w.heap.size w W → Calls Try.prog 99 #[.pointer (some ⟨bb, 0, none⟩), .int .i64 (p : Int)] W fun e w' => e = .returned (.tuple #[.int .u32 (nd o p).imm, .bool ((nd o p).op == 0)]) ∧ Below W.heap.size W w') := fun W hW => number_any bb o T W p (h.next hW) hpl (by omega)
  have CN : Hid (∀ W, Below w.heap.size w W → Calls Try.prog 98 #[.int .u32 0, .pointer (some ⟨b2, 0, none⟩), .pointer (some ⟨b3, 0, none⟩)] W fun e w' => e = .returned (.int .i64 ((addN o ⟨0, wd, 0, [], 0⟩).2 : Int)) ∧
      ∃ T', Bld bb (addN o ⟨0, wd, 0, [], 0⟩).1 T' w' ∧ (∀ b, T' b → T b ∨ W.heap.size ≤ b) ∧ Chg T W w') := fun W hW => const_any bb b2 b3 o T W wd 0 (h.next hW) (below_cell hW l2 h2) (below_cell hW l3 h3) hw ⟨by omega, by omega⟩ (by omega)
  obtain ⟨m, hm⟩ : ∃ m, (nd o p).imm = m := ⟨_, rfl⟩
  obtain ⟨n, hn⟩ : ∃ n, (nd o q).imm = n := ⟨_, rfl⟩
  obtain ⟨lb, hlb⟩ : ∃ b, ((nd o p).op == 0) = b := ⟨_, rfl⟩
  obtain ⟨rb, hrb⟩ : ∃ b, ((nd o q).op == 0) = b := ⟨_, rfl⟩
  have Hm : Hid ((tree o p).imm = m) := by show _ = _; rw [← KP.1, hm]
  have Hn : Hid ((tree o q).imm = n) := by show _ = _; rw [← KQ.1, hn]
  have Hlb : Hid ((tree o p).op = 0 ↔ lb = true) := by show _ ↔ _; rw [← KP.2, ← hlb]; simp
  have Hrb : Hid ((tree o q).op = 0 ↔ rb = true) := by show _ ↔ _; rw [← KQ.2, ← hrb]; simp
  rw [hm] at hmp
  rw [hn] at hmq
  rw [hm, hlb] at NP
  rw [hn, hrb] at NQ
  clear hm hn hlb hrb KP KQ
  obtain ⟨ones, HON⟩ : ∃ ones, Hid (mkX wd = ones) := ⟨_, rfl⟩
  have HMK := Lib.hid (pMask wd)
  rw [HON.out] at HMK
  have hbx : Below w.heap.size w (w.alloc (.cells #[.int .i64 2, .int .i64 wd, .int .i64 flags, .slice (some ⟨ab, ao, none⟩) 2 ac, .int .u32 imm] 47)) := (Below.refl _ _).alloc (Nat.le_refl _) _
  have HBX := Lib.hid hbx
  have hpi : (0 : Int) ≤ p := by omega
  have hqi : (0 : Int) ≤ q := by omega
  clear h hg hpl hql hav hcs h2 h3 hw hbx HM0
  go_enter Try.func100, Try.ntmps100
  go_wp2_with fail
  refine (HMK.out _).mono ?_
  rintro e w1 ⟨rfl, rfl⟩
  go_wp2_with fail
  go_quiet (fail)
  have HBQ := Lib.hid (below_drewN HBX.out nq)
  have x0 : ((w.alloc (.cells #[.int .i64 2, .int .i64 wd, .int .i64 flags, .slice (some ⟨ab, ao, none⟩) 2 ac, .int .u32 imm] 47)).drewN nq).cell? ⟨w.heap.size, 0, none⟩ = some (.int .i64 2) := by simp [go_sem]
  have xs : w.heap.size < ((w.alloc (.cells #[.int .i64 2, .int .i64 wd, .int .i64 flags, .slice (some ⟨ab, ao, none⟩) 2 ac, .int .u32 imm] 47)).drewN nq).heap.size := by simp
  generalize (w.alloc (.cells #[.int .i64 2, .int .i64 wd, .int .i64 flags, .slice (some ⟨ab, ao, none⟩) 2 ac, .int .u32 imm] 47)).drewN nq = wq at *
  go_wp2_with fail
  refine (NQ.out wq HBQ.out).mono ?_
  rintro e w2 ⟨rfl, hb2⟩
  have HB2 := Lib.hid (below_hop HBQ.out hb2)
  have y0 := below_cell hb2 xs x0
  have ys := hb2.size
  clear hb2 x0
  go_wp2_with fail
  refine (NP.out w2 HB2.out).mono ?_
  rintro e w3 ⟨rfl, hb3⟩
  have HBW := Lib.hid (below_hop HB2.out hb3)
  have z0 := below_cell hb3 (by omega) y0
  have zs := hb3.size
  clear hb3 y0
  have HCN := Lib.hid (CN.out w3 HBW.out)
  clear CN NP NQ HMK
  cases rb
  · have frb : ¬ (tree o q).op = 0 := fun h => by have := Hrb.out.1 h; cases this
    have Frb := Lib.hid frb
    clear frb
    cases hpq : ((p : Int) == (q : Int))
    · have fe : ¬ tree o p = tree o q := fun h => by have := HTI.out h; subst this; simp at hpq
      have FE := Lib.hid fe
      clear fe
      go_wp2_with fail
      go_ret2
      exact idp_none (by unfold idG; simp [Frb.out, FE.out]) HBW.out
    · have h9 : (p : Int) = q := (by simpa using hpq)
      have epq : p = q := by omega
      clear h9
      have fe : tree o p = tree o q := by rw [epq]
      have FE := Lib.hid fe
      clear fe epq
      go_wp2_with fail
      refine HCN.out.mono ?_
      rintro e w5 ⟨rfl, hp5⟩
      have HP5 := Lib.hid hp5
      clear hp5
      go_wp2_with fail
      go_ret2
      exact idp_c (by unfold idG; simp [Frb.out, FE.out]) HBW.out HP5.out
  · have Frb := Lib.hid (Hrb.out.2 rfl)
    cases hn : (n == 0)
    · have Fn : Hid (¬ (tree o q).imm = 0) := by show ¬ _; rw [Hn.out]; simpa using hn
      cases hpq : ((p : Int) == (q : Int))
      · have fe : ¬ tree o p = tree o q := fun h => by have := HTI.out h; subst this; simp at hpq
        have FE := Lib.hid fe
        clear fe
        go_wp2_with fail
        go_ret2
        exact idp_none (by unfold idG; simp [Frb.out, Fn.out, FE.out]) HBW.out
      · have h9 : (p : Int) = q := (by simpa using hpq)
        have epq : p = q := by omega
        clear h9
        have fe : tree o p = tree o q := by rw [epq]
        have FE := Lib.hid fe
        clear fe epq
        go_wp2_with fail
        refine HCN.out.mono ?_
        rintro e w5 ⟨rfl, hp5⟩
        have HP5 := Lib.hid hp5
        clear hp5
        go_wp2_with fail
        go_ret2
        exact idp_c (by unfold idG; simp [Frb.out, Fn.out, FE.out]) HBW.out HP5.out
    · have Fn : Hid ((tree o q).imm = 0) := by show _ = _; rw [Hn.out]; simpa using hn
      go_wp2_with fail
      go_ret2
      have HID : idG 2 wd (tree o p) (tree o q) = some (tree o p) := by unfold idG; simp [Frb.out, Fn.out]
      first | exact idp_p (r := p) HBL.out HGD.out HRp.out HID HBW.out | exact idp_p (r := p) HBL.out HGD.out HRp.out HID (HBW.out.alloc HBW.out.size _)
set_option maxRecDepth 100000 in
set_option maxHeartbeats 4000000 in
theorem ident_3 (h : Bld bb o T w) (hg : Good o) (hpl : p < o.length) (hql : q < o.length) (hl : o.length ≤ 2000) (hav : Ints .i64 w (.slice aa 2 ac) [(p : Int), (q : Int)]) (h2 : w.cell? ⟨b2, 0, none⟩ = some (.pointer (some ⟨bb, 0, none⟩))) (h3 : w.cell? ⟨b3, 1, none⟩ = some (.int .i64 wd)) (hw : Sml wd) :
    Calls Try.prog 100 #[.pointer (some ⟨bb, 0, none⟩), .agg #[.int .i64 3, .int .i64 wd, .int .i64 flags, .slice aa 2 ac, .int .u32 imm], .func (.func 98) #[] #[.pointer (some ⟨b2, 0, none⟩), .pointer (some ⟨b3, 0, none⟩)]] w (IdPost bb o T w 3 wd p q) := by
  have HBL := Lib.hid h
  have HGD := Lib.hid hg
  have HRp := Lib.hid hpl
  have HRq := Lib.hid hql
  obtain ⟨ab, ao, rfl, hab, hcs⟩ := hav.row (by simp)
  have d0 : w.cell? ⟨ab, ao, none⟩ = some (.int .i64 (p : Int)) := hcs 0 (by simp)
  have d1 : w.cell? ⟨ab, ao + 1, none⟩ = some (.int .i64 (q : Int)) := hcs 1 (by simp)
  have H2 := Lib.hid h2
  have H3 := Lib.hid h3
  have HWS := Lib.hid hw
  have l2 := cell_lt h2
  have l3 := cell_lt h3
  have HTI : Hid (tree o p = tree o q → p = q) := fun e => tree_inj hg hpl hql e
  have KP : ((nd o p).imm : Int) = (tree o p).imm ∧ (nd o p).op = (tree o p).op := by rw [tree_eq hg.down hpl]; exact ⟨rfl, rfl⟩
  have KQ : ((nd o q).imm : Int) = (tree o q).imm ∧ (nd o q).op = (tree o q).op := by rw [tree_eq hg.down hql]; exact ⟨rfl, rfl⟩
  have HM0 : Hid (∀ x ∈ o, 0 ≤ x.imm) := fun x hx => by
    obtain ⟨W, R, nv, fv, avs, hT, hb⟩ := h
    exact ((hb.kn x hx).imm).1
  have hmp : 0 ≤ (nd o p).imm := HM0.out _ (mem_getD hpl)
  have hmq : 0 ≤ (nd o q).imm := HM0.out _ (mem_getD hql)
  have NQ : Hid (∀ W, Below w.heap.size w W → Calls Try.prog 99 #[.pointer (some ⟨bb, 0, none⟩), .int .i64 (q : Int)] W fun e w' => e = .returned (.tuple #[.int .u32 (nd o q).imm, .bool ((nd o q).op == 0)]) ∧ Below W.heap.size W w') := fun W hW => number_any bb o T W q (h.next hW) hql (by omega)
  have NP : Hid (∀ W, Below w.heap.size w W → Calls Try.prog 99 #[.pointer (some ⟨bb, 0, none⟩), .int .i64 (p : Int)] W fun e w' => e = .returned (.tuple #[.int .u32 (nd o p).imm, .bool ((nd o p).op == 0)]) ∧ Below W.heap.size W w') := fun W hW => number_any bb o T W p (h.next hW) hpl (by omega)
  have CN : Hid (∀ W, Below w.heap.size w W → Calls Try.prog 98 #[.int .u32 0, .pointer (some ⟨b2, 0, none⟩), .pointer (some ⟨b3, 0, none⟩)] W fun e w' => e = .returned (.int .i64 ((addN o ⟨0, wd, 0, [], 0⟩).2 : Int)) ∧
      ∃ T', Bld bb (addN o ⟨0, wd, 0, [], 0⟩).1 T' w' ∧ (∀ b, T' b → T b ∨ W.heap.size ≤ b) ∧ Chg T W w') := fun W hW => const_any bb b2 b3 o T W wd 0 (h.next hW) (below_cell hW l2 h2) (below_cell hW l3 h3) hw ⟨by omega, by omega⟩ (by omega)
  obtain ⟨m, hm⟩ : ∃ m, (nd o p).imm = m := ⟨_, rfl⟩
  obtain ⟨n, hn⟩ : ∃ n, (nd o q).imm = n := ⟨_, rfl⟩
  obtain ⟨lb, hlb⟩ : ∃ b, ((nd o p).op == 0) = b := ⟨_, rfl⟩
  obtain ⟨rb, hrb⟩ : ∃ b, ((nd o q).op == 0) = b := ⟨_, rfl⟩
  have Hm : Hid ((tree o p).imm = m) := by show _ = _; rw [← KP.1, hm]
  have Hn : Hid ((tree o q).imm = n) := by show _ = _; rw [← KQ.1, hn]
  have Hlb : Hid ((tree o p).op = 0 ↔ lb = true) := by show _ ↔ _; rw [← KP.2, ← hlb]; simp
  have Hrb : Hid ((tree o q).op = 0 ↔ rb = true) := by show _ ↔ _; rw [← KQ.2, ← hrb]; simp
  rw [hm] at hmp
  rw [hn] at hmq
  rw [hm, hlb] at NP
  rw [hn, hrb] at NQ
  clear hm hn hlb hrb KP KQ
  obtain ⟨ones, HON⟩ : ∃ ones, Hid (mkX wd = ones) := ⟨_, rfl⟩
  have HMK := Lib.hid (pMask wd)
  rw [HON.out] at HMK
  have hbx : Below w.heap.size w (w.alloc (.cells #[.int .i64 3, .int .i64 wd, .int .i64 flags, .slice (some ⟨ab, ao, none⟩) 2 ac, .int .u32 imm] 47)) := (Below.refl _ _).alloc (Nat.le_refl _) _
  have HBX := Lib.hid hbx
  have hpi : (0 : Int) ≤ p := by omega
  have hqi : (0 : Int) ≤ q := by omega
  clear h hg hpl hql hav hcs h2 h3 hw hbx HM0
  go_enter Try.func100, Try.ntmps100
  go_wp2_with fail
  refine (HMK.out _).mono ?_
  rintro e w1 ⟨rfl, rfl⟩
  go_wp2_with fail
  go_quiet (fail)
  have HBQ := Lib.hid (below_drewN HBX.out nq)
  have x0 : ((w.alloc (.cells #[.int .i64 3, .int .i64 wd, .int .i64 flags, .slice (some ⟨ab, ao, none⟩) 2 ac, .int .u32 imm] 47)).drewN nq).cell? ⟨w.heap.size, 0, none⟩ = some (.int .i64 3) := by simp [go_sem]
  have xs : w.heap.size < ((w.alloc (.cells #[.int .i64 3, .int .i64 wd, .int .i64 flags, .slice (some ⟨ab, ao, none⟩) 2 ac, .int .u32 imm] 47)).drewN nq).heap.size := by simp
  generalize (w.alloc (.cells #[.int .i64 3, .int .i64 wd, .int .i64 flags, .slice (some ⟨ab, ao, none⟩) 2 ac, .int .u32 imm] 47)).drewN nq = wq at *
  go_wp2_with fail
  refine (NQ.out wq HBQ.out).mono ?_
  rintro e w2 ⟨rfl, hb2⟩
  have HB2 := Lib.hid (below_hop HBQ.out hb2)
  have y0 := below_cell hb2 xs x0
  have ys := hb2.size
  clear hb2 x0
  go_wp2_with fail
  refine (NP.out w2 HB2.out).mono ?_
  rintro e w3 ⟨rfl, hb3⟩
  have HBW := Lib.hid (below_hop HB2.out hb3)
  have z0 := below_cell hb3 (by omega) y0
  have zs := hb3.size
  clear hb3 y0
  have HCN := Lib.hid (CN.out w3 HBW.out)
  clear CN NP NQ HMK
  cases lb
  · have flb : ¬ (tree o p).op = 0 := fun h => by have := Hlb.out.1 h; cases this
    have Flb := Lib.hid flb
    clear flb
    cases rb
    · have frb : ¬ (tree o q).op = 0 := fun h => by have := Hrb.out.1 h; cases this
      have Frb := Lib.hid frb
      clear frb
      cases hpq : ((p : Int) == (q : Int))
      · have fe : ¬ tree o p = tree o q := fun h => by have := HTI.out h; subst this; simp at hpq
        have FE := Lib.hid fe
        clear fe
        go_wp2_with fail
        go_ret2
        exact idp_none (by unfold idG; simp [Flb.out, Frb.out, FE.out]) HBW.out
      · have h9 : (p : Int) = q := (by simpa using hpq)
        have epq : p = q := by omega
        clear h9
        have fe : tree o p = tree o q := by rw [epq]
        have FE := Lib.hid fe
        clear fe epq
        go_wp2_with fail
        go_ret2
        exact idp_none (by unfold idG; simp [Flb.out, Frb.out, FE.out]) HBW.out
    · have Frb := Lib.hid (Hrb.out.2 rfl)
      by_cases hn : n ≤ 1
      · have Fn1 : Hid ((tree o q).imm ≤ 1) := by show _ ≤ _; rw [Hn.out]; exact hn
        by_cases hn0 : n = 0
        · have Fn : Hid ((tree o q).imm = 0) := by show _ = _; rw [Hn.out]; exact hn0
          subst hn0
          go_wp2_with fail
          go_ret2
          have HID : idG 3 wd (tree o p) (tree o q) = some (tree o q) := by unfold idG; simp [Flb.out, Frb.out, Fn.out]
          first | exact idp_p (r := q) HBL.out HGD.out HRq.out HID HBW.out | exact idp_p (r := q) HBL.out HGD.out HRq.out HID (HBW.out.alloc HBW.out.size _)
        · have Fn : Hid (¬ (tree o q).imm = 0) := by show ¬ _; rw [Hn.out]; exact hn0
          obtain rfl : n = 1 := by omega
          go_wp2_with fail
          go_ret2
          have HID : idG 3 wd (tree o p) (tree o q) = some (tree o p) := by unfold idG; simp [Flb.out, Frb.out, Fn.out, Fn1.out]
          first | exact idp_p (r := p) HBL.out HGD.out HRp.out HID HBW.out | exact idp_p (r := p) HBL.out HGD.out HRp.out HID (HBW.out.alloc HBW.out.size _)
      · have Fn : Hid (((tree o q).imm ≤ 1) = False) := by show _ = _; rw [Hn.out]; exact eq_false hn
        cases hpq : ((p : Int) == (q : Int))
        · have fe : ¬ tree o p = tree o q := fun h => by have := HTI.out h; subst this; simp at hpq
          have FE := Lib.hid fe
          clear fe
          go_wp2_with fail
          go_ret2
          exact idp_none (by unfold idG; simp [Flb.out, Frb.out, Fn.out, FE.out]) HBW.out
        · have h9 : (p : Int) = q := (by simpa using hpq)
          have epq : p = q := by omega
          clear h9
          have fe : tree o p = tree o q := by rw [epq]
          have FE := Lib.hid fe
          clear fe epq
          go_wp2_with fail
          go_ret2
          exact idp_none (by unfold idG; simp [Flb.out, Frb.out, Fn.out, FE.out]) HBW.out
  · have Flb := Lib.hid (Hlb.out.2 rfl)
    by_cases hm : m ≤ 1
    · have Fm1 : Hid ((tree o p).imm ≤ 1) := by show _ ≤ _; rw [Hm.out]; exact hm
      by_cases hm0 : m = 0
      · have Fm : Hid ((tree o p).imm = 0) := by show _ = _; rw [Hm.out]; exact hm0
        subst hm0
        go_wp2_with fail
        go_ret2
        have HID : idG 3 wd (tree o p) (tree o q) = some (tree o p) := by unfold idG; simp [Flb.out, Fm.out]
        first | exact idp_p (r := p) HBL.out HGD.out HRp.out HID HBW.out | exact idp_p (r := p) HBL.out HGD.out HRp.out HID (HBW.out.alloc HBW.out.size _)
      · have Fm : Hid (¬ (tree o p).imm = 0) := by show ¬ _; rw [Hm.out]; exact hm0
        obtain rfl : m = 1 := by omega
        go_wp2_with fail
        go_ret2
        have HID : idG 3 wd (tree o p) (tree o q) = some (tree o q) := by unfold idG; simp [Flb.out, Fm.out, Fm1.out]
        first | exact idp_p (r := q) HBL.out HGD.out HRq.out HID HBW.out | exact idp_p (r := q) HBL.out HGD.out HRq.out HID (HBW.out.alloc HBW.out.size _)
    · have Fm : Hid (((tree o p).imm ≤ 1) = False) := by show _ = _; rw [Hm.out]; exact eq_false hm
      cases rb
      · have frb : ¬ (tree o q).op = 0 := fun h => by have := Hrb.out.1 h; cases this
        have Frb := Lib.hid frb
        clear frb
        cases hpq : ((p : Int) == (q : Int))
        · have fe : ¬ tree o p = tree o q := fun h => by have := HTI.out h; subst this; simp at hpq
          have FE := Lib.hid fe
          clear fe
          go_wp2_with fail
          go_ret2
          exact idp_none (by unfold idG; simp [Flb.out, Fm.out, Frb.out, FE.out]) HBW.out
        · have h9 : (p : Int) = q := (by simpa using hpq)
          have epq : p = q := by omega
          clear h9
          have fe : tree o p = tree o q := by rw [epq]
          have FE := Lib.hid fe
          clear fe epq
          go_wp2_with fail
          go_ret2
          exact idp_none (by unfold idG; simp [Flb.out, Fm.out, Frb.out, FE.out]) HBW.out
      · have Frb := Lib.hid (Hrb.out.2 rfl)
        by_cases hn : n ≤ 1
        · have Fn1 : Hid ((tree o q).imm ≤ 1) := by show _ ≤ _; rw [Hn.out]; exact hn
          by_cases hn0 : n = 0
          · have Fn : Hid ((tree o q).imm = 0) := by show _ = _; rw [Hn.out]; exact hn0
            subst hn0
            go_wp2_with fail
            go_ret2
            have HID : idG 3 wd (tree o p) (tree o q) = some (tree o q) := by unfold idG; simp [Flb.out, Fm.out, Frb.out, Fn.out]
            first | exact idp_p (r := q) HBL.out HGD.out HRq.out HID HBW.out | exact idp_p (r := q) HBL.out HGD.out HRq.out HID (HBW.out.alloc HBW.out.size _)
          · have Fn : Hid (¬ (tree o q).imm = 0) := by show ¬ _; rw [Hn.out]; exact hn0
            obtain rfl : n = 1 := by omega
            go_wp2_with fail
            go_ret2
            have HID : idG 3 wd (tree o p) (tree o q) = some (tree o p) := by unfold idG; simp [Flb.out, Fm.out, Frb.out, Fn.out, Fn1.out]
            first | exact idp_p (r := p) HBL.out HGD.out HRp.out HID HBW.out | exact idp_p (r := p) HBL.out HGD.out HRp.out HID (HBW.out.alloc HBW.out.size _)
        · have Fn : Hid (((tree o q).imm ≤ 1) = False) := by show _ = _; rw [Hn.out]; exact eq_false hn
          cases hpq : ((p : Int) == (q : Int))
          · have fe : ¬ tree o p = tree o q := fun h => by have := HTI.out h; subst this; simp at hpq
            have FE := Lib.hid fe
            clear fe
            go_wp2_with fail
            go_ret2
            exact idp_none (by unfold idG; simp [Flb.out, Fm.out, Frb.out, Fn.out, FE.out]) HBW.out
          · have h9 : (p : Int) = q := (by simpa using hpq)
            have epq : p = q := by omega
            clear h9
            have fe : tree o p = tree o q := by rw [epq]
            have FE := Lib.hid fe
            clear fe epq
            go_wp2_with fail
            go_ret2
            exact idp_none (by unfold idG; simp [Flb.out, Fm.out, Frb.out, Fn.out, FE.out]) HBW.out
set_option maxRecDepth 100000 in
set_option maxHeartbeats 4000000 in
theorem ident_4 (h : Bld bb o T w) (hg : Good o) (hpl : p < o.length) (hql : q < o.length) (hl : o.length ≤ 2000) (hav : Ints .i64 w (.slice aa 2 ac) [(p : Int), (q : Int)]) (h2 : w.cell? ⟨b2, 0, none⟩ = some (.pointer (some ⟨bb, 0, none⟩))) (h3 : w.cell? ⟨b3, 1, none⟩ = some (.int .i64 wd)) (hw : Sml wd) :
    Calls Try.prog 100 #[.pointer (some ⟨bb, 0, none⟩), .agg #[.int .i64 4, .int .i64 wd, .int .i64 flags, .slice aa 2 ac, .int .u32 imm], .func (.func 98) #[] #[.pointer (some ⟨b2, 0, none⟩), .pointer (some ⟨b3, 0, none⟩)]] w (IdPost bb o T w 4 wd p q) := by
  have HBL := Lib.hid h
  have HGD := Lib.hid hg
  have HRp := Lib.hid hpl
  have HRq := Lib.hid hql
  obtain ⟨ab, ao, rfl, hab, hcs⟩ := hav.row (by simp)
  have d0 : w.cell? ⟨ab, ao, none⟩ = some (.int .i64 (p : Int)) := hcs 0 (by simp)
  have d1 : w.cell? ⟨ab, ao + 1, none⟩ = some (.int .i64 (q : Int)) := hcs 1 (by simp)
  have H2 := Lib.hid h2
  have H3 := Lib.hid h3
  have HWS := Lib.hid hw
  have l2 := cell_lt h2
  have l3 := cell_lt h3
  have HTI : Hid (tree o p = tree o q → p = q) := fun e => tree_inj hg hpl hql e
  have KP : ((nd o p).imm : Int) = (tree o p).imm ∧ (nd o p).op = (tree o p).op := by rw [tree_eq hg.down hpl]; exact ⟨rfl, rfl⟩
  have KQ : ((nd o q).imm : Int) = (tree o q).imm ∧ (nd o q).op = (tree o q).op := by rw [tree_eq hg.down hql]; exact ⟨rfl, rfl⟩
  have HM0 : Hid (∀ x ∈ o, 0 ≤ x.imm) := fun x hx => by
    obtain ⟨W, R, nv, fv, avs, hT, hb⟩ := h
    exact ((hb.kn x hx).imm).1
  have hmp : 0 ≤ (nd o p).imm := HM0.out _ (mem_getD hpl)
  have hmq : 0 ≤ (nd o q).imm := HM0.out _ (mem_getD hql)
  have NQ : Hid (∀ W, Below w.heap.size w W → Calls Try.prog 99 #[.pointer (some ⟨bb, 0, none⟩), .int .i64 (q : Int)] W fun e w' => e = .returned (.tuple #[.int .u32 (nd o q).imm, .bool ((nd o q).op == 0)]) ∧ Below W.heap.size W w') := fun W hW => number_any bb o T W q (h.next hW) hql (by omega)
  have NP : Hid (∀ W, Below w.heap.size w W → Calls Try.prog 99 #[.pointer (some ⟨bb, 0, none⟩), .int .i64 (p : Int)] W fun e w' => e = .returned (.tuple #[.int .u32 (nd o p).imm, .bool ((nd o p).op == 0)]) ∧ Below W.heap.size W w') := fun W hW => number_any bb o T W p (h.next hW) hpl (by omega)
  have CN : Hid (∀ W, Below w.heap.size w W → Calls Try.prog 98 #[.int .u32 0, .pointer (some ⟨b2, 0, none⟩), .pointer (some ⟨b3, 0, none⟩)] W fun e w' => e = .returned (.int .i64 ((addN o ⟨0, wd, 0, [], 0⟩).2 : Int)) ∧
      ∃ T', Bld bb (addN o ⟨0, wd, 0, [], 0⟩).1 T' w' ∧ (∀ b, T' b → T b ∨ W.heap.size ≤ b) ∧ Chg T W w') := fun W hW => const_any bb b2 b3 o T W wd 0 (h.next hW) (below_cell hW l2 h2) (below_cell hW l3 h3) hw ⟨by omega, by omega⟩ (by omega)
  obtain ⟨m, hm⟩ : ∃ m, (nd o p).imm = m := ⟨_, rfl⟩
  obtain ⟨n, hn⟩ : ∃ n, (nd o q).imm = n := ⟨_, rfl⟩
  obtain ⟨lb, hlb⟩ : ∃ b, ((nd o p).op == 0) = b := ⟨_, rfl⟩
  obtain ⟨rb, hrb⟩ : ∃ b, ((nd o q).op == 0) = b := ⟨_, rfl⟩
  have Hm : Hid ((tree o p).imm = m) := by show _ = _; rw [← KP.1, hm]
  have Hn : Hid ((tree o q).imm = n) := by show _ = _; rw [← KQ.1, hn]
  have Hlb : Hid ((tree o p).op = 0 ↔ lb = true) := by show _ ↔ _; rw [← KP.2, ← hlb]; simp
  have Hrb : Hid ((tree o q).op = 0 ↔ rb = true) := by show _ ↔ _; rw [← KQ.2, ← hrb]; simp
  rw [hm] at hmp
  rw [hn] at hmq
  rw [hm, hlb] at NP
  rw [hn, hrb] at NQ
  clear hm hn hlb hrb KP KQ
  obtain ⟨ones, HON⟩ : ∃ ones, Hid (mkX wd = ones) := ⟨_, rfl⟩
  have HMK := Lib.hid (pMask wd)
  rw [HON.out] at HMK
  have hbx : Below w.heap.size w (w.alloc (.cells #[.int .i64 4, .int .i64 wd, .int .i64 flags, .slice (some ⟨ab, ao, none⟩) 2 ac, .int .u32 imm] 47)) := (Below.refl _ _).alloc (Nat.le_refl _) _
  have HBX := Lib.hid hbx
  have hpi : (0 : Int) ≤ p := by omega
  have hqi : (0 : Int) ≤ q := by omega
  clear h hg hpl hql hav hcs h2 h3 hw hbx HM0
  go_enter Try.func100, Try.ntmps100
  go_wp2_with fail
  refine (HMK.out _).mono ?_
  rintro e w1 ⟨rfl, rfl⟩
  go_wp2_with fail
  go_quiet (fail)
  have HBQ := Lib.hid (below_drewN HBX.out nq)
  have x0 : ((w.alloc (.cells #[.int .i64 4, .int .i64 wd, .int .i64 flags, .slice (some ⟨ab, ao, none⟩) 2 ac, .int .u32 imm] 47)).drewN nq).cell? ⟨w.heap.size, 0, none⟩ = some (.int .i64 4) := by simp [go_sem]
  have xs : w.heap.size < ((w.alloc (.cells #[.int .i64 4, .int .i64 wd, .int .i64 flags, .slice (some ⟨ab, ao, none⟩) 2 ac, .int .u32 imm] 47)).drewN nq).heap.size := by simp
  generalize (w.alloc (.cells #[.int .i64 4, .int .i64 wd, .int .i64 flags, .slice (some ⟨ab, ao, none⟩) 2 ac, .int .u32 imm] 47)).drewN nq = wq at *
  go_wp2_with fail
  refine (NQ.out wq HBQ.out).mono ?_
  rintro e w2 ⟨rfl, hb2⟩
  have HB2 := Lib.hid (below_hop HBQ.out hb2)
  have y0 := below_cell hb2 xs x0
  have ys := hb2.size
  clear hb2 x0
  go_wp2_with fail
  refine (NP.out w2 HB2.out).mono ?_
  rintro e w3 ⟨rfl, hb3⟩
  have HBW := Lib.hid (below_hop HB2.out hb3)
  have z0 := below_cell hb3 (by omega) y0
  have zs := hb3.size
  clear hb3 y0
  have HCN := Lib.hid (CN.out w3 HBW.out)
  clear CN NP NQ HMK
  cases hpq : ((p : Int) == (q : Int))
  · have fe : ¬ tree o p = tree o q := fun h => by have := HTI.out h; subst this; simp at hpq
    have FE := Lib.hid fe
    clear fe
    go_wp2_with fail
    go_ret2
    exact idp_none (by unfold idG; simp [FE.out]) HBW.out
  · have h9 : (p : Int) = q := (by simpa using hpq)
    have epq : p = q := by omega
    clear h9
    have fe : tree o p = tree o q := by rw [epq]
    have FE := Lib.hid fe
    clear fe epq
    go_wp2_with fail
    go_ret2
    exact idp_none (by unfold idG; simp [FE.out]) HBW.out
set_option maxRecDepth 100000 in
set_option maxHeartbeats 4000000 in
theorem ident_5 (h : Bld bb o T w) (hg : Good o) (hpl : p < o.length) (hql : q < o.length) (hl : o.length ≤ 2000) (hav : Ints .i64 w (.slice aa 2 ac) [(p : Int), (q : Int)]) (h2 : w.cell? ⟨b2, 0, none⟩ = some (.pointer (some ⟨bb, 0, none⟩))) (h3 : w.cell? ⟨b3, 1, none⟩ = some (.int .i64 wd)) (hw : Sml wd) :
    Calls Try.prog 100 #[.pointer (some ⟨bb, 0, none⟩), .agg #[.int .i64 5, .int .i64 wd, .int .i64 flags, .slice aa 2 ac, .int .u32 imm], .func (.func 98) #[] #[.pointer (some ⟨b2, 0, none⟩), .pointer (some ⟨b3, 0, none⟩)]] w (IdPost bb o T w 5 wd p q) := by
  have HBL := Lib.hid h
  have HGD := Lib.hid hg
  have HRp := Lib.hid hpl
  have HRq := Lib.hid hql
  obtain ⟨ab, ao, rfl, hab, hcs⟩ := hav.row (by simp)
  have d0 : w.cell? ⟨ab, ao, none⟩ = some (.int .i64 (p : Int)) := hcs 0 (by simp)
  have d1 : w.cell? ⟨ab, ao + 1, none⟩ = some (.int .i64 (q : Int)) := hcs 1 (by simp)
  have H2 := Lib.hid h2
  have H3 := Lib.hid h3
  have HWS := Lib.hid hw
  have l2 := cell_lt h2
  have l3 := cell_lt h3
  have HTI : Hid (tree o p = tree o q → p = q) := fun e => tree_inj hg hpl hql e
  have KP : ((nd o p).imm : Int) = (tree o p).imm ∧ (nd o p).op = (tree o p).op := by rw [tree_eq hg.down hpl]; exact ⟨rfl, rfl⟩
  have KQ : ((nd o q).imm : Int) = (tree o q).imm ∧ (nd o q).op = (tree o q).op := by rw [tree_eq hg.down hql]; exact ⟨rfl, rfl⟩
  have HM0 : Hid (∀ x ∈ o, 0 ≤ x.imm) := fun x hx => by
    obtain ⟨W, R, nv, fv, avs, hT, hb⟩ := h
    exact ((hb.kn x hx).imm).1
  have hmp : 0 ≤ (nd o p).imm := HM0.out _ (mem_getD hpl)
  have hmq : 0 ≤ (nd o q).imm := HM0.out _ (mem_getD hql)
  have NQ : Hid (∀ W, Below w.heap.size w W → Calls Try.prog 99 #[.pointer (some ⟨bb, 0, none⟩), .int .i64 (q : Int)] W fun e w' => e = .returned (.tuple #[.int .u32 (nd o q).imm, .bool ((nd o q).op == 0)]) ∧ Below W.heap.size W w') := fun W hW => number_any bb o T W q (h.next hW) hql (by omega)
  have NP : Hid (∀ W, Below w.heap.size w W → Calls Try.prog 99 #[.pointer (some ⟨bb, 0, none⟩), .int .i64 (p : Int)] W fun e w' => e = .returned (.tuple #[.int .u32 (nd o p).imm, .bool ((nd o p).op == 0)]) ∧ Below W.heap.size W w') := fun W hW => number_any bb o T W p (h.next hW) hpl (by omega)
  have CN : Hid (∀ W, Below w.heap.size w W → Calls Try.prog 98 #[.int .u32 0, .pointer (some ⟨b2, 0, none⟩), .pointer (some ⟨b3, 0, none⟩)] W fun e w' => e = .returned (.int .i64 ((addN o ⟨0, wd, 0, [], 0⟩).2 : Int)) ∧
      ∃ T', Bld bb (addN o ⟨0, wd, 0, [], 0⟩).1 T' w' ∧ (∀ b, T' b → T b ∨ W.heap.size ≤ b) ∧ Chg T W w') := fun W hW => const_any bb b2 b3 o T W wd 0 (h.next hW) (below_cell hW l2 h2) (below_cell hW l3 h3) hw ⟨by omega, by omega⟩ (by omega)
  obtain ⟨m, hm⟩ : ∃ m, (nd o p).imm = m := ⟨_, rfl⟩
  obtain ⟨n, hn⟩ : ∃ n, (nd o q).imm = n := ⟨_, rfl⟩
  obtain ⟨lb, hlb⟩ : ∃ b, ((nd o p).op == 0) = b := ⟨_, rfl⟩
  obtain ⟨rb, hrb⟩ : ∃ b, ((nd o q).op == 0) = b := ⟨_, rfl⟩
  have Hm : Hid ((tree o p).imm = m) := by show _ = _; rw [← KP.1, hm]
  have Hn : Hid ((tree o q).imm = n) := by show _ = _; rw [← KQ.1, hn]
  have Hlb : Hid ((tree o p).op = 0 ↔ lb = true) := by show _ ↔ _; rw [← KP.2, ← hlb]; simp
  have Hrb : Hid ((tree o q).op = 0 ↔ rb = true) := by show _ ↔ _; rw [← KQ.2, ← hrb]; simp
  rw [hm] at hmp
  rw [hn] at hmq
  rw [hm, hlb] at NP
  rw [hn, hrb] at NQ
  clear hm hn hlb hrb KP KQ
  obtain ⟨ones, HON⟩ : ∃ ones, Hid (mkX wd = ones) := ⟨_, rfl⟩
  have HMK := Lib.hid (pMask wd)
  rw [HON.out] at HMK
  have hbx : Below w.heap.size w (w.alloc (.cells #[.int .i64 5, .int .i64 wd, .int .i64 flags, .slice (some ⟨ab, ao, none⟩) 2 ac, .int .u32 imm] 47)) := (Below.refl _ _).alloc (Nat.le_refl _) _
  have HBX := Lib.hid hbx
  have hpi : (0 : Int) ≤ p := by omega
  have hqi : (0 : Int) ≤ q := by omega
  clear h hg hpl hql hav hcs h2 h3 hw hbx HM0
  go_enter Try.func100, Try.ntmps100
  go_wp2_with fail
  refine (HMK.out _).mono ?_
  rintro e w1 ⟨rfl, rfl⟩
  go_wp2_with fail
  go_quiet (fail)
  have HBQ := Lib.hid (below_drewN HBX.out nq)
  have x0 : ((w.alloc (.cells #[.int .i64 5, .int .i64 wd, .int .i64 flags, .slice (some ⟨ab, ao, none⟩) 2 ac, .int .u32 imm] 47)).drewN nq).cell? ⟨w.heap.size, 0, none⟩ = some (.int .i64 5) := by simp [go_sem]
  have xs : w.heap.size < ((w.alloc (.cells #[.int .i64 5, .int .i64 wd, .int .i64 flags, .slice (some ⟨ab, ao, none⟩) 2 ac, .int .u32 imm] 47)).drewN nq).heap.size := by simp
  generalize (w.alloc (.cells #[.int .i64 5, .int .i64 wd, .int .i64 flags, .slice (some ⟨ab, ao, none⟩) 2 ac, .int .u32 imm] 47)).drewN nq = wq at *
  go_wp2_with fail
  refine (NQ.out wq HBQ.out).mono ?_
  rintro e w2 ⟨rfl, hb2⟩
  have HB2 := Lib.hid (below_hop HBQ.out hb2)
  have y0 := below_cell hb2 xs x0
  have ys := hb2.size
  clear hb2 x0
  go_wp2_with fail
  refine (NP.out w2 HB2.out).mono ?_
  rintro e w3 ⟨rfl, hb3⟩
  have HBW := Lib.hid (below_hop HB2.out hb3)
  have z0 := below_cell hb3 (by omega) y0
  have zs := hb3.size
  clear hb3 y0
  have HCN := Lib.hid (CN.out w3 HBW.out)
  clear CN NP NQ HMK
  cases hpq : ((p : Int) == (q : Int))
  · have fe : ¬ tree o p = tree o q := fun h => by have := HTI.out h; subst this; simp at hpq
    have FE := Lib.hid fe
    clear fe
    go_wp2_with fail
    go_ret2
    exact idp_none (by unfold idG; simp [FE.out]) HBW.out
  · have h9 : (p : Int) = q := (by simpa using hpq)
    have epq : p = q := by omega
    clear h9
    have fe : tree o p = tree o q := by rw [epq]
    have FE := Lib.hid fe
    clear fe epq
    go_wp2_with fail
    go_ret2
    exact idp_none (by unfold idG; simp [FE.out]) HBW.out
set_option maxRecDepth 100000 in
set_option maxHeartbeats 4000000 in
theorem ident_6 (h : Bld bb o T w) (hg : Good o) (hpl : p < o.length) (hql : q < o.length) (hl : o.length ≤ 2000) (hav : Ints .i64 w (.slice aa 2 ac) [(p : Int), (q : Int)]) (h2 : w.cell? ⟨b2, 0, none⟩ = some (.pointer (some ⟨bb, 0, none⟩))) (h3 : w.cell? ⟨b3, 1, none⟩ = some (.int .i64 wd)) (hw : Sml wd) :
    Calls Try.prog 100 #[.pointer (some ⟨bb, 0, none⟩), .agg #[.int .i64 6, .int .i64 wd, .int .i64 flags, .slice aa 2 ac, .int .u32 imm], .func (.func 98) #[] #[.pointer (some ⟨b2, 0, none⟩), .pointer (some ⟨b3, 0, none⟩)]] w (IdPost bb o T w 6 wd p q) := by
  have HBL := Lib.hid h
  have HGD := Lib.hid hg
  have HRp := Lib.hid hpl
  have HRq := Lib.hid hql
  obtain ⟨ab, ao, rfl, hab, hcs⟩ := hav.row (by simp)
  have d0 : w.cell? ⟨ab, ao, none⟩ = some (.int .i64 (p : Int)) := hcs 0 (by simp)
  have d1 : w.cell? ⟨ab, ao + 1, none⟩ = some (.int .i64 (q : Int)) := hcs 1 (by simp)
  have H2 := Lib.hid h2
  have H3 := Lib.hid h3
  have HWS := Lib.hid hw
  have l2 := cell_lt h2
  have l3 := cell_lt h3
  have HTI : Hid (tree o p = tree o q → p = q) := fun e => tree_inj hg hpl hql e
  have KP : ((nd o p).imm : Int) = (tree o p).imm ∧ (nd o p).op = (tree o p).op := by rw [tree_eq hg.down hpl]; exact ⟨rfl, rfl⟩
  have KQ : ((nd o q).imm : Int) = (tree o q).imm ∧ (nd o q).op = (tree o q).op := by rw [tree_eq hg.down hql]; exact ⟨rfl, rfl⟩
  have HM0 : Hid (∀ x ∈ o, 0 ≤ x.imm) := fun x hx => by
    obtain ⟨W, R, nv, fv, avs, hT, hb⟩ := h
    exact ((hb.kn x hx).imm).1
  have hmp : 0 ≤ (nd o p).imm := HM0.out _ (mem_getD hpl)
  have hmq : 0 ≤ (nd o q).imm := HM0.out _ (mem_getD hql)
  have NQ : Hid (∀ W, Below w.heap.size w W → Calls Try.prog 99 #[.pointer (some ⟨bb, 0, none⟩), .int .i64 (q : Int)] W fun e w' => e = .returned (.tuple #[.int .u32 (nd o q).imm, .bool ((nd o q).op == 0)]) ∧ Below W.heap.size W w') := fun W hW => number_any bb o T W q (h.next hW) hql (by omega)
  have NP : Hid (∀ W, Below w.heap.size w W → Calls Try.prog 99 #[.pointer (some ⟨bb, 0, none⟩), .int .i64 (p : Int)] W fun e w' => e = .returned (.tuple #[.int .u32 (nd o p).imm, .bool ((nd o p).op == 0)]) ∧ Below W.heap.size W w') := fun W hW => number_any bb o T W p (h.next hW) hpl (by omega)
  have CN : Hid (∀ W, Below w.heap.size w W → Calls Try.prog 98 #[.int .u32 0, .pointer (some ⟨b2, 0, none⟩), .pointer (some ⟨b3, 0, none⟩)] W fun e w' => e = .returned (.int .i64 ((addN o ⟨0, wd, 0, [], 0⟩).2 : Int)) ∧
      ∃ T', Bld bb (addN o ⟨0, wd, 0, [], 0⟩).1 T' w' ∧ (∀ b, T' b → T b ∨ W.heap.size ≤ b) ∧ Chg T W w') := fun W hW => const_any bb b2 b3 o T W wd 0 (h.next hW) (below_cell hW l2 h2) (below_cell hW l3 h3) hw ⟨by omega, by omega⟩ (by omega)
  obtain ⟨m, hm⟩ : ∃ m, (nd o p).imm = m := ⟨_, rfl⟩
  obtain ⟨n, hn⟩ : ∃ n, (nd o q).imm = n := ⟨_, rfl⟩
  obtain ⟨lb, hlb⟩ : ∃ b, ((nd o p).op == 0) = b := ⟨_, rfl⟩
  obtain ⟨rb, hrb⟩ : ∃ b, ((nd o q).op == 0) = b := ⟨_, rfl⟩
  have Hm : Hid ((tree o p).imm = m) := by show _ = _; rw [← KP.1, hm]
  have Hn : Hid ((tree o q).imm = n) := by show _ = _; rw [← KQ.1, hn]
  have Hlb : Hid ((tree o p).op = 0 ↔ lb = true) := by show _ ↔ _; rw [← KP.2, ← hlb]; simp
  have Hrb : Hid ((tree o q).op = 0 ↔ rb = true) := by show _ ↔ _; rw [← KQ.2, ← hrb]; simp
  rw [hm] at hmp
  rw [hn] at hmq
  rw [hm, hlb] at NP
  rw [hn, hrb] at NQ
  clear hm hn hlb hrb KP KQ
  obtain ⟨ones, HON⟩ : ∃ ones, Hid (mkX wd = ones) := ⟨_, rfl⟩
  have HMK := Lib.hid (pMask wd)
  rw [HON.out] at HMK
  have hbx : Below w.heap.size w (w.alloc (.cells #[.int .i64 6, .int .i64 wd, .int .i64 flags, .slice (some ⟨ab, ao, none⟩) 2 ac, .int .u32 imm] 47)) := (Below.refl _ _).alloc (Nat.le_refl _) _
  have HBX := Lib.hid hbx
  have hpi : (0 : Int) ≤ p := by omega
  have hqi : (0 : Int) ≤ q := by omega
  clear h hg hpl hql hav hcs h2 h3 hw hbx HM0
  go_enter Try.func100, Try.ntmps100
  go_wp2_with fail
  refine (HMK.out _).mono ?_
  rintro e w1 ⟨rfl, rfl⟩
  go_wp2_with fail
  go_quiet (fail)
  have HBQ := Lib.hid (below_drewN HBX.out nq)
  have x0 : ((w.alloc (.cells #[.int .i64 6, .int .i64 wd, .int .i64 flags, .slice (some ⟨ab, ao, none⟩) 2 ac, .int .u32 imm] 47)).drewN nq).cell? ⟨w.heap.size, 0, none⟩ = some (.int .i64 6) := by simp [go_sem]
  have xs : w.heap.size < ((w.alloc (.cells #[.int .i64 6, .int .i64 wd, .int .i64 flags, .slice (some ⟨ab, ao, none⟩) 2 ac, .int .u32 imm] 47)).drewN nq).heap.size := by simp
  generalize (w.alloc (.cells #[.int .i64 6, .int .i64 wd, .int .i64 flags, .slice (some ⟨ab, ao, none⟩) 2 ac, .int .u32 imm] 47)).drewN nq = wq at *
  go_wp2_with fail
  refine (NQ.out wq HBQ.out).mono ?_
  rintro e w2 ⟨rfl, hb2⟩
  have HB2 := Lib.hid (below_hop HBQ.out hb2)
  have y0 := below_cell hb2 xs x0
  have ys := hb2.size
  clear hb2 x0
  go_wp2_with fail
  refine (NP.out w2 HB2.out).mono ?_
  rintro e w3 ⟨rfl, hb3⟩
  have HBW := Lib.hid (below_hop HB2.out hb3)
  have z0 := below_cell hb3 (by omega) y0
  have zs := hb3.size
  clear hb3 y0
  have HCN := Lib.hid (CN.out w3 HBW.out)
  clear CN NP NQ HMK
  cases hpq : ((p : Int) == (q : Int))
  · have fe : ¬ tree o p = tree o q := fun h => by have := HTI.out h; subst this; simp at hpq
    have FE := Lib.hid fe
    clear fe
    go_wp2_with fail
    go_ret2
    exact idp_none (by unfold idG; simp [FE.out]) HBW.out
  · have h9 : (p : Int) = q := (by simpa using hpq)
    have epq : p = q := by omega
    clear h9
    have fe : tree o p = tree o q := by rw [epq]
    have FE := Lib.hid fe
    clear fe epq
    go_wp2_with fail
    go_ret2
    exact idp_none (by unfold idG; simp [FE.out]) HBW.out
set_option maxRecDepth 100000 in
set_option maxHeartbeats 4000000 in
theorem ident_7 (h : Bld bb o T w) (hg : Good o) (hpl : p < o.length) (hql : q < o.length) (hl : o.length ≤ 2000) (hav : Ints .i64 w (.slice aa 2 ac) [(p : Int), (q : Int)]) (h2 : w.cell? ⟨b2, 0, none⟩ = some (.pointer (some ⟨bb, 0, none⟩))) (h3 : w.cell? ⟨b3, 1, none⟩ = some (.int .i64 wd)) (hw : Sml wd) :
    Calls Try.prog 100 #[.pointer (some ⟨bb, 0, none⟩), .agg #[.int .i64 7, .int .i64 wd, .int .i64 flags, .slice aa 2 ac, .int .u32 imm], .func (.func 98) #[] #[.pointer (some ⟨b2, 0, none⟩), .pointer (some ⟨b3, 0, none⟩)]] w (IdPost bb o T w 7 wd p q) := by
  have HBL := Lib.hid h
  have HGD := Lib.hid hg
  have HRp := Lib.hid hpl
  have HRq := Lib.hid hql
  obtain ⟨ab, ao, rfl, hab, hcs⟩ := hav.row (by simp)
  have d0 : w.cell? ⟨ab, ao, none⟩ = some (.int .i64 (p : Int)) := hcs 0 (by simp)
  have d1 : w.cell? ⟨ab, ao + 1, none⟩ = some (.int .i64 (q : Int)) := hcs 1 (by simp)
  have H2 := Lib.hid h2
  have H3 := Lib.hid h3
  have HWS := Lib.hid hw
  have l2 := cell_lt h2
  have l3 := cell_lt h3
  have HTI : Hid (tree o p = tree o q → p = q) := fun e => tree_inj hg hpl hql e
  have KP : ((nd o p).imm : Int) = (tree o p).imm ∧ (nd o p).op = (tree o p).op := by rw [tree_eq hg.down hpl]; exact ⟨rfl, rfl⟩
  have KQ : ((nd o q).imm : Int) = (tree o q).imm ∧ (nd o q).op = (tree o q).op := by rw [tree_eq hg.down hql]; exact ⟨rfl, rfl⟩
  have HM0 : Hid (∀ x ∈ o, 0 ≤ x.imm) := fun x hx => by
    obtain ⟨W, R, nv, fv, avs, hT, hb⟩ := h
    exact ((hb.kn x hx).imm).1
  have hmp : 0 ≤ (nd o p).imm := HM0.out _ (mem_getD hpl)
  have hmq : 0 ≤ (nd o q).imm := HM0.out _ (mem_getD hql)
  have NQ : Hid (∀ W, Below w.heap.size w W → Calls Try.prog 99 #[.pointer (some ⟨bb, 0, none⟩), .int .i64 (q : Int)] W fun e w' => e = .returned (.tuple #[.int .u32 (nd o q).imm, .bool ((nd o q).op == 0)]) ∧ Below W.heap.size W w') := fun W hW => number_any bb o T W q (h.next hW) hql (by omega)
  have NP : Hid (∀ W, Below w.heap.size w W → Calls Try.prog 99 #[.pointer (some ⟨bb, 0, none⟩), .int .i64 (p : Int)] W fun e w' => e = .returned (.tuple #[.int .u32 (nd o p).imm, .bool ((nd o p).op == 0)]) ∧ Below W.heap.size W w') := fun W hW => number_any bb o T W p (h.next hW) hpl (by omega)
  have CN : Hid (∀ W, Below w.heap.size w W → Calls Try.prog 98 #[.int .u32 0, .pointer (some ⟨b2, 0, none⟩), .pointer (some ⟨b3, 0, none⟩)] W fun e w' => e = .returned (.int .i64 ((addN o ⟨0, wd, 0, [], 0⟩).2 : Int)) ∧
      ∃ T', Bld bb (addN o ⟨0, wd, 0, [], 0⟩).1 T' w' ∧ (∀ b, T' b → T b ∨ W.heap.size ≤ b) ∧ Chg T W w') := fun W hW => const_any bb b2 b3 o T W wd 0 (h.next hW) (below_cell hW l2 h2) (below_cell hW l3 h3) hw ⟨by omega, by omega⟩ (by omega)
  obtain ⟨m, hm⟩ : ∃ m, (nd o p).imm = m := ⟨_, rfl⟩
  obtain ⟨n, hn⟩ : ∃ n, (nd o q).imm = n := ⟨_, rfl⟩
  obtain ⟨lb, hlb⟩ : ∃ b, ((nd o p).op == 0) = b := ⟨_, rfl⟩
  obtain ⟨rb, hrb⟩ : ∃ b, ((nd o q).op == 0) = b := ⟨_, rfl⟩
  have Hm : Hid ((tree o p).imm = m) := by show _ = _; rw [← KP.1, hm]
  have Hn : Hid ((tree o q).imm = n) := by show _ = _; rw [← KQ.1, hn]
  have Hlb : Hid ((tree o p).op = 0 ↔ lb = true) := by show _ ↔ _; rw [← KP.2, ← hlb]; simp
  have Hrb : Hid ((tree o q).op = 0 ↔ rb = true) := by show _ ↔ _; rw [← KQ.2, ← hrb]; simp
  rw [hm] at hmp
  rw [hn] at hmq
  rw [hm, hlb] at NP
  rw [hn, hrb] at NQ
  clear hm hn hlb hrb KP KQ
  obtain ⟨ones, HON⟩ : ∃ ones, Hid (mkX wd = ones) := ⟨_, rfl⟩
  have HMK := Lib.hid (pMask wd)
  rw [HON.out] at HMK
  have hbx : Below w.heap.size w (w.alloc (.cells #[.int .i64 7, .int .i64 wd, .int .i64 flags, .slice (some ⟨ab, ao, none⟩) 2 ac, .int .u32 imm] 47)) := (Below.refl _ _).alloc (Nat.le_refl _) _
  have HBX := Lib.hid hbx
  have hpi : (0 : Int) ≤ p := by omega
  have hqi : (0 : Int) ≤ q := by omega
  clear h hg hpl hql hav hcs h2 h3 hw hbx HM0
  go_enter Try.func100, Try.ntmps100
  go_wp2_with fail
  refine (HMK.out _).mono ?_
  rintro e w1 ⟨rfl, rfl⟩
  go_wp2_with fail
  go_quiet (fail)
  have HBQ := Lib.hid (below_drewN HBX.out nq)
  have x0 : ((w.alloc (.cells #[.int .i64 7, .int .i64 wd, .int .i64 flags, .slice (some ⟨ab, ao, none⟩) 2 ac, .int .u32 imm] 47)).drewN nq).cell? ⟨w.heap.size, 0, none⟩ = some (.int .i64 7) := by simp [go_sem]
  have xs : w.heap.size < ((w.alloc (.cells #[.int .i64 7, .int .i64 wd, .int .i64 flags, .slice (some ⟨ab, ao, none⟩) 2 ac, .int .u32 imm] 47)).drewN nq).heap.size := by simp
  generalize (w.alloc (.cells #[.int .i64 7, .int .i64 wd, .int .i64 flags, .slice (some ⟨ab, ao, none⟩) 2 ac, .int .u32 imm] 47)).drewN nq = wq at *
  go_wp2_with fail
  refine (NQ.out wq HBQ.out).mono ?_
  rintro e w2 ⟨rfl, hb2⟩
  have HB2 := Lib.hid (below_hop HBQ.out hb2)
  have y0 := below_cell hb2 xs x0
  have ys := hb2.size
  clear hb2 x0
  go_wp2_with fail
  refine (NP.out w2 HB2.out).mono ?_
  rintro e w3 ⟨rfl, hb3⟩
  have HBW := Lib.hid (below_hop HB2.out hb3)
  have z0 := below_cell hb3 (by omega) y0
  have zs := hb3.size
  clear hb3 y0
  have HCN := Lib.hid (CN.out w3 HBW.out)
  clear CN NP NQ HMK
  cases hpq : ((p : Int) == (q : Int))
  · have fe : ¬ tree o p = tree o q := fun h => by have := HTI.out h; subst this; simp at hpq
    have FE := Lib.hid fe
    clear fe
    go_wp2_with fail
    go_ret2
    exact idp_none (by unfold idG; simp [FE.out]) HBW.out
  · have h9 : (p : Int) = q := (by simpa using hpq)
    have epq : p = q := by omega
    clear h9
    have fe : tree o p = tree o q := by rw [epq]
    have FE := Lib.hid fe
    clear fe epq
    go_wp2_with fail
    go_ret2
    exact idp_none (by unfold idG; simp [FE.out]) HBW.out
set_option maxRecDepth 100000 in
set_option maxHeartbeats 4000000 in
theorem ident_8 (h : Bld bb o T w) (hg : Good o) (hpl : p < o.length) (hql : q < o.length) (hl : o.length ≤ 2000) (hav : Ints .i64 w (.slice aa 2 ac) [(p : Int), (q : Int)]) (h2 : w.cell? ⟨b2, 0, none⟩ = some (.pointer (some ⟨bb, 0, none⟩))) (h3 : w.cell? ⟨b3, 1, none⟩ = some (.int .i64 wd)) (hw : Sml wd) :
    Calls Try.prog 100 #[.pointer (some ⟨bb, 0, none⟩), .agg #[.int .i64 8, .int .i64 wd, .int .i64 flags, .slice aa 2 ac, .int .u32 imm], .func (.func 98) #[] #[.pointer (some ⟨b2, 0, none⟩), .pointer (some ⟨b3, 0, none⟩)]] w (IdPost bb o T w 8 wd p q) := by
  have HBL := Lib.hid h
  have HGD := Lib.hid hg
  have HRp := Lib.hid hpl
  have HRq := Lib.hid hql
  obtain ⟨ab, ao, rfl, hab, hcs⟩ := hav.row (by simp)
  have d0 : w.cell? ⟨ab, ao, none⟩ = some (.int .i64 (p : Int)) := hcs 0 (by simp)
  have d1 : w.cell? ⟨ab, ao + 1, none⟩ = some (.int .i64 (q : Int)) := hcs 1 (by simp)
  have H2 := Lib.hid h2
  have H3 := Lib.hid h3
  have HWS := Lib.hid hw
  have l2 := cell_lt h2
  have l3 := cell_lt h3
  have HTI : Hid (tree o p = tree o q → p = q) := fun e => tree_inj hg hpl hql e
  have KP : ((nd o p).imm : Int) = (tree o p).imm ∧ (nd o p).op = (tree o p).op := by rw [tree_eq hg.down hpl]; exact ⟨rfl, rfl⟩
  have KQ : ((nd o q).imm : Int) = (tree o q).imm ∧ (nd o q).op = (tree o q).op := by rw [tree_eq hg.down hql]; exact ⟨rfl, rfl⟩
  have HM0 : Hid (∀ x ∈ o, 0 ≤ x.imm) := fun x hx => by
    obtain ⟨W, R, nv, fv, avs, hT, hb⟩ := h
    exact ((hb.kn x hx).imm).1
  have hmp : 0 ≤ (nd o p).imm := HM0.out _ (mem_getD hpl)
  have hmq : 0 ≤ (nd o q).imm := HM0.out _ (mem_getD hql)
  have NQ : Hid (∀ W, Below w.heap.size w W → Calls Try.prog 99 #[.pointer (some ⟨bb, 0, none⟩), .int .i64 (q : Int)] W fun e w' => e = .returned (.tuple #[.int .u32 (nd o q).imm, .bool ((nd o q).op == 0)]) ∧ Below W.heap.size W w') := fun W hW => number_any bb o T W q (h.next hW) hql (by omega)
  have NP : Hid (∀ W, Below w.heap.size w W → Calls Try.prog 99 #[.pointer (some ⟨bb, 0, none⟩), .int .i64 (p : Int)] W fun e w' => e = .returned (.tuple #[.int .u32 (nd o p).imm, .bool ((nd o p).op == 0)]) ∧ Below W.heap.size W w') := fun W hW => number_any bb o T W p (h.next hW) hpl (by omega)
  have CN : Hid (∀ W, Below w.heap.size w W → Calls Try.prog 98 #[.int .u32 0, .pointer (some ⟨b2, 0, none⟩), .pointer (some ⟨b3, 0, none⟩)] W fun e w' => e = .returned (.int .i64 ((addN o ⟨0, wd, 0, [], 0⟩).2 : Int)) ∧
      ∃ T', Bld bb (addN o ⟨0, wd, 0, [], 0⟩).1 T' w' ∧ (∀ b, T' b → T b ∨ W.heap.size ≤ b) ∧ Chg T W w') := fun W hW => const_any bb b2 b3 o T W wd 0 (h.next hW) (below_cell hW l2 h2) (below_cell hW l3 h3) hw ⟨by omega, by omega⟩ (by omega)
  obtain ⟨m, hm⟩ : ∃ m, (nd o p).imm = m := ⟨_, rfl⟩
  obtain ⟨n, hn⟩ : ∃ n, (nd o q).imm = n := ⟨_, rfl⟩
  obtain ⟨lb, hlb⟩ : ∃ b, ((nd o p).op == 0) = b := ⟨_, rfl⟩
  obtain ⟨rb, hrb⟩ : ∃ b, ((nd o q).op == 0) = b := ⟨_, rfl⟩
  have Hm : Hid ((tree o p).imm = m) := by show _ = _; rw [← KP.1, hm]
  have Hn : Hid ((tree o q).imm = n) := by show _ = _; rw [← KQ.1, hn]
  have Hlb : Hid ((tree o p).op = 0 ↔ lb = true) := by show _ ↔ _; rw [← KP.2, ← hlb]; simp
  have Hrb : Hid ((tree o q).op = 0 ↔ rb = true) := by show _ ↔ _; rw [← KQ.2, ← hrb]; simp
  rw [hm] at hmp
  rw [hn] at hmq
  rw [hm, hlb] at NP
  rw [hn, hrb] at NQ
  clear hm hn hlb hrb KP KQ
  obtain ⟨ones, HON⟩ : ∃ ones, Hid (mkX wd = ones) := ⟨_, rfl⟩
  have HMK := Lib.hid (pMask wd)
  rw [HON.out] at HMK
  have hbx : Below w.heap.size w (w.alloc (.cells #[.int .i64 8, .int .i64 wd, .int .i64 flags, .slice (some ⟨ab, ao, none⟩) 2 ac, .int .u32 imm] 47)) := (Below.refl _ _).alloc (Nat.le_refl _) _
  have HBX := Lib.hid hbx
  have hpi : (0 : Int) ≤ p := by omega
  have hqi : (0 : Int) ≤ q := by omega
  clear h hg hpl hql hav hcs h2 h3 hw hbx HM0
  go_enter Try.func100, Try.ntmps100
  go_wp2_with fail
  refine (HMK.out _).mono ?_
  rintro e w1 ⟨rfl, rfl⟩
  go_wp2_with fail
  go_quiet (fail)
  have HBQ := Lib.hid (below_drewN HBX.out nq)
  have x0 : ((w.alloc (.cells #[.int .i64 8, .int .i64 wd, .int .i64 flags, .slice (some ⟨ab, ao, none⟩) 2 ac, .int .u32 imm] 47)).drewN nq).cell? ⟨w.heap.size, 0, none⟩ = some (.int .i64 8) := by simp [go_sem]
  have xs : w.heap.size < ((w.alloc (.cells #[.int .i64 8, .int .i64 wd, .int .i64 flags, .slice (some ⟨ab, ao, none⟩) 2 ac, .int .u32 imm] 47)).drewN nq).heap.size := by simp
  generalize (w.alloc (.cells #[.int .i64 8, .int .i64 wd, .int .i64 flags, .slice (some ⟨ab, ao, none⟩) 2 ac, .int .u32 imm] 47)).drewN nq = wq at *
  go_wp2_with fail
  refine (NQ.out wq HBQ.out).mono ?_
  rintro e w2 ⟨rfl, hb2⟩
  have HB2 := Lib.hid (below_hop HBQ.out hb2)
  have y0 := below_cell hb2 xs x0
  have ys := hb2.size
  clear hb2 x0
  go_wp2_with fail
  refine (NP.out w2 HB2.out).mono ?_
  rintro e w3 ⟨rfl, hb3⟩
  have HBW := Lib.hid (below_hop HB2.out hb3)
  have z0 := below_cell hb3 (by omega) y0
  have zs := hb3.size
  clear hb3 y0
  have HCN := Lib.hid (CN.out w3 HBW.out)
  clear CN NP NQ HMK
  cases lb
  · have flb : ¬ (tree o p).op = 0 := fun h => by have := Hlb.out.1 h; cases this
    have Flb := Lib.hid flb
    clear flb
    cases rb
    · have frb : ¬ (tree o q).op = 0 := fun h => by have := Hrb.out.1 h; cases this
      have Frb := Lib.hid frb
      clear frb
      cases hpq : ((p : Int) == (q : Int))
      · have fe : ¬ tree o p = tree o q := fun h => by have := HTI.out h; subst this; simp at hpq
        have FE := Lib.hid fe
        clear fe
        go_wp2_with fail
        go_ret2
        exact idp_none (by unfold idG; simp [Flb.out, Frb.out, FE.out]) HBW.out
      · have h9 : (p : Int) = q := (by simpa using hpq)
        have epq : p = q := by omega
        clear h9
        have fe : tree o p = tree o q := by rw [epq]
        have FE := Lib.hid fe
        clear fe epq
        go_wp2_with fail
        go_ret2
        have HID : idG 8 wd (tree o p) (tree o q) = some (tree o p) := by unfold idG; simp [Flb.out, Frb.out, FE.out]
        first | exact idp_p (r := p) HBL.out HGD.out HRp.out HID HBW.out | exact idp_p (r := p) HBL.out HGD.out HRp.out HID (HBW.out.alloc HBW.out.size _)
    · have Frb := Lib.hid (Hrb.out.2 rfl)
      cases hn : (n == 0)
      · have Fn : Hid (¬ (tree o q).imm = 0) := by show ¬ _; rw [Hn.out]; simpa using hn
        have h9 : ¬ n = 0 := (by simpa using hn)
        have hn0 : 1 ≤ n := by omega
        clear h9
        cases hon : (n == ones)
        · have Fno : Hid (¬ (tree o q).imm = mkX wd) := by show ¬ _; rw [Hn.out, HON.out]; simpa using hon
          clear hn0
          cases hpq : ((p : Int) == (q : Int))
          · have fe : ¬ tree o p = tree o q := fun h => by have := HTI.out h; subst this; simp at hpq
            have FE := Lib.hid fe
            clear fe
            go_wp2_with fail
            go_ret2
            exact idp_none (by unfold idG; simp [Flb.out, Frb.out, Fn.out, Fno.out, FE.out]) HBW.out
          · have h9 : (p : Int) = q := (by simpa using hpq)
            have epq : p = q := by omega
            clear h9
            have fe : tree o p = tree o q := by rw [epq]
            have FE := Lib.hid fe
            clear fe epq
            go_wp2_with fail
            go_ret2
            have HID : idG 8 wd (tree o p) (tree o q) = some (tree o p) := by unfold idG; simp [Flb.out, Frb.out, Fn.out, Fno.out, FE.out]
            first | exact idp_p (r := p) HBL.out HGD.out HRp.out HID HBW.out | exact idp_p (r := p) HBL.out HGD.out HRp.out HID (HBW.out.alloc HBW.out.size _)
        · have Fno : Hid ((tree o q).imm = mkX wd) := by show _ = _; rw [Hn.out, HON.out]; simpa using hon
          have FM : Hid (¬ mkX wd = 0) := by show ¬ _; rw [← Fno.out]; exact Fn.out
          by_cases hle : n ≤ 1
          · obtain rfl : n = 1 := by omega
            go_wp2_with fail
            go_ret2
            have HID : idG 8 wd (tree o p) (tree o q) = some (tree o p) := by unfold idG; simp [Flb.out, Frb.out, Fno.out, FM.out]
            first | exact idp_p (r := p) HBL.out HGD.out HRp.out HID HBW.out | exact idp_p (r := p) HBL.out HGD.out HRp.out HID (HBW.out.alloc HBW.out.size _)
          · clear hn0
            go_wp2_with fail
            go_ret2
            have HID : idG 8 wd (tree o p) (tree o q) = some (tree o p) := by unfold idG; simp [Flb.out, Frb.out, Fno.out, FM.out]
            first | exact idp_p (r := p) HBL.out HGD.out HRp.out HID HBW.out | exact idp_p (r := p) HBL.out HGD.out HRp.out HID (HBW.out.alloc HBW.out.size _)
      · have Fn : Hid ((tree o q).imm = 0) := by show _ = _; rw [Hn.out]; simpa using hn
        have en : n = 0 := by simpa using hn
        subst en
        go_wp2_with fail
        go_ret2
        have HID : idG 8 wd (tree o p) (tree o q) = some (tree o q) := by unfold idG; simp [Flb.out, Frb.out, Fn.out]
        first | exact idp_p (r := q) HBL.out HGD.out HRq.out HID HBW.out | exact idp_p (r := q) HBL.out HGD.out HRq.out HID (HBW.out.alloc HBW.out.size _)
  · have Flb := Lib.hid (Hlb.out.2 rfl)
    cases hm : (m == 0)
    · have Fm : Hid (¬ (tree o p).imm = 0) := by show ¬ _; rw [Hm.out]; simpa using hm
      have h9 : ¬ m = 0 := (by simpa using hm)
      have hn0 : 1 ≤ m := by omega
      clear h9
      cases hom : (m == ones)
      · have Fmo : Hid (¬ (tree o p).imm = mkX wd) := by show ¬ _; rw [Hm.out, HON.out]; simpa using hom
        clear hn0
        cases rb
        · have frb : ¬ (tree o q).op = 0 := fun h => by have := Hrb.out.1 h; cases this
          have Frb := Lib.hid frb
          clear frb
          cases hpq : ((p : Int) == (q : Int))
          · have fe : ¬ tree o p = tree o q := fun h => by have := HTI.out h; subst this; simp at hpq
            have FE := Lib.hid fe
            clear fe
            go_wp2_with fail
            go_ret2
            exact idp_none (by unfold idG; simp [Flb.out, Fm.out, Fmo.out, Frb.out, FE.out]) HBW.out
          · have h9 : (p : Int) = q := (by simpa using hpq)
            have epq : p = q := by omega
            clear h9
            have fe : tree o p = tree o q := by rw [epq]
            have FE := Lib.hid fe
            clear fe epq
            go_wp2_with fail
            go_ret2
            have HID : idG 8 wd (tree o p) (tree o q) = some (tree o p) := by unfold idG; simp [Flb.out, Fm.out, Fmo.out, Frb.out, FE.out]
            first | exact idp_p (r := p) HBL.out HGD.out HRp.out HID HBW.out | exact idp_p (r := p) HBL.out HGD.out HRp.out HID (HBW.out.alloc HBW.out.size _)
        · have Frb := Lib.hid (Hrb.out.2 rfl)
          cases hn : (n == 0)
          · have Fn : Hid (¬ (tree o q).imm = 0) := by show ¬ _; rw [Hn.out]; simpa using hn
            have h9 : ¬ n = 0 := (by simpa using hn)
            have hn0 : 1 ≤ n := by omega
            clear h9
            cases hon : (n == ones)
            · have Fno : Hid (¬ (tree o q).imm = mkX wd) := by show ¬ _; rw [Hn.out, HON.out]; simpa using hon
              clear hn0
              cases hpq : ((p : Int) == (q : Int))
              · have fe : ¬ tree o p = tree o q := fun h => by have := HTI.out h; subst this; simp at hpq
                have FE := Lib.hid fe
                clear fe
                go_wp2_with fail
                go_ret2
                exact idp_none (by unfold idG; simp [Flb.out, Fm.out, Fmo.out, Frb.out, Fn.out, Fno.out, FE.out]) HBW.out
              · have h9 : (p : Int) = q := (by simpa using hpq)
                have epq : p = q := by omega
                clear h9
                have fe : tree o p = tree o q := by rw [epq]
                have FE := Lib.hid fe
                clear fe epq
                go_wp2_with fail
                go_ret2
                have HID : idG 8 wd (tree o p) (tree o q) = some (tree o p) := by unfold idG; simp [Flb.out, Fm.out, Fmo.out, Frb.out, Fn.out, Fno.out, FE.out]
                first | exact idp_p (r := p) HBL.out HGD.out HRp.out HID HBW.out | exact idp_p (r := p) HBL.out HGD.out HRp.out HID (HBW.out.alloc HBW.out.size _)
            · have Fno : Hid ((tree o q).imm = mkX wd) := by show _ = _; rw [Hn.out, HON.out]; simpa using hon
              have FM : Hid (¬ mkX wd = 0) := by show ¬ _; rw [← Fno.out]; exact Fn.out
              by_cases hle : n ≤ 1
              · obtain rfl : n = 1 := by omega
                go_wp2_with fail
                go_ret2
                have HID : idG 8 wd (tree o p) (tree o q) = some (tree o p) := by unfold idG; simp [Flb.out, Fm.out, Fmo.out, Frb.out, Fno.out, FM.out]
                first | exact idp_p (r := p) HBL.out HGD.out HRp.out HID HBW.out | exact idp_p (r := p) HBL.out HGD.out HRp.out HID (HBW.out.alloc HBW.out.size _)
              · clear hn0
                go_wp2_with fail
                go_ret2
                have HID : idG 8 wd (tree o p) (tree o q) = some (tree o p) := by unfold idG; simp [Flb.out, Fm.out, Fmo.out, Frb.out, Fno.out, FM.out]
                first | exact idp_p (r := p) HBL.out HGD.out HRp.out HID HBW.out | exact idp_p (r := p) HBL.out HGD.out HRp.out HID (HBW.out.alloc HBW.out.size _)
          · have Fn : Hid ((tree o q).imm = 0) := by show _ = _; rw [Hn.out]; simpa using hn
            have en : n = 0 := by simpa using hn
            subst en
            go_wp2_with fail
            go_ret2
            have HID : idG 8 wd (tree o p) (tree o q) = some (tree o q) := by unfold idG; simp [Flb.out, Fm.out, Fmo.out, Frb.out, Fn.out]
            first | exact idp_p (r := q) HBL.out HGD.out HRq.out HID HBW.out | exact idp_p (r := q) HBL.out HGD.out HRq.out HID (HBW.out.alloc HBW.out.size _)
      · have Fmo : Hid ((tree o p).imm = mkX wd) := by show _ = _; rw [Hm.out, HON.out]; simpa using hom
        have FM : Hid (¬ mkX wd = 0) := by show ¬ _; rw [← Fmo.out]; exact Fm.out
        by_cases hle : m ≤ 1
        · obtain rfl : m = 1 := by omega
          go_wp2_with fail
          go_ret2
          have HID : idG 8 wd (tree o p) (tree o q) = some (tree o q) := by unfold idG; simp [Flb.out, Fmo.out, FM.out]
          first | exact idp_p (r := q) HBL.out HGD.out HRq.out HID HBW.out | exact idp_p (r := q) HBL.out HGD.out HRq.out HID (HBW.out.alloc HBW.out.size _)
        · clear hn0
          go_wp2_with fail
          go_ret2
          have HID : idG 8 wd (tree o p) (tree o q) = some (tree o q) := by unfold idG; simp [Flb.out, Fmo.out, FM.out]
          first | exact idp_p (r := q) HBL.out HGD.out HRq.out HID HBW.out | exact idp_p (r := q) HBL.out HGD.out HRq.out HID (HBW.out.alloc HBW.out.size _)
    · have Fm : Hid ((tree o p).imm = 0) := by show _ = _; rw [Hm.out]; simpa using hm
      have em : m = 0 := by simpa using hm
      subst em
      go_wp2_with fail
      go_ret2
      have HID : idG 8 wd (tree o p) (tree o q) = some (tree o p) := by unfold idG; simp [Flb.out, Fm.out]
      first | exact idp_p (r := p) HBL.out HGD.out HRp.out HID HBW.out | exact idp_p (r := p) HBL.out HGD.out HRp.out HID (HBW.out.alloc HBW.out.size _)
set_option maxRecDepth 100000 in
set_option maxHeartbeats 4000000 in
theorem ident_9 (h : Bld bb o T w) (hg : Good o) (hpl : p < o.length) (hql : q < o.length) (hl : o.length ≤ 2000) (hav : Ints .i64 w (.slice aa 2 ac) [(p : Int), (q : Int)]) (h2 : w.cell? ⟨b2, 0, none⟩ = some (.pointer (some ⟨bb, 0, none⟩))) (h3 : w.cell? ⟨b3, 1, none⟩ = some (.int .i64 wd)) (hw : Sml wd) :
    Calls Try.prog 100 #[.pointer (some ⟨bb, 0, none⟩), .agg #[.int .i64 9, .int .i64 wd, .int .i64 flags, .slice aa 2 ac, .int .u32 imm], .func (.func 98) #[] #[.pointer (some ⟨b2, 0, none⟩), .pointer (some ⟨b3, 0, none⟩)]] w (IdPost bb o T w 9 wd p q) := by
  have HBL := Lib.hid h
  have HGD := Lib.hid hg
  have HRp := Lib.hid hpl
  have HRq := Lib.hid hql
  obtain ⟨ab, ao, rfl, hab, hcs⟩ := hav.row (by simp)
  have d0 : w.cell? ⟨ab, ao, none⟩ = some (.int .i64 (p : Int)) := hcs 0 (by simp)
  have d1 : w.cell? ⟨ab, ao + 1, none⟩ = some (.int .i64 (q : Int)) := hcs 1 (by simp)
  have H2 := Lib.hid h2
  have H3 := Lib.hid h3
  have HWS := Lib.hid hw
  have l2 := cell_lt h2
  have l3 := cell_lt h3
  have HTI : Hid (tree o p = tree o q → p = q) := fun e => tree_inj hg hpl hql e
  have KP : ((nd o p).imm : Int) = (tree o p).imm ∧ (nd o p).op = (tree o p).op := by rw [tree_eq hg.down hpl]; exact ⟨rfl, rfl⟩
  have KQ : ((nd o q).imm : Int) = (tree o q).imm ∧ (nd o q).op = (tree o q).op := by rw [tree_eq hg.down hql]; exact ⟨rfl, rfl⟩
  have HM0 : Hid (∀ x ∈ o, 0 ≤ x.imm) := fun x hx => by
    obtain ⟨W, R, nv, fv, avs, hT, hb⟩ := h
    exact ((hb.kn x hx).imm).1
  have hmp : 0 ≤ (nd o p).imm := HM0.out _ (mem_getD hpl)
  have hmq : 0 ≤ (nd o q).imm := HM0.out _ (mem_getD hql)
  have NQ : Hid (∀ W, Below w.heap.size w W → Calls Try.prog 99 #[.pointer (some ⟨bb, 0, none⟩), .int .i64 (q : Int)] W fun e w' => e = .returned (.tuple #[.int .u32 (nd o q).imm, .bool ((nd o q).op == 0)]) ∧ Below W.heap.size W w') := fun W hW => number_any bb o T W q (h.next hW) hql (by omega)
  have NP : Hid (∀ W, Below w.heap.size w W → Calls Try.prog 99 #[.pointer (some ⟨bb, 0, none⟩), .int .i64 (p : Int)] W fun e w' => e = .returned (.tuple #[.int .u32 (nd o p).imm, .bool ((nd o p).op == 0)]) ∧ Below W.heap.size W w') := fun W hW => number_any bb o T W p (h.next hW) hpl (by omega)
  have CN : Hid (∀ W, Below w.heap.size w W → Calls Try.prog 98 #[.int .u32 0, .pointer (some ⟨b2, 0, none⟩), .pointer (some ⟨b3, 0, none⟩)] W fun e w' => e = .returned (.int .i64 ((addN o ⟨0, wd, 0, [], 0⟩).2 : Int)) ∧
      ∃ T', Bld bb (addN o ⟨0, wd, 0, [], 0⟩).1 T' w' ∧ (∀ b, T' b → T b ∨ W.heap.size ≤ b) ∧ Chg T W w') := fun W hW => const_any bb b2 b3 o T W wd 0 (h.next hW) (below_cell hW l2 h2) (below_cell hW l3 h3) hw ⟨by omega, by omega⟩ (by omega)
  obtain ⟨m, hm⟩ : ∃ m, (nd o p).imm = m := ⟨_, rfl⟩
  obtain ⟨n, hn⟩ : ∃ n, (nd o q).imm = n := ⟨_, rfl⟩
  obtain ⟨lb, hlb⟩ : ∃ b, ((nd o p).op == 0) = b := ⟨_, rfl⟩
  obtain ⟨rb, hrb⟩ : ∃ b, ((nd o q).op == 0) = b := ⟨_, rfl⟩
  have Hm : Hid ((tree o p).imm = m) := by show _ = _; rw [← KP.1, hm]
  have Hn : Hid ((tree o q).imm = n) := by show _ = _; rw [← KQ.1, hn]
  have Hlb : Hid ((tree o p).op = 0 ↔ lb = true) := by show _ ↔ _; rw [← KP.2, ← hlb]; simp
  have Hrb : Hid ((tree o q).op = 0 ↔ rb = true) := by show _ ↔ _; rw [← KQ.2, ← hrb]; simp
  rw [hm] at hmp
  rw [hn] at hmq
  rw [hm, hlb] at NP
  rw [hn, hrb] at NQ
  clear hm hn hlb hrb KP KQ
  obtain ⟨ones, HON⟩ : ∃ ones, Hid (mkX wd = ones) := ⟨_, rfl⟩
  have HMK := Lib.hid (pMask wd)
  rw [HON.out] at HMK
  have hbx : Below w.heap.size w (w.alloc (.cells #[.int .i64 9, .int .i64 wd, .int .i64 flags, .slice (some ⟨ab, ao, none⟩) 2 ac, .int .u32 imm] 47)) := (Below.refl _ _).alloc (Nat.le_refl _) _
  have HBX := Lib.hid hbx
  have hpi : (0 : Int) ≤ p := by omega
  have hqi : (0 : Int) ≤ q := by omega
  clear h hg hpl hql hav hcs h2 h3 hw hbx HM0
  go_enter Try.func100, Try.ntmps100
  go_wp2_with fail
  refine (HMK.out _).mono ?_
  rintro e w1 ⟨rfl, rfl⟩
  go_wp2_with fail
  go_quiet (fail)
  have HBQ := Lib.hid (below_drewN HBX.out nq)
  have x0 : ((w.alloc (.cells #[.int .i64 9, .int .i64 wd, .int .i64 flags, .slice (some ⟨ab, ao, none⟩) 2 ac, .int .u32 imm] 47)).drewN nq).cell? ⟨w.heap.size, 0, none⟩ = some (.int .i64 9) := by simp [go_sem]
  have xs : w.heap.size < ((w.alloc (.cells #[.int .i64 9, .int .i64 wd, .int .i64 flags, .slice (some ⟨ab, ao, none⟩) 2 ac, .int .u32 imm] 47)).drewN nq).heap.size := by simp
  generalize (w.alloc (.cells #[.int .i64 9, .int .i64 wd, .int .i64 flags, .slice (some ⟨ab, ao, none⟩) 2 ac, .int .u32 imm] 47)).drewN nq = wq at *
  go_wp2_with fail
  refine (NQ.out wq HBQ.out).mono ?_
  rintro e w2 ⟨rfl, hb2⟩
  have HB2 := Lib.hid (below_hop HBQ.out hb2)
  have y0 := below_cell hb2 xs x0
  have ys := hb2.size
  clear hb2 x0
  go_wp2_with fail
  refine (NP.out w2 HB2.out).mono ?_
  rintro e w3 ⟨rfl, hb3⟩
  have HBW := Lib.hid (below_hop HB2.out hb3)
  have z0 := below_cell hb3 (by omega) y0
  have zs := hb3.size
  clear hb3 y0
  have HCN := Lib.hid (CN.out w3 HBW.out)
  clear CN NP NQ HMK
  cases lb
  · have flb : ¬ (tree o p).op = 0 := fun h => by have := Hlb.out.1 h; cases this
    have Flb := Lib.hid flb
    clear flb
    cases rb
    · have frb : ¬ (tree o q).op = 0 := fun h => by have := Hrb.out.1 h; cases this
      have Frb := Lib.hid frb
      clear frb
      cases hpq : ((p : Int) == (q : Int))
      · have fe : ¬ tree o p = tree o q := fun h => by have := HTI.out h; subst this; simp at hpq
        have FE := Lib.hid fe
        clear fe
        go_wp2_with fail
        go_ret2
        exact idp_none (by unfold idG; simp [Flb.out, Frb.out, FE.out]) HBW.out
      · have h9 : (p : Int) = q := (by simpa using hpq)
        have epq : p = q := by omega
        clear h9
        have fe : tree o p = tree o q := by rw [epq]
        have FE := Lib.hid fe
        clear fe epq
        go_wp2_with fail
        go_ret2
        have HID : idG 9 wd (tree o p) (tree o q) = some (tree o p) := by unfold idG; simp [Flb.out, Frb.out, FE.out]
        first | exact idp_p (r := p) HBL.out HGD.out HRp.out HID HBW.out | exact idp_p (r := p) HBL.out HGD.out HRp.out HID (HBW.out.alloc HBW.out.size _)
    · have Frb := Lib.hid (Hrb.out.2 rfl)
      cases hn : (n == 0)
      · have Fn : Hid (¬ (tree o q).imm = 0) := by show ¬ _; rw [Hn.out]; simpa using hn
        cases hpq : ((p : Int) == (q : Int))
        · have fe : ¬ tree o p = tree o q := fun h => by have := HTI.out h; subst this; simp at hpq
          have FE := Lib.hid fe
          clear fe
          go_wp2_with fail
          go_ret2
          exact idp_none (by unfold idG; simp [Flb.out, Frb.out, Fn.out, FE.out]) HBW.out
        · have h9 : (p : Int) = q := (by simpa using hpq)
          have epq : p = q := by omega
          clear h9
          have fe : tree o p = tree o q := by rw [epq]
          have FE := Lib.hid fe
          clear fe epq
          go_wp2_with fail
          go_ret2
          have HID : idG 9 wd (tree o p) (tree o q) = some (tree o p) := by unfold idG; simp [Flb.out, Frb.out, Fn.out, FE.out]
          first | exact idp_p (r := p) HBL.out HGD.out HRp.out HID HBW.out | exact idp_p (r := p) HBL.out HGD.out HRp.out HID (HBW.out.alloc HBW.out.size _)
      · have Fn : Hid ((tree o q).imm = 0) := by show _ = _; rw [Hn.out]; simpa using hn
        go_wp2_with fail
        go_ret2
        have HID : idG 9 wd (tree o p) (tree o q) = some (tree o p) := by unfold idG; simp [Flb.out, Frb.out, Fn.out]
        first | exact idp_p (r := p) HBL.out HGD.out HRp.out HID HBW.out | exact idp_p (r := p) HBL.out HGD.out HRp.out HID (HBW.out.alloc HBW.out.size _)
  · have Flb := Lib.hid (Hlb.out.2 rfl)
    cases hm : (m == 0)
    · have Fm : Hid (¬ (tree o p).imm = 0) := by show ¬ _; rw [Hm.out]; simpa using hm
      cases rb
      · have frb : ¬ (tree o q).op = 0 := fun h => by have := Hrb.out.1 h; cases this
        have Frb := Lib.hid frb
        clear frb
        cases hpq : ((p : Int) == (q : Int))
        · have fe : ¬ tree o p = tree o q := fun h => by have := HTI.out h; subst this; simp at hpq
          have FE := Lib.hid fe
          clear fe
          go_wp2_with fail
          go_ret2
          exact idp_none (by unfold idG; simp [Flb.out, Fm.out, Frb.out, FE.out]) HBW.out
        · have h9 : (p : Int) = q := (by simpa using hpq)
          have epq : p = q := by omega
          clear h9
          have fe : tree o p = tree o q := by rw [epq]
          have FE := Lib.hid fe
          clear fe epq
          go_wp2_with fail
          go_ret2
          have HID : idG 9 wd (tree o p) (tree o q) = some (tree o p) := by unfold idG; simp [Flb.out, Fm.out, Frb.out, FE.out]
          first | exact idp_p (r := p) HBL.out HGD.out HRp.out HID HBW.out | exact idp_p (r := p) HBL.out HGD.out HRp.out HID (HBW.out.alloc HBW.out.size _)
      · have Frb := Lib.hid (Hrb.out.2 rfl)
        cases hn : (n == 0)
        · have Fn : Hid (¬ (tree o q).imm = 0) := by show ¬ _; rw [Hn.out]; simpa using hn
          cases hpq : ((p : Int) == (q : Int))
          · have fe : ¬ tree o p = tree o q := fun h => by have := HTI.out h; subst this; simp at hpq
            have FE := Lib.hid fe
            clear fe
            go_wp2_with fail
            go_ret2
            exact idp_none (by unfold idG; simp [Flb.out, Fm.out, Frb.out, Fn.out, FE.out]) HBW.out
          · have h9 : (p : Int) = q := (by simpa using hpq)
            have epq : p = q := by omega
            clear h9
            have fe : tree o p = tree o q := by rw [epq]
            have FE := Lib.hid fe
            clear fe epq
            go_wp2_with fail
            go_ret2
            have HID : idG 9 wd (tree o p) (tree o q) = some (tree o p) := by unfold idG; simp [Flb.out, Fm.out, Frb.out, Fn.out, FE.out]
            first | exact idp_p (r := p) HBL.out HGD.out HRp.out HID HBW.out | exact idp_p (r := p) HBL.out HGD.out HRp.out HID (HBW.out.alloc HBW.out.size _)
        · have Fn : Hid ((tree o q).imm = 0) := by show _ = _; rw [Hn.out]; simpa using hn
          go_wp2_with fail
          go_ret2
          have HID : idG 9 wd (tree o p) (tree o q) = some (tree o p) := by unfold idG; simp [Flb.out, Fm.out, Frb.out, Fn.out]
          first | exact idp_p (r := p) HBL.out HGD.out HRp.out HID HBW.out | exact idp_p (r := p) HBL.out HGD.out HRp.out HID (HBW.out.alloc HBW.out.size _)
    · have Fm : Hid ((tree o p).imm = 0) := by show _ = _; rw [Hm.out]; simpa using hm
      go_wp2_with fail
      go_ret2
      have HID : idG 9 wd (tree o p) (tree o q) = some (tree o q) := by unfold idG; simp [Flb.out, Fm.out]
      first | exact idp_p (r := q) HBL.out HGD.out HRq.out HID HBW.out | exact idp_p (r := q) HBL.out HGD.out HRq.out HID (HBW.out.alloc HBW.out.size _)
set_option maxRecDepth 100000 in
set_option maxHeartbeats 4000000 in
theorem ident_10 (h : Bld bb o T w) (hg : Good o) (hpl : p < o.length) (hql : q < o.length) (hl : o.length ≤ 2000) (hav : Ints .i64 w (.slice aa 2 ac) [(p : Int), (q : Int)]) (h2 : w.cell? ⟨b2, 0, none⟩ = some (.pointer (some ⟨bb, 0, none⟩))) (h3 : w.cell? ⟨b3, 1, none⟩ = some (.int .i64 wd)) (hw : Sml wd) :
    Calls Try.prog 100 #[.pointer (some ⟨bb, 0, none⟩), .agg #[.int .i64 10, .int .i64 wd, .int .i64 flags, .slice aa 2 ac, .int .u32 imm], .func (.func 98) #[] #[.pointer (some ⟨b2, 0, none⟩), .pointer (some ⟨b3, 0, none⟩)]] w (IdPost bb o T w 10 wd p q) := by
  have HBL := Lib.hid h
  have HGD := Lib.hid hg
  have HRp := Lib.hid hpl
  have HRq := Lib.hid hql
  obtain ⟨ab, ao, rfl, hab, hcs⟩ := hav.row (by simp)
  have d0 : w.cell? ⟨ab, ao, none⟩ = some (.int .i64 (p : Int)) := hcs 0 (by simp)
  have d1 : w.cell? ⟨ab, ao + 1, none⟩ = some (.int .i64 (q : Int)) := hcs 1 (by simp)
  have H2 := Lib.hid h2
  have H3 := Lib.hid h3
  have HWS := Lib.hid hw
  have l2 := cell_lt h2
  have l3 := cell_lt h3
  have HTI : Hid (tree o p = tree o q → p = q) := fun e => tree_inj hg hpl hql e
  have KP : ((nd o p).imm : Int) = (tree o p).imm ∧ (nd o p).op = (tree o p).op := by rw [tree_eq hg.down hpl]; exact ⟨rfl, rfl⟩
  have KQ : ((nd o q).imm : Int) = (tree o q).imm ∧ (nd o q).op = (tree o q).op := by rw [tree_eq hg.down hql]; exact ⟨rfl, rfl⟩
  have HM0 : Hid (∀ x ∈ o, 0 ≤ x.imm) := fun x hx => by
    obtain ⟨W, R, nv, fv, avs, hT, hb⟩ := h
    exact ((hb.kn x hx).imm).1
  have hmp : 0 ≤ (nd o p).imm := HM0.out _ (mem_getD hpl)
  have hmq : 0 ≤ (nd o q).imm := HM0.out _ (mem_getD hql)
  have NQ : Hid (∀ W, Below w.heap.size w W → Calls Try.prog 99 #[.pointer (some ⟨bb, 0, none⟩), .int .i64 (q : Int)] W fun e w' => e = .returned (.tuple #[.int .u32 (nd o q).imm, .bool ((nd o q).op == 0)]) ∧ Below W.heap.size W w') := fun W hW => number_any bb o T W q (h.next hW) hql (by omega)
  have NP : Hid (∀ W, Below w.heap.size w W → Calls Try.prog 99 #[.pointer (some ⟨bb, 0, none⟩), .int .i64 (p : Int)] W fun e w' => e = .returned (.tuple #[.int .u32 (nd o p).imm, .bool ((nd o p).op == 0)]) ∧ Below W.heap.size W w') := fun W hW => number_any bb o T W p (h.next hW) hpl (by omega)
  have CN : Hid (∀ W, Below w.heap.size w W → Calls Try.prog 98 #[.int .u32 0, .pointer (some ⟨b2, 0, none⟩), .pointer (some ⟨b3, 0, none⟩)] W fun e w' => e = .returned (.int .i64 ((addN o ⟨0, wd, 0, [], 0⟩).2 : Int)) ∧
      ∃ T', Bld bb (addN o ⟨0, wd, 0, [], 0⟩).1 T' w' ∧ (∀ b, T' b → T b ∨ W.heap.size ≤ b) ∧ Chg T W w') := fun W hW => const_any bb b2 b3 o T W wd 0 (h.next hW) (below_cell hW l2 h2) (below_cell hW l3 h3) hw ⟨by omega, by omega⟩ (by omega)
  obtain ⟨m, hm⟩ : ∃ m, (nd o p).imm = m := ⟨_, rfl⟩
  obtain ⟨n, hn⟩ : ∃ n, (nd o q).imm = n := ⟨_, rfl⟩
  obtain ⟨lb, hlb⟩ : ∃ b, ((nd o p).op == 0) = b := ⟨_, rfl⟩
  obtain ⟨rb, hrb⟩ : ∃ b, ((nd o q).op == 0) = b := ⟨_, rfl⟩
  have Hm : Hid ((tree o p).imm = m) := by show _ = _; rw [← KP.1, hm]
  have Hn : Hid ((tree o q).imm = n) := by show _ = _; rw [← KQ.1, hn]
  have Hlb : Hid ((tree o p).op = 0 ↔ lb = true) := by show _ ↔ _; rw [← KP.2, ← hlb]; simp
  have Hrb : Hid ((tree o q).op = 0 ↔ rb = true) := by show _ ↔ _; rw [← KQ.2, ← hrb]; simp
  rw [hm] at hmp
  rw [hn] at hmq
  rw [hm, hlb] at NP
  rw [hn, hrb] at NQ
  clear hm hn hlb hrb KP KQ
  obtain ⟨ones, HON⟩ : ∃ ones, Hid (mkX wd = ones) := ⟨_, rfl⟩
  have HMK := Lib.hid (pMask wd)
  rw [HON.out] at HMK
  have hbx : Below w.heap.size w (w.alloc (.cells #[.int .i64 10, .int .i64 wd, .int .i64 flags, .slice (some ⟨ab, ao, none⟩) 2 ac, .int .u32 imm] 47)) := (Below.refl _ _).alloc (Nat.le_refl _) _
  have HBX := Lib.hid hbx
  have hpi : (0 : Int) ≤ p := by omega
  have hqi : (0 : Int) ≤ q := by omega
  clear h hg hpl hql hav hcs h2 h3 hw hbx HM0
  go_enter Try.func100, Try.ntmps100
  go_wp2_with fail
  refine (HMK.out _).mono ?_
  rintro e w1 ⟨rfl, rfl⟩
  go_wp2_with fail
  go_quiet (fail)
  have HBQ := Lib.hid (below_drewN HBX.out nq)
  have x0 : ((w.alloc (.cells #[.int .i64 10, .int .i64 wd, .int .i64 flags, .slice (some ⟨ab, ao, none⟩) 2 ac, .int .u32 imm] 47)).drewN nq).cell? ⟨w.heap.size, 0, none⟩ = some (.int .i64 10) := by simp [go_sem]
  have xs : w.heap.size < ((w.alloc (.cells #[.int .i64 10, .int .i64 wd, .int .i64 flags, .slice (some ⟨ab, ao, none⟩) 2 ac, .int .u32 imm] 47)).drewN nq).heap.size := by simp
  generalize (w.alloc (.cells #[.int .i64 10, .int .i64 wd, .int .i64 flags, .slice (some ⟨ab, ao, none⟩) 2 ac, .int .u32 imm] 47)).drewN nq = wq at *
  go_wp2_with fail
  refine (NQ.out wq HBQ.out).mono ?_
  rintro e w2 ⟨rfl, hb2⟩
  have HB2 := Lib.hid (below_hop HBQ.out hb2)
  have y0 := below_cell hb2 xs x0
  have ys := hb2.size
  clear hb2 x0
  go_wp2_with fail
  refine (NP.out w2 HB2.out).mono ?_
  rintro e w3 ⟨rfl, hb3⟩
  have HBW := Lib.hid (below_hop HB2.out hb3)
  have z0 := below_cell hb3 (by omega) y0
  have zs := hb3.size
  clear hb3 y0
  have HCN := Lib.hid (CN.out w3 HBW.out)
  clear CN NP NQ HMK
  cases lb
  · have flb : ¬ (tree o p).op = 0 := fun h => by have := Hlb.out.1 h; cases this
    have Flb := Lib.hid flb
    clear flb
    cases rb
    · have frb : ¬ (tree o q).op = 0 := fun h => by have := Hrb.out.1 h; cases this
      have Frb := Lib.hid frb
      clear frb
      cases hpq : ((p : Int) == (q : Int))
      · have fe : ¬ tree o p = tree o q := fun h => by have := HTI.out h; subst this; simp at hpq
        have FE := Lib.hid fe
        clear fe
        go_wp2_with fail
        go_ret2
        exact idp_none (by unfold idG; simp [Flb.out, Frb.out, FE.out]) HBW.out
      · have h9 : (p : Int) = q := (by simpa using hpq)
        have epq : p = q := by omega
        clear h9
        have fe : tree o p = tree o q := by rw [epq]
        have FE := Lib.hid fe
        clear fe epq
        go_wp2_with fail
        refine HCN.out.mono ?_
        rintro e w5 ⟨rfl, hp5⟩
        have HP5 := Lib.hid hp5
        clear hp5
        go_wp2_with fail
        go_ret2
        exact idp_c (by unfold idG; simp [Flb.out, Frb.out, FE.out]) HBW.out HP5.out
    · have Frb := Lib.hid (Hrb.out.2 rfl)
      cases hn : (n == 0)
      · have Fn : Hid (¬ (tree o q).imm = 0) := by show ¬ _; rw [Hn.out]; simpa using hn
        cases hpq : ((p : Int) == (q : Int))
        · have fe : ¬ tree o p = tree o q := fun h => by have := HTI.out h; subst this; simp at hpq
          have FE := Lib.hid fe
          clear fe
          go_wp2_with fail
          go_ret2
          exact idp_none (by unfold idG; simp [Flb.out, Frb.out, Fn.out, FE.out]) HBW.out
        · have h9 : (p : Int) = q := (by simpa using hpq)
          have epq : p = q := by omega
          clear h9
          have fe : tree o p = tree o q := by rw [epq]
          have FE := Lib.hid fe
          clear fe epq
          go_wp2_with fail
          refine HCN.out.mono ?_
          rintro e w5 ⟨rfl, hp5⟩
          have HP5 := Lib.hid hp5
          clear hp5
          go_wp2_with fail
          go_ret2
          exact idp_c (by unfold idG; simp [Flb.out, Frb.out, Fn.out, FE.out]) HBW.out HP5.out
      · have Fn : Hid ((tree o q).imm = 0) := by show _ = _; rw [Hn.out]; simpa using hn
        go_wp2_with fail
        go_ret2
        have HID : idG 10 wd (tree o p) (tree o q) = some (tree o p) := by unfold idG; simp [Flb.out, Frb.out, Fn.out]
        first | exact idp_p (r := p) HBL.out HGD.out HRp.out HID HBW.out | exact idp_p (r := p) HBL.out HGD.out HRp.out HID (HBW.out.alloc HBW.out.size _)
  · have Flb := Lib.hid (Hlb.out.2 rfl)
    cases hm : (m == 0)
    · have Fm : Hid (¬ (tree o p).imm = 0) := by show ¬ _; rw [Hm.out]; simpa using hm
      cases rb
      · have frb : ¬ (tree o q).op = 0 := fun h => by have := Hrb.out.1 h; cases this
        have Frb := Lib.hid frb
        clear frb
        cases hpq : ((p : Int) == (q : Int))
        · have fe : ¬ tree o p = tree o q := fun h => by have := HTI.out h; subst this; simp at hpq
          have FE := Lib.hid fe
          clear fe
          go_wp2_with fail
          go_ret2
          exact idp_none (by unfold idG; simp [Flb.out, Fm.out, Frb.out, FE.out]) HBW.out
        · have h9 : (p : Int) = q := (by simpa using hpq)
          have epq : p = q := by omega
          clear h9
          have fe : tree o p = tree o q := by rw [epq]
          have FE := Lib.hid fe
          clear fe epq
          go_wp2_with fail
          refine HCN.out.mono ?_
          rintro e w5 ⟨rfl, hp5⟩
          have HP5 := Lib.hid hp5
          clear hp5
          go_wp2_with fail
          go_ret2
          exact idp_c (by unfold idG; simp [Flb.out, Fm.out, Frb.out, FE.out]) HBW.out HP5.out
      · have Frb := Lib.hid (Hrb.out.2 rfl)
        cases hn : (n == 0)
        · have Fn : Hid (¬ (tree o q).imm = 0) := by show ¬ _; rw [Hn.out]; simpa using hn
          cases hpq : ((p : Int) == (q : Int))
          · have fe : ¬ tree o p = tree o q := fun h => by have := HTI.out h; subst this; simp at hpq
            have FE := Lib.hid fe
            clear fe
            go_wp2_with fail
            go_ret2
            exact idp_none (by unfold idG; simp [Flb.out, Fm.out, Frb.out, Fn.out, FE.out]) HBW.out
          · have h9 : (p : Int) = q := (by simpa using hpq)
            have epq : p = q := by omega
            clear h9
            have fe : tree o p = tree o q := by rw [epq]
            have FE := Lib.hid fe
            clear fe epq
            go_wp2_with fail
            refine HCN.out.mono ?_
            rintro e w5 ⟨rfl, hp5⟩
            have HP5 := Lib.hid hp5
            clear hp5
            go_wp2_with fail
            go_ret2
            exact idp_c (by unfold idG; simp [Flb.out, Fm.out, Frb.out, Fn.out, FE.out]) HBW.out HP5.out
        · have Fn : Hid ((tree o q).imm = 0) := by show _ = _; rw [Hn.out]; simpa using hn
          go_wp2_with fail
          go_ret2
          have HID : idG 10 wd (tree o p) (tree o q) = some (tree o p) := by unfold idG; simp [Flb.out, Fm.out, Frb.out, Fn.out]
          first | exact idp_p (r := p) HBL.out HGD.out HRp.out HID HBW.out | exact idp_p (r := p) HBL.out HGD.out HRp.out HID (HBW.out.alloc HBW.out.size _)
    · have Fm : Hid ((tree o p).imm = 0) := by show _ = _; rw [Hm.out]; simpa using hm
      go_wp2_with fail
      go_ret2
      have HID : idG 10 wd (tree o p) (tree o q) = some (tree o q) := by unfold idG; simp [Flb.out, Fm.out]
      first | exact idp_p (r := q) HBL.out HGD.out HRq.out HID HBW.out | exact idp_p (r := q) HBL.out HGD.out HRq.out HID (HBW.out.alloc HBW.out.size _)
set_option maxRecDepth 100000 in
set_option maxHeartbeats 4000000 in
theorem ident_11 (h : Bld bb o T w) (hg : Good o) (hpl : p < o.length) (hql : q < o.length) (hl : o.length ≤ 2000) (hav : Ints .i64 w (.slice aa 2 ac) [(p : Int), (q : Int)]) (h2 : w.cell? ⟨b2, 0, none⟩ = some (.pointer (some ⟨bb, 0, none⟩))) (h3 : w.cell? ⟨b3, 1, none⟩ = some (.int .i64 wd)) (hw : Sml wd) :
    Calls Try.prog 100 #[.pointer (some ⟨bb, 0, none⟩), .agg #[.int .i64 11, .int .i64 wd, .int .i64 flags, .slice aa 2 ac, .int .u32 imm], .func (.func 98) #[] #[.pointer (some ⟨b2, 0, none⟩), .pointer (some ⟨b3, 0, none⟩)]] w (IdPost bb o T w 11 wd p q) := by
  have HBL := Lib.hid h
  have HGD := Lib.hid hg
  have HRp := Lib.hid hpl
  have HRq := Lib.hid hql
  obtain ⟨ab, ao, rfl, hab, hcs⟩ := hav.row (by simp)
  have d0 : w.cell? ⟨ab, ao, none⟩ = some (.int .i64 (p : Int)) := hcs 0 (by simp)
  have d1 : w.cell? ⟨ab, ao + 1, none⟩ = some (.int .i64 (q : Int)) := hcs 1 (by simp)
  have H2 := Lib.hid h2
  have H3 := Lib.hid h3
  have HWS := Lib.hid hw
  have l2 := cell_lt h2
  have l3 := cell_lt h3
  have HTI : Hid (tree o p = tree o q → p = q) := fun e => tree_inj hg hpl hql e
  have KP : ((nd o p).imm : Int) = (tree o p).imm ∧ (nd o p).op = (tree o p).op := by rw [tree_eq hg.down hpl]; exact ⟨rfl, rfl⟩
  have KQ : ((nd o q).imm : Int) = (tree o q).imm ∧ (nd o q).op = (tree o q).op := by rw [tree_eq hg.down hql]; exact ⟨rfl, rfl⟩
  have HM0 : Hid (∀ x ∈ o, 0 ≤ x.imm) := fun x hx => by
    obtain ⟨W, R, nv, fv, avs, hT, hb⟩ := h
    exact ((hb.kn x hx).imm).1
  have hmp : 0 ≤ (nd o p).imm := HM0.out _ (mem_getD hpl)
  have hmq : 0 ≤ (nd o q).imm := HM0.out _ (mem_getD hql)
  have NQ : Hid (∀ W, Below w.heap.size w W → Calls Try.prog 99 #[.pointer (some ⟨bb, 0, none⟩), .int .i64 (q : Int)] W fun e w' => e = .returned (.tuple #[.int .u32 (nd o q).imm, .bool ((nd o q).op == 0)]) ∧ Below W.heap.size W w') := fun W hW => number_any bb o T W q (h.next hW) hql (by omega)
  have NP : Hid (∀ W, Below w.heap.size w W → Calls Try.prog 99 #[.pointer (some ⟨bb, 0, none⟩), .int .i64 (p : Int)] W fun e w' => e = .returned (.tuple #[.int .u32 (nd o p).imm, .bool ((nd o p).op == 0)]) ∧ Below W.heap.size W w') := fun W hW => number_any bb o T W p (h.next hW) hpl (by omega)
  have CN : Hid (∀ W, Below w.heap.size w W → Calls Try.prog 98 #[.int .u32 0, .pointer (some ⟨b2, 0, none⟩), .pointer (some ⟨b3, 0, none⟩)] W fun e w' => e = .returned (.int .i64 ((addN o ⟨0, wd, 0, [], 0⟩).2 : Int)) ∧
      ∃ T', Bld bb (addN o ⟨0, wd, 0, [], 0⟩).1 T' w' ∧ (∀ b, T' b → T b ∨ W.heap.size ≤ b) ∧ Chg T W w') := fun W hW => const_any bb b2 b3 o T W wd 0 (h.next hW) (below_cell hW l2 h2) (below_cell hW l3 h3) hw ⟨by omega, by omega⟩ (by omega)
  obtain ⟨m, hm⟩ : ∃ m, (nd o p).imm = m := ⟨_, rfl⟩
  obtain ⟨n, hn⟩ : ∃ n, (nd o q).imm = n := ⟨_, rfl⟩
  obtain ⟨lb, hlb⟩ : ∃ b, ((nd o p).op == 0) = b := ⟨_, rfl⟩
  obtain ⟨rb, hrb⟩ : ∃ b, ((nd o q).op == 0) = b := ⟨_, rfl⟩
  have Hm : Hid ((tree o p).imm = m) := by show _ = _; rw [← KP.1, hm]
  have Hn : Hid ((tree o q).imm = n) := by show _ = _; rw [← KQ.1, hn]
  have Hlb : Hid ((tree o p).op = 0 ↔ lb = true) := by show _ ↔ _; rw [← KP.2, ← hlb]; simp
  have Hrb : Hid ((tree o q).op = 0 ↔ rb = true) := by show _ ↔ _; rw [← KQ.2, ← hrb]; simp
  rw [hm] at hmp
  rw [hn] at hmq
  rw [hm, hlb] at NP
  rw [hn, hrb] at NQ
  clear hm hn hlb hrb KP KQ
  obtain ⟨ones, HON⟩ : ∃ ones, Hid (mkX wd = ones) := ⟨_, rfl⟩
  have HMK := Lib.hid (pMask wd)
  rw [HON.out] at HMK
  have hbx : Below w.heap.size w (w.alloc (.cells #[.int .i64 11, .int .i64 wd, .int .i64 flags, .slice (some ⟨ab, ao, none⟩) 2 ac, .int .u32 imm] 47)) := (Below.refl _ _).alloc (Nat.le_refl _) _
  have HBX := Lib.hid hbx
  have hpi : (0 : Int) ≤ p := by omega
  have hqi : (0 : Int) ≤ q := by omega
  clear h hg hpl hql hav hcs h2 h3 hw hbx HM0
  go_enter Try.func100, Try.ntmps100
  go_wp2_with fail
  refine (HMK.out _).mono ?_
  rintro e w1 ⟨rfl, rfl⟩
  go_wp2_with fail
  go_quiet (fail)
  have HBQ := Lib.hid (below_drewN HBX.out nq)
  have x0 : ((w.alloc (.cells #[.int .i64 11, .int .i64 wd, .int .i64 flags, .slice (some ⟨ab, ao, none⟩) 2 ac, .int .u32 imm] 47)).drewN nq).cell? ⟨w.heap.size, 0, none⟩ = some (.int .i64 11) := by simp [go_sem]
  have xs : w.heap.size < ((w.alloc (.cells #[.int .i64 11, .int .i64 wd, .int .i64 flags, .slice (some ⟨ab, ao, none⟩) 2 ac, .int .u32 imm] 47)).drewN nq).heap.size := by simp
  generalize (w.alloc (.cells #[.int .i64 11, .int .i64 wd, .int .i64 flags, .slice (some ⟨ab, ao, none⟩) 2 ac, .int .u32 imm] 47)).drewN nq = wq at *
  go_wp2_with fail
  refine (NQ.out wq HBQ.out).mono ?_
  rintro e w2 ⟨rfl, hb2⟩
  have HB2 := Lib.hid (below_hop HBQ.out hb2)
  have y0 := below_cell hb2 xs x0
  have ys := hb2.size
  clear hb2 x0
  go_wp2_with fail
  refine (NP.out w2 HB2.out).mono ?_
  rintro e w3 ⟨rfl, hb3⟩
  have HBW := Lib.hid (below_hop HB2.out hb3)
  have z0 := below_cell hb3 (by omega) y0
  have zs := hb3.size
  clear hb3 y0
  have HCN := Lib.hid (CN.out w3 HBW.out)
  clear CN NP NQ HMK
  cases rb
  · have frb : ¬ (tree o q).op = 0 := fun h => by have := Hrb.out.1 h; cases this
    have Frb := Lib.hid frb
    clear frb
    cases hpq : ((p : Int) == (q : Int))
    · have fe : ¬ tree o p = tree o q := fun h => by have := HTI.out h; subst this; simp at hpq
      have FE := Lib.hid fe
      clear fe
      go_wp2_with fail
      go_ret2
      exact idp_none (by unfold idG; simp [Frb.out, FE.out]) HBW.out
    · have h9 : (p : Int) = q := (by simpa using hpq)
      have epq : p = q := by omega
      clear h9
      have fe : tree o p = tree o q := by rw [epq]
      have FE := Lib.hid fe
      clear fe epq
      go_wp2_with fail
      go_ret2
      exact idp_none (by unfold idG; simp [Frb.out, FE.out]) HBW.out
  · have Frb := Lib.hid (Hrb.out.2 rfl)
    cases hn : (n == 0)
    · have Fn : Hid (¬ (tree o q).imm = 0) := by show ¬ _; rw [Hn.out]; simpa using hn
      cases hpq : ((p : Int) == (q : Int))
      · have fe : ¬ tree o p = tree o q := fun h => by have := HTI.out h; subst this; simp at hpq
        have FE := Lib.hid fe
        clear fe
        go_wp2_with fail
        go_ret2
        exact idp_none (by unfold idG; simp [Frb.out, Fn.out, FE.out]) HBW.out
      · have h9 : (p : Int) = q := (by simpa using hpq)
        have epq : p = q := by omega
        clear h9
        have fe : tree o p = tree o q := by rw [epq]
        have FE := Lib.hid fe
        clear fe epq
        go_wp2_with fail
        go_ret2
        exact idp_none (by unfold idG; simp [Frb.out, Fn.out, FE.out]) HBW.out
    · have Fn : Hid ((tree o q).imm = 0) := by show _ = _; rw [Hn.out]; simpa using hn
      go_wp2_with fail
      go_ret2
      have HID : idG 11 wd (tree o p) (tree o q) = some (tree o p) := by unfold idG; simp [Frb.out, Fn.out]
      first | exact idp_p (r := p) HBL.out HGD.out HRp.out HID HBW.out | exact idp_p (r := p) HBL.out HGD.out HRp.out HID (HBW.out.alloc HBW.out.size _)
set_option maxRecDepth 100000 in
set_option maxHeartbeats 4000000 in
theorem ident_12 (h : Bld bb o T w) (hg : Good o) (hpl : p < o.length) (hql : q < o.length) (hl : o.length ≤ 2000) (hav : Ints .i64 w (.slice aa 2 ac) [(p : Int), (q : Int)]) (h2 : w.cell? ⟨b2, 0, none⟩ = some (.pointer (some ⟨bb, 0, none⟩))) (h3 : w.cell? ⟨b3, 1, none⟩ = some (.int .i64 wd)) (hw : Sml wd) :
    Calls Try.prog 100 #[.pointer (some ⟨bb, 0, none⟩), .agg #[.int .i64 12, .int .i64 wd, .int .i64 flags, .slice aa 2 ac, .int .u32 imm], .func (.func 98) #[] #[.pointer (some ⟨b2, 0, none⟩), .pointer (some ⟨b3, 0, none⟩)]] w (IdPost bb o T w 12 wd p q) := by
  have HBL := Lib.hid h
  have HGD := Lib.hid hg
  have HRp := Lib.hid hpl
  have HRq := Lib.hid hql
  obtain ⟨ab, ao, rfl, hab, hcs⟩ := hav.row (by simp)
  have d0 : w.cell? ⟨ab, ao, none⟩ = some (.int .i64 (p : Int)) := hcs 0 (by simp)
  have d1 : w.cell? ⟨ab, ao + 1, none⟩ = some (.int .i64 (q : Int)) := hcs 1 (by simp)
  have H2 := Lib.hid h2
  have H3 := Lib.hid h3
  have HWS := Lib.hid hw
  have l2 := cell_lt h2
  have l3 := cell_lt h3
  have HTI : Hid (tree o p = tree o q → p = q) := fun e => tree_inj hg hpl hql e
  have KP : ((nd o p).imm : Int) = (tree o p).imm ∧ (nd o p).op = (tree o p).op := by rw [tree_eq hg.down hpl]; exact ⟨rfl, rfl⟩
  have KQ : ((nd o q).imm : Int) = (tree o q).imm ∧ (nd o q).op = (tree o q).op := by rw [tree_eq hg.down hql]; exact ⟨rfl, rfl⟩
  have HM0 : Hid (∀ x ∈ o, 0 ≤ x.imm) := fun x hx => by
    obtain ⟨W, R, nv, fv, avs, hT, hb⟩ := h
    exact ((hb.kn x hx).imm).1
  have hmp : 0 ≤ (nd o p).imm := HM0.out _ (mem_getD hpl)
  have hmq : 0 ≤ (nd o q).imm := HM0.out _ (mem_getD hql)
  have NQ : Hid (∀ W, Below w.heap.size w W → Calls Try.prog 99 #[.pointer (some ⟨bb, 0, none⟩), .int .i64 (q : Int)] W fun e w' => e = .returned (.tuple #[.int .u32 (nd o q).imm, .bool ((nd o q).op == 0)]) ∧ Below W.heap.size W w') := fun W hW => number_any bb o T W q (h.next hW) hql (by omega)
  have NP : Hid (∀ W, Below w.heap.size w W → Calls Try.prog 99 #[.pointer (some ⟨bb, 0, none⟩), .int .i64 (p : Int)] W fun e w' => e = .returned (.tuple #[.int .u32 (nd o p).imm, .bool ((nd o p).op == 0)]) ∧ Below W.heap.size W w') := fun W hW => number_any bb o T W p (h.next hW) hpl (by omega)
  have CN : Hid (∀ W, Below w.heap.size w W → Calls Try.prog 98 #[.int .u32 0, .pointer (some ⟨b2, 0, none⟩), .pointer (some ⟨b3, 0, none⟩)] W fun e w' => e = .returned (.int .i64 ((addN o ⟨0, wd, 0, [], 0⟩).2 : Int)) ∧
      ∃ T', Bld bb (addN o ⟨0, wd, 0, [], 0⟩).1 T' w' ∧ (∀ b, T' b → T b ∨ W.heap.size ≤ b) ∧ Chg T W w') := fun W hW => const_any bb b2 b3 o T W wd 0 (h.next hW) (below_cell hW l2 h2) (below_cell hW l3 h3) hw ⟨by omega, by omega⟩ (by omega)
  obtain ⟨m, hm⟩ : ∃ m, (nd o p).imm = m := ⟨_, rfl⟩
  obtain ⟨n, hn⟩ : ∃ n, (nd o q).imm = n := ⟨_, rfl⟩
  obtain ⟨lb, hlb⟩ : ∃ b, ((nd o p).op == 0) = b := ⟨_, rfl⟩
  obtain ⟨rb, hrb⟩ : ∃ b, ((nd o q).op == 0) = b := ⟨_, rfl⟩
  have Hm : Hid ((tree o p).imm = m) := by show _ = _; rw [← KP.1, hm]
  have Hn : Hid ((tree o q).imm = n) := by show _ = _; rw [← KQ.1, hn]
  have Hlb : Hid ((tree o p).op = 0 ↔ lb = true) := by show _ ↔ _; rw [← KP.2, ← hlb]; simp
  have Hrb : Hid ((tree o q).op = 0 ↔ rb = true) := by show _ ↔ _; rw [← KQ.2, ← hrb]; simp
  rw [hm] at hmp
  rw [hn] at hmq
  rw [hm, hlb] at NP
  rw [hn, hrb] at NQ
  clear hm hn hlb hrb KP KQ
  obtain ⟨ones, HON⟩ : ∃ ones, Hid (mkX wd = ones) := ⟨_, rfl⟩
  have HMK := Lib.hid (pMask wd)
  rw [HON.out] at HMK
  have hbx : Below w.heap.size w (w.alloc (.cells #[.int .i64 12, .int .i64 wd, .int .i64 flags, .slice (some ⟨ab, ao, none⟩) 2 ac, .int .u32 imm] 47)) := (Below.refl _ _).alloc (Nat.le_refl _) _
  have HBX := Lib.hid hbx
  have hpi : (0 : Int) ≤ p := by omega
  have hqi : (0 : Int) ≤ q := by omega
  clear h hg hpl hql hav hcs h2 h3 hw hbx HM0
  go_enter Try.func100, Try.ntmps100
  go_wp2_with fail
  refine (HMK.out _).mono ?_
  rintro e w1 ⟨rfl, rfl⟩
  go_wp2_with fail
  go_quiet (fail)
  have HBQ := Lib.hid (below_drewN HBX.out nq)
  have x0 : ((w.alloc (.cells #[.int .i64 12, .int .i64 wd, .int .i64 flags, .slice (some ⟨ab, ao, none⟩) 2 ac, .int .u32 imm] 47)).drewN nq).cell? ⟨w.heap.size, 0, none⟩ = some (.int .i64 12) := by simp [go_sem]
  have xs : w.heap.size < ((w.alloc (.cells #[.int .i64 12, .int .i64 wd, .int .i64 flags, .slice (some ⟨ab, ao, none⟩) 2 ac, .int .u32 imm] 47)).drewN nq).heap.size := by simp
  generalize (w.alloc (.cells #[.int .i64 12, .int .i64 wd, .int .i64 flags, .slice (some ⟨ab, ao, none⟩) 2 ac, .int .u32 imm] 47)).drewN nq = wq at *
  go_wp2_with fail
  refine (NQ.out wq HBQ.out).mono ?_
  rintro e w2 ⟨rfl, hb2⟩
  have HB2 := Lib.hid (below_hop HBQ.out hb2)
  have y0 := below_cell hb2 xs x0
  have ys := hb2.size
  clear hb2 x0
  go_wp2_with fail
  refine (NP.out w2 HB2.out).mono ?_
  rintro e w3 ⟨rfl, hb3⟩
  have HBW := Lib.hid (below_hop HB2.out hb3)
  have z0 := below_cell hb3 (by omega) y0
  have zs := hb3.size
  clear hb3 y0
  have HCN := Lib.hid (CN.out w3 HBW.out)
  clear CN NP NQ HMK
  cases rb
  · have frb : ¬ (tree o q).op = 0 := fun h => by have := Hrb.out.1 h; cases this
    have Frb := Lib.hid frb
    clear frb
    cases hpq : ((p : Int) == (q : Int))
    · have fe : ¬ tree o p = tree o q := fun h => by have := HTI.out h; subst this; simp at hpq
      have FE := Lib.hid fe
      clear fe
      go_wp2_with fail
      go_ret2
      exact idp_none (by unfold idG; simp [Frb.out, FE.out]) HBW.out
    · have h9 : (p : Int) = q := (by simpa using hpq)
      have epq : p = q := by omega
      clear h9
      have fe : tree o p = tree o q := by rw [epq]
      have FE := Lib.hid fe
      clear fe epq
      go_wp2_with fail
      go_ret2
      exact idp_none (by unfold idG; simp [Frb.out, FE.out]) HBW.out
  · have Frb := Lib.hid (Hrb.out.2 rfl)
    cases hn : (n == 0)
    · have Fn : Hid (¬ (tree o q).imm = 0) := by show ¬ _; rw [Hn.out]; simpa using hn
      cases hpq : ((p : Int) == (q : Int))
      · have fe : ¬ tree o p = tree o q := fun h => by have := HTI.out h; subst this; simp at hpq
        have FE := Lib.hid fe
        clear fe
        go_wp2_with fail
        go_ret2
        exact idp_none (by unfold idG; simp [Frb.out, Fn.out, FE.out]) HBW.out
      · have h9 : (p : Int) = q := (by simpa using hpq)
        have epq : p = q := by omega
        clear h9
        have fe : tree o p = tree o q := by rw [epq]
        have FE := Lib.hid fe
        clear fe epq
        go_wp2_with fail
        go_ret2
        exact idp_none (by unfold idG; simp [Frb.out, Fn.out, FE.out]) HBW.out
    · have Fn : Hid ((tree o q).imm = 0) := by show _ = _; rw [Hn.out]; simpa using hn
      go_wp2_with fail
      go_ret2
      have HID : idG 12 wd (tree o p) (tree o q) = some (tree o p) := by unfold idG; simp [Frb.out, Fn.out]
      first | exact idp_p (r := p) HBL.out HGD.out HRp.out HID HBW.out | exact idp_p (r := p) HBL.out HGD.out HRp.out HID (HBW.out.alloc HBW.out.size _)
set_option maxRecDepth 100000 in
set_option maxHeartbeats 4000000 in
theorem ident_13 (h : Bld bb o T w) (hg : Good o) (hpl : p < o.length) (hql : q < o.length) (hl : o.length ≤ 2000) (hav : Ints .i64 w (.slice aa 2 ac) [(p : Int), (q : Int)]) (h2 : w.cell? ⟨b2, 0, none⟩ = some (.pointer (some ⟨bb, 0, none⟩))) (h3 : w.cell? ⟨b3, 1, none⟩ = some (.int .i64 wd)) (hw : Sml wd) :
    Calls Try.prog 100 #[.pointer (some ⟨bb, 0, none⟩), .agg #[.int .i64 13, .int .i64 wd, .int .i64 flags, .slice aa 2 ac, .int .u32 imm], .func (.func 98) #[] #[.pointer (some ⟨b2, 0, none⟩), .pointer (some ⟨b3, 0, none⟩)]] w (IdPost bb o T w 13 wd p q) := by
  have HBL := Lib.hid h
  have HGD := Lib.hid hg
  have HRp := Lib.hid hpl
  have HRq := Lib.hid hql
  obtain ⟨ab, ao, rfl, hab, hcs⟩ := hav.row (by simp)
  have d0 : w.cell? ⟨ab, ao, none⟩ = some (.int .i64 (p : Int)) := hcs 0 (by simp)
  have d1 : w.cell? ⟨ab, ao + 1, none⟩ = some (.int .i64 (q : Int)) := hcs 1 (by simp)
  have H2 := Lib.hid h2
  have H3 := Lib.hid h3
  have HWS := Lib.hid hw
  have l2 := cell_lt h2
  have l3 := cell_lt h3
  have HTI : Hid (tree o p = tree o q → p = q) := fun e => tree_inj hg hpl hql e
  have KP : ((nd o p).imm : Int) = (tree o p).imm ∧ (nd o p).op = (tree o p).op := by rw [tree_eq hg.down hpl]; exact ⟨rfl, rfl⟩
  have KQ : ((nd o q).imm : Int) = (tree o q).imm ∧ (nd o q).op = (tree o q).op := by rw [tree_eq hg.down hql]; exact ⟨rfl, rfl⟩
  have HM0 : Hid (∀ x ∈ o, 0 ≤ x.imm) := fun x hx => by
    obtain ⟨W, R, nv, fv, avs, hT, hb⟩ := h
    exact ((hb.kn x hx).imm).1
  have hmp : 0 ≤ (nd o p).imm := HM0.out _ (mem_getD hpl)
  have hmq : 0 ≤ (nd o q).imm := HM0.out _ (mem_getD hql)
  have NQ : Hid (∀ W, Below w.heap.size w W → Calls Try.prog 99 #[.pointer (some ⟨bb, 0, none⟩), .int .i64 (q : Int)] W fun e w' => e = .returned (.tuple #[.int .u32 (nd o q).imm, .bool ((nd o q).op == 0)]) ∧ Below W.heap.size W w') := fun W hW => number_any bb o T W q (h.next hW) hql (by omega)
  have NP : Hid (∀ W, Below w.heap.size w W → Calls Try.prog 99 #[.pointer (some ⟨bb, 0, none⟩), .int .i64 (p : Int)] W fun e w' => e = .returned (.tuple #[.int .u32 (nd o p).imm, .bool ((nd o p).op == 0)]) ∧ Below W.heap.size W w') := fun W hW => number_any bb o T W p (h.next hW) hpl (by omega)
  have CN : Hid (∀ W, Below w.heap.size w W → Calls Try.prog 98 #[.int .u32 0, .pointer (some ⟨b2, 0, none⟩), .pointer (some ⟨b3, 0, none⟩)] W fun e w' => e = .returned (.int .i64 ((addN o ⟨0, wd, 0, [], 0⟩).2 : Int)) ∧
      ∃ T', Bld bb (addN o ⟨0, wd, 0, [], 0⟩).1 T' w' ∧ (∀ b, T' b → T b ∨ W.heap.size ≤ b) ∧ Chg T W w') := fun W hW => const_any bb b2 b3 o T W wd 0 (h.next hW) (below_cell hW l2 h2) (below_cell hW l3 h3) hw ⟨by omega, by omega⟩ (by omega)
  obtain ⟨m, hm⟩ : ∃ m, (nd o p).imm = m := ⟨_, rfl⟩
  obtain ⟨n, hn⟩ : ∃ n, (nd o q).imm = n := ⟨_, rfl⟩
  obtain ⟨lb, hlb⟩ : ∃ b, ((nd o p).op == 0) = b := ⟨_, rfl⟩
  obtain ⟨rb, hrb⟩ : ∃ b, ((nd o q).op == 0) = b := ⟨_, rfl⟩
  have Hm : Hid ((tree o p).imm = m) := by show _ = _; rw [← KP.1, hm]
  have Hn : Hid ((tree o q).imm = n) := by show _ = _; rw [← KQ.1, hn]
  have Hlb : Hid ((tree o p).op = 0 ↔ lb = true) := by show _ ↔ _; rw [← KP.2, ← hlb]; simp
  have Hrb : Hid ((tree o q).op = 0 ↔ rb = true) := by show _ ↔ _; rw [← KQ.2, ← hrb]; simp
  rw [hm] at hmp
  rw [hn] at hmq
  rw [hm, hlb] at NP
  rw [hn, hrb] at NQ
  clear hm hn hlb hrb KP KQ
  obtain ⟨ones, HON⟩ : ∃ ones, Hid (mkX wd = ones) := ⟨_, rfl⟩
  have HMK := Lib.hid (pMask wd)
  rw [HON.out] at HMK
  have hbx : Below w.heap.size w (w.alloc (.cells #[.int .i64 13, .int .i64 wd, .int .i64 flags, .slice (some ⟨ab, ao, none⟩) 2 ac, .int .u32 imm] 47)) := (Below.refl _ _).alloc (Nat.le_refl _) _
  have HBX := Lib.hid hbx
  have hpi : (0 : Int) ≤ p := by omega
  have hqi : (0 : Int) ≤ q := by omega
  clear h hg hpl hql hav hcs h2 h3 hw hbx HM0
  go_enter Try.func100, Try.ntmps100
  go_wp2_with fail
  refine (HMK.out _).mono ?_
  rintro e w1 ⟨rfl, rfl⟩
  go_wp2_with fail
  go_quiet (fail)
  have HBQ := Lib.hid (below_drewN HBX.out nq)
  have x0 : ((w.alloc (.cells #[.int .i64 13, .int .i64 wd, .int .i64 flags, .slice (some ⟨ab, ao, none⟩) 2 ac, .int .u32 imm] 47)).drewN nq).cell? ⟨w.heap.size, 0, none⟩ = some (.int .i64 13) := by simp [go_sem]
  have xs : w.heap.size < ((w.alloc (.cells #[.int .i64 13, .int .i64 wd, .int .i64 flags, .slice (some ⟨ab, ao, none⟩) 2 ac, .int .u32 imm] 47)).drewN nq).heap.size := by simp
  generalize (w.alloc (.cells #[.int .i64 13, .int .i64 wd, .int .i64 flags, .slice (some ⟨ab, ao, none⟩) 2 ac, .int .u32 imm] 47)).drewN nq = wq at *
  go_wp2_with fail
  refine (NQ.out wq HBQ.out).mono ?_
  rintro e w2 ⟨rfl, hb2⟩
  have HB2 := Lib.hid (below_hop HBQ.out hb2)
  have y0 := below_cell hb2 xs x0
  have ys := hb2.size
  clear hb2 x0
  go_wp2_with fail
  refine (NP.out w2 HB2.out).mono ?_
  rintro e w3 ⟨rfl, hb3⟩
  have HBW := Lib.hid (below_hop HB2.out hb3)
  have z0 := below_cell hb3 (by omega) y0
  have zs := hb3.size
  clear hb3 y0
  have HCN := Lib.hid (CN.out w3 HBW.out)
  clear CN NP NQ HMK
  cases rb
  · have frb : ¬ (tree o q).op = 0 := fun h => by have := Hrb.out.1 h; cases this
    have Frb := Lib.hid frb
    clear frb
    cases hpq : ((p : Int) == (q : Int))
    · have fe : ¬ tree o p = tree o q := fun h => by have := HTI.out h; subst this; simp at hpq
      have FE := Lib.hid fe
      clear fe
      go_wp2_with fail
      go_ret2
      exact idp_none (by unfold idG; simp [Frb.out, FE.out]) HBW.out
    · have h9 : (p : Int) = q := (by simpa using hpq)
      have epq : p = q := by omega
      clear h9
      have fe : tree o p = tree o q := by rw [epq]
      have FE := Lib.hid fe
      clear fe epq
      go_wp2_with fail
      go_ret2
      exact idp_none (by unfold idG; simp [Frb.out, FE.out]) HBW.out
  · have Frb := Lib.hid (Hrb.out.2 rfl)
    cases hn : (n == 0)
    · have Fn : Hid (¬ (tree o q).imm = 0) := by show ¬ _; rw [Hn.out]; simpa using hn
      cases hpq : ((p : Int) == (q : Int))
      · have fe : ¬ tree o p = tree o q := fun h => by have := HTI.out h; subst this; simp at hpq
        have FE := Lib.hid fe
        clear fe
        go_wp2_with fail
        go_ret2
        exact idp_none (by unfold idG; simp [Frb.out, Fn.out, FE.out]) HBW.out
      · have h9 : (p : Int) = q := (by simpa using hpq)
        have epq : p = q := by omega
        clear h9
        have fe : tree o p = tree o q := by rw [epq]
        have FE := Lib.hid fe
        clear fe epq
        go_wp2_with fail
        go_ret2
        exact idp_none (by unfold idG; simp [Frb.out, Fn.out, FE.out]) HBW.out
    · have Fn : Hid ((tree o q).imm = 0) := by show _ = _; rw [Hn.out]; simpa using hn
      go_wp2_with fail
      go_ret2
      have HID : idG 13 wd (tree o p) (tree o q) = some (tree o p) := by unfold idG; simp [Frb.out, Fn.out]
      first | exact idp_p (r := p) HBL.out HGD.out HRp.out HID HBW.out | exact idp_p (r := p) HBL.out HGD.out HRp.out HID (HBW.out.alloc HBW.out.size _)
end
end Go.Proofs.Ythopdfikikdcbaa
/- The little term of constants that is told when all Args of a node are constants: plain. -/
namespace Go.Proofs.Ythopdfikikdcbaa
open Go.RowKit Wd
set_option linter.unusedVariables false
set_option linter.unusedSimpArgs false
def upTo (n : Nat) : List Int := (List.range n).map fun i : Nat => (i : Int)
/-- The constants and the node over them. -/
def lit (o : List Nd) (op w : Int) (args : List Int) (i : Int) : List Nd := (args.map fun a => nd o a.toNat) ++ [⟨op, w, 0, upTo args.length, i⟩]
section
variable {o : List Nd} {op w i : Int} {args : List Int}
theorem lit_len : (lit o op w args i).length = args.length + 1 := by unfold lit; simp
theorem lit_kid {j : Nat} (hj : j < args.length) : nd (lit o op w args i) j = nd o (args.getD j 0).toNat := by
  unfold lit
  rw [nd_pre (by simpa using hj)]
  show (args.map fun a => nd o a.toNat).getD j default = _
  rw [List.getD_eq_getElem?_getD, List.getElem?_map, List.getElem?_eq_getElem hj, List.getD_eq_getElem?_getD, List.getElem?_eq_getElem hj]; rfl
theorem lit_last : nd (lit o op w args i) args.length = ⟨op, w, 0, upTo args.length, i⟩ := by
  unfold lit
  have := nd_last (args.map fun a => nd o a.toNat) (⟨op, w, 0, upTo args.length, i⟩ : Nd)
  rw [List.length_map] at this
  exact this
theorem const_args (ho : Good o) {a : Nat} (ha : a < o.length) (hk : (tree o a).Ok) (h0 : (tree o a).op = 0) : (nd o a).args = [] ∧ (nd o a).op = 0 ∧ tree o a = .mk 0 (nd o a).width (nd o a).flags [] (nd o a).imm := by
  have e := tree_eq ho.down ha
  rw [e] at hk h0
  have hf := hk.facts
  have e0 : (nd o a).op = 0 := h0
  have hl := hf.1
  rw [e0, List.length_map] at hl
  have e1 : arV 0 = 0 := rfl
  have hnil : (nd o a).args = [] := List.length_eq_zero_iff.1 (by omega)
  refine ⟨hnil, e0, ?_⟩
  rw [e, hnil, e0]; rfl
theorem lit_down (ho : Good o) (hr : ∀ a ∈ args, 0 ≤ a ∧ a < (o.length : Int)) (hk : ∀ a ∈ args, (tree o a.toNat).Ok ∧ (tree o a.toNat).op = 0) : Down (lit o op w args i) := by
  intro k hkl a ha
  rw [lit_len] at hkl
  by_cases h : k < args.length
  · rw [lit_kid h] at ha
    have hm : args.getD k 0 ∈ args := mem_getD h
    have := (const_args ho (by have := hr _ hm; omega) (hk _ hm).1 (hk _ hm).2).1
    rw [this] at ha; cases ha
  · obtain rfl : k = args.length := by omega
    rw [lit_last] at ha
    obtain ⟨j, hj, rfl⟩ := List.mem_map.1 (show a ∈ (List.range args.length).map _ from ha)
    have := List.mem_range.1 hj
    omega
theorem lit_tree (ho : Good o) (hr : ∀ a ∈ args, 0 ≤ a ∧ a < (o.length : Int)) (hk : ∀ a ∈ args, (tree o a.toNat).Ok ∧ (tree o a.toNat).op = 0) :
    (∀ j, j < args.length → tree (lit o op w args i) j = tree o (args.getD j 0).toNat) ∧ tree (lit o op w args i) args.length = .mk op w 0 (args.map fun a => tree o a.toNat) i := by
  have hd := lit_down (op := op) (w := w) (i := i) ho hr hk
  have h1 : ∀ j, j < args.length → tree (lit o op w args i) j = tree o (args.getD j 0).toNat := by
    intro j hj
    have hm : args.getD j 0 ∈ args := mem_getD hj
    obtain ⟨c1, c2, c3⟩ := const_args ho (by have := hr _ hm; omega) (hk _ hm).1 (hk _ hm).2
    rw [tree_eq hd (by rw [lit_len]; omega), lit_kid hj, c1, c2, c3]; rfl
  refine ⟨h1, ?_⟩
  rw [tree_eq hd (by rw [lit_len]; omega), lit_last]
  congr 1
  unfold upTo
  rw [List.map_map]
  apply List.ext_getElem (by simp)
  intro j h2 h3
  have hj : j < args.length := by simpa using h2
  simp only [List.getElem_map, List.getElem_range, Function.comp_apply, Int.toNat_natCast]
  rw [h1 j hj, List.getD_eq_getElem?_getD, List.getElem?_eq_getElem hj]; rfl
theorem lit_valid (ho : Good o) (hr : ∀ a ∈ args, 0 ≤ a ∧ a < (o.length : Int)) (hk : ∀ a ∈ args, (tree o a.toNat).Ok ∧ (tree o a.toNat).op = 0) (hn : (Tr.mk op w 0 (args.map fun a => tree o a.toNat) i).Ok) (h0 : 0 < args.length) (hI : ∀ x ∈ lit o op w args i, 0 ≤ x.imm ∧ x.imm ≤ 4294967295) :
    valE (lit o op w args i) = 0 := by
  have hd := lit_down (op := op) (w := w) (i := i) ho hr hk
  obtain ⟨t1, t2⟩ := lit_tree (op := op) (w := w) (i := i) ho hr hk
  have hall : AllOk_ (lit o op w args i) := by
    intro k hkl
    rw [lit_len] at hkl
    by_cases h : k < args.length
    · rw [t1 k h]; exact (hk _ (mem_getD h)).1
    · obtain rfl : k = args.length := by omega
      rw [t2]; exact hn
  have hl := hn.facts.1
  rw [List.length_map] at hl
  have hc := arV_cases op
  refine valE_0 (by rw [lit_len]; omega) (hall.okS hd) (hall.okT hd) (wmap_calm (fun x hx => (hI x hx).1) (fun i hi => okS_at (hall.okS hd) hi) ?_)
  intro k hk2 j hj
  rw [lit_len] at hk2
  rw [Bool.eq_false_iff]
  intro hcl
  obtain ⟨c1, _⟩ := (clash_iff _ _).1 hcl
  have hj2 : j < args.length := by omega
  have hm : args.getD j 0 ∈ args := mem_getD hj2
  have h9 := (const_args ho (by have := hr _ hm; omega) (hk _ hm).1 (hk _ hm).2).2.1
  rw [← lit_kid (op := op) (w := w) (i := i) hj2] at h9
  change (nd (lit o op w args i) j).op = 33 at c1
  omega
theorem env0_ok (ts : List Nd) : EnvOk ts [0, 0, 0, 0] := by
  refine ⟨rfl, fun v hv => ?_⟩
  have e : ([0, 0, 0, 0] : List Int).getD v 0 = 0 := by
    have : v = 0 ∨ v = 1 ∨ v = 2 ∨ v = 3 := by omega
    rcases this with rfl | rfl | rfl | rfl <;> rfl
  rw [e]
  exact ⟨by omega, by omega, fun _ => pw_pos _⟩
/-- The value of the little term. -/
theorem lit_val (ho : Good o) (hr : ∀ a ∈ args, 0 ≤ a ∧ a < (o.length : Int)) (hk : ∀ a ∈ args, (tree o a.toNat).Ok ∧ (tree o a.toNat).op = 0) (hn : (Tr.mk op w 0 (args.map fun a => tree o a.toNat) i).Ok) (h0 : 0 < args.length) (hI : ∀ x ∈ lit o op w args i, 0 ≤ x.imm ∧ x.imm ≤ 4294967295) :
    (vals (lit o op w args i) [0, 0, 0, 0]).getD args.length 0 = vT op w i [0, 0, 0, 0] ((args.map fun a => tree o a.toNat).map Tr.w) ((args.map fun a => tree o a.toNat).map Tr.imm) := by
  have hv := lit_valid ho hr hk hn h0 hI
  rw [vals_tree hv hI (env0_ok _) _ (by rw [lit_len]; omega), (lit_tree ho hr hk).2, evalT_mk]
  congr 1
  apply List.map_congr_left
  intro t ht
  obtain ⟨a, ha, rfl⟩ := List.mem_map.1 ht
  exact eval_const (hk a ha).1 (hk a ha).2
end
end Go.Proofs.Ythopdfikikdcbaa
