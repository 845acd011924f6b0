/- -/
import Derived.Laws.BytesArg
import Derived.BigRegion
import Derived.BigQuiet
import Derived.Deep.AppendLies
import Derived.Test.YtaegpeofecdhfaaGreatC1
import Derived.Test.YtaegpeofecdhfaaGreatC3
import Derived.Test.YtaegpeofecdhfaaGreatC5
set_option maxHeartbeats 1000000
set_option maxRecDepth 100000
namespace Go.Proofs.YtaegpeofecdhfaaGreat
open Go.RowKit Go.Maps
set_option linter.unusedVariables false
set_option linter.unusedSimpArgs false
set_option maxHeartbeats 4000000 in
theorem Emit_1 (b1 b0 : Nat) (w : World) (h : HaltAt w b1 b0) : Calls Tryz.prog 21 #[.int .i64 1, .agg #[.int .i64 0, .slice (some ⟨b1, 0, none⟩) 1 1]] w fun e w' => (∃ D S1, e = .returned (.tuple #[.agg #[.slice (some ⟨D, 0, none⟩) 1 1, .slice (some ⟨S1, 0, none⟩) 1 1, .slice none 0 0], .int .i64 0])) ∧ Below w.heap.size w w' := by
  obtain ⟨W1, hW1⟩ : ∃ W, (w.alloc (.cells #[.int .i64 0, .slice (some ⟨b1, 0, none⟩) 1 1] 46)).alloc (.cells #[.slice none 0 0, .slice none 0 0, .slice none 0 0] 26) = W := ⟨_, rfl⟩
  have BB : Hid (Below w.heap.size w W1) := by rw [← hW1]; exact ((Below.refl _ _).alloc (Nat.le_refl _) _).alloc (by simp) _
  have hs : W1.heap.size = w.heap.size + 2 := by rw [← hW1]; simp
  have p0 : W1.cell? ⟨w.heap.size, 0, none⟩ = some (.int .i64 0) := by rw [← hW1]; simp [go_sem]
  have p1 : W1.cell? ⟨w.heap.size, 1, none⟩ = some (.slice (some ⟨b1, 0, none⟩) 1 1) := by rw [← hW1]; simp [go_sem]
  have HR : Hid (Cls W1 (w.heap.size + 1) [.slice none 0 0, .slice none 0 0, .slice none 0 0]) := by
    refine Lib.hid ?_
    rw [← hW1]
    have := Cls.made (w := w.alloc (.cells #[.int .i64 0, .slice (some ⟨b1, 0, none⟩) 1 1] 46)) (cs := [.slice none 0 0, .slice none 0 0, .slice none 0 0]) (t := 26)
    simpa using this
  have H1 : Hid (HaltAt W1 b1 b0) := h.below BB.out
  have C1 := Lib.hid (layoutOf_1 b1 b0 W1 H1.out)
  have CP := Lib.hid plain_1
  have CB := Lib.hid isBranch_halt
  unfold haltC at CP
  have HS := Lib.hid hs
  have hm := meth_plain1 386
  simp only [String.reducePush, String.reduceAppend, Nat.reduceAdd] at hm
  have hm1 : ∀ w : World, (Instr.makeSlice 22 (.int .i64 1) (.int .i64 1)).run Tryz.prog w = .ok (.slice (some ⟨w.heap.size, 0, none⟩) 1 1) (w.alloc (.cells #[.int .u8 0] 5)) := fun _ => by kernel_rfl
  have HM1 := Lib.hid hm1
  clear h hs hm1
  go_enter Tryz.func21, Tryz.ntmps21
  go_wp2_with (go_at_call 48; with_reducible refine C1.out.mono ?_; rintro e w2 ⟨L, b, cb, s, g, bv, rfl, hlay, hb2⟩; have HL2 := Lib.hid hlay; have HB2 := Lib.hid hb2; have l1 := hlay.hl.at 1 (.slice (some ⟨b, 0, none⟩) 1 cb) rfl; have l3 := hlay.hl.at 3 (.slice (some ⟨s, 0, none⟩) 2 2) rfl; have e1 := hlay.hs.at 1 (.int .i64 1) rfl; have hlL := cell_lt l1; have hls := cell_lt e1; clear hlay hb2 p0 p1)
  go_quiet (fail)
  have hw3 : W1.heap.size ≤ (w2.drewN nq).heap.size := HB2.out.size
  have HL3 : Hid (LayAt 143 L b cb s g bv 0 1 (w2.drewN nq)) := HL2.out.below (below_drewN (Below.refl _ _) _)
  have HB3 : Hid (Below W1.heap.size W1 (w2.drewN nq)) := below_drewN HB2.out _
  clear l1 l3 e1 hls hlL HL2 HB2
  generalize w2.drewN nq = w3 at *
  have hm1 := HM1.out
  go_upto_region 8 with fail
  have HE4 : Hid (EmS 143 L b cb s g bv 1 1 w3.heap.size (w3.heap.size + 2) (w3.heap.size + 1) (w3.heap.size + 2) [.slice (some ⟨w3.heap.size, 0, none⟩) 1 1, .slice (some ⟨w3.heap.size + 1, 0, none⟩) 1 1, .slice none 0 0] W1 (((w3.alloc (.cells #[.int .u8 0] 5)).alloc (.cells #[.int .i64 0, .int .i64 0] 41)).alloc (.cells #[.slice (some ⟨w3.heap.size, 0, none⟩) 1 1, .slice (some ⟨w3.heap.size + 1, 0, none⟩) 1 1, .slice none 0 0] 26))) := by
    have hb4 : Below w3.heap.size w3 (((w3.alloc (.cells #[.int .u8 0] 5)).alloc (.cells #[.int .i64 0, .int .i64 0] 41)).alloc (.cells #[.slice (some ⟨w3.heap.size, 0, none⟩) 1 1, .slice (some ⟨w3.heap.size + 1, 0, none⟩) 1 1, .slice none 0 0] 26)) := (((Below.refl _ _).alloc (Nat.le_refl _) _).alloc (by simp) _).alloc (by simp; omega) _
    obtain ⟨l1, l2, l3, l4⟩ := HL3.out.lts
    have hcl : ∀ {v0 v1 v2 : Value} {w : World}, Cls (w.alloc (.cells #[v0, v1, v2] 26)) w.heap.size [v0, v1, v2] := fun {_ _ _ _} => Cls.made
    have hO : Cls (((w3.alloc (.cells #[.int .u8 0] 5)).alloc (.cells #[.int .i64 0, .int .i64 0] 41)).alloc (.cells #[.slice (some ⟨w3.heap.size, 0, none⟩) 1 1, .slice (some ⟨w3.heap.size + 1, 0, none⟩) 1 1, .slice none 0 0] 26)) (w3.heap.size + 2) [.slice (some ⟨w3.heap.size, 0, none⟩) 1 1, .slice (some ⟨w3.heap.size + 1, 0, none⟩) 1 1, .slice none 0 0] := by
      have := @hcl (.slice (some ⟨w3.heap.size, 0, none⟩) 1 1) (.slice (some ⟨w3.heap.size + 1, 0, none⟩) 1 1) (.slice none 0 0) ((w3.alloc (.cells #[.int .u8 0] 5)).alloc (.cells #[.int .i64 0, .int .i64 0] 41))
      simpa using this
    refine ⟨HL3.out.below hb4, ⟨List.replicate 1 0, rfl, by simp; omega, fun i hi => ?_⟩, hO, hO, by simp, below_next HB3.out hw3 hb4, ⟨by omega, by omega, by omega, by omega⟩, by omega, by omega, hw3⟩
    have hi' : i = 0 := by simp at hi; omega
    rcases hi' with rfl <;> simp [go_sem]
  have HS1 : Hid (w.heap.size + 1 < W1.heap.size) := Lib.hid (by have := HS.out; omega)
  generalize ((w3.alloc (.cells #[.int .u8 0] 5)).alloc (.cells #[.int .i64 0, .int .i64 0] 41)).alloc (.cells #[.slice (some ⟨w3.heap.size, 0, none⟩) 1 1, .slice (some ⟨w3.heap.size + 1, 0, none⟩) 1 1, .slice none 0 0] 26) = w4 at *
  have l1 := HE4.out.lay.hl.at 1 (.slice (some ⟨b, 0, none⟩) 1 cb) rfl
  rw [show w3.heap.size + 1 + 1 = w3.heap.size + 2 from rfl]
  generalize w3.heap.size + 2 = O at *
  generalize w3.heap.size + 1 = S1 at *
  generalize w3.heap.size = D at *
  clear hm1 HM1 hw3
  go_wp2_with fail
  clear l1
  go_loopw [10, 11, 46] (fun _ _ i wr => ∃ j : Int, (j = 0 ∨ j = 1) ∧ i = .int .i64 j ∧ ∃ C cs, EmS 143 L b cb s g bv 1 1 D O S1 C cs W1 wr) (fun _ _ i _ => 1 - (intOf i).toNat)
  case atStart => exact ⟨0, .inl rfl, rfl, _, _, HE4.out⟩
  case round =>
    obtain ⟨j, hj, rfl, C, cs, he⟩ := hrel
    have HE := Lib.hid he
    rcases hj with rfl | rfl
    · have c0 := he.lay.hc 0 (.int .i64 26) rfl
      have c1 := he.lay.hc 1 (.int .i64 0) rfl
      have c2 := he.lay.hc 2 (.int .i64 0) rfl
      have c3 := he.lay.hc 3 (.int .i64 0) rfl
      have c4 := he.lay.hc 4 (.int .u32 0) rfl
      have c5 := he.lay.hc 5 (.int .i64 0) rfl
      have hbl := cell_lt c0
      have hne : ¬ b = wr.heap.size := by omega
      clear he
      go_upto_region 11 with fail
      generalize hW6 : wr.alloc (.cells #[.int .i64 26, .int .i64 0, .int .i64 0, .int .i64 0, .int .u32 0, .int .i64 0] 76) = W6
      have HE6 : Hid (EmS 143 L b cb s g bv 1 1 D O S1 wr.heap.size haltL W1 W6) := by
        rw [← hW6]
        exact HE.out.with ((Below.refl _ _).alloc (Nat.le_refl _) _) Cls.made (by simp [haltL]) (Nat.le_refl _)
      clear hW6 c0 c1 c2 c3 c4 c5
      have k0 := HE6.out.c.at 0 (.int .i64 26) rfl
      go_wp2_with (go_at_call 49; with_reducible refine (CB.out _).mono ?_; rintro e w' ⟨rfl, rfl⟩)
      clear k0
      have hE6 := HE6.out
      have r0 : ∀ wk, EmS 143 L b cb s g bv 1 1 D O S1 wr.heap.size haltL W1 wk → wk.cell? ⟨O, 0, none⟩ = some (.slice (some ⟨D, 0, none⟩) 1 1) := fun wk h => h.o.at 0 _ rfl
      have r1 : ∀ wk, EmS 143 L b cb s g bv 1 1 D O S1 wr.heap.size haltL W1 wk → wk.cell? ⟨L, 3, none⟩ = some (.slice (some ⟨s, 0, none⟩) 2 2) := fun wk h => h.lay.hl.at 3 _ rfl
      have r2 : ∀ wk, EmS 143 L b cb s g bv 1 1 D O S1 wr.heap.size haltL W1 wk → wk.cell? ⟨L, 0, none⟩ = some (.iface 143 (.agg #[])) := fun wk h => h.lay.hl.at 0 _ rfl
      have r3 : ∀ wk, EmS 143 L b cb s g bv 1 1 D O S1 wr.heap.size haltL W1 wk → wk.cell? ⟨s, 0, none⟩ = some (.int .i64 0) := fun wk h => h.lay.hs.at 0 _ rfl
      have q0 : ∀ wk, EmS 143 L b cb s g bv 1 1 D O S1 wr.heap.size haltL W1 wk → wk.cell? ⟨wr.heap.size, 0, none⟩ = some (.int .i64 26) := fun wk h => h.c.at 0 _ rfl
      have q1 : ∀ wk, EmS 143 L b cb s g bv 1 1 D O S1 wr.heap.size haltL W1 wk → wk.cell? ⟨wr.heap.size, 1, none⟩ = some (.int .i64 0) := fun wk h => h.c.at 1 _ rfl
      have q2 : ∀ wk, EmS 143 L b cb s g bv 1 1 D O S1 wr.heap.size haltL W1 wk → wk.cell? ⟨wr.heap.size, 2, none⟩ = some (.int .i64 0) := fun wk h => h.c.at 2 _ rfl
      have q3 : ∀ wk, EmS 143 L b cb s g bv 1 1 D O S1 wr.heap.size haltL W1 wk → wk.cell? ⟨wr.heap.size, 3, none⟩ = some (.int .i64 0) := fun wk h => h.c.at 3 _ rfl
      have q4 : ∀ wk, EmS 143 L b cb s g bv 1 1 D O S1 wr.heap.size haltL W1 wk → wk.cell? ⟨wr.heap.size, 4, none⟩ = some (.int .u32 0) := fun wk h => h.c.at 4 _ rfl
      have q5 : ∀ wk, EmS 143 L b cb s g bv 1 1 D O S1 wr.heap.size haltL W1 wk → wk.cell? ⟨wr.heap.size, 5, none⟩ = some (.int .i64 0) := fun wk h => h.c.at 5 _ rfl
      refine wp_region_held_drew (S := (EmS 143 L b cb s g bv 1 1 D O S1 wr.heap.size haltL W1)) (by kernel_rfl) ?_ (fun hHeld => ?_)
      · (first | assumption | exact EmS.drew (by assumption))
      refine tk 0 ?_; refine tk 1 ?_; refine tk 2 ?_; refine tk 3 ?_; refine tk 4 ?_; refine tk 5 ?_; refine tk 6 ?_; refine tk 7 ?_
      refine tk 8 ?_; refine tk 9 ?_; refine tk 10 ?_; refine tk 11 ?_; refine tk 12 ?_; refine tk 13 ?_; refine tk 14 ?_
      refine rd1 15 (fun K hK => ?_)
      (go_simp; (go_at_call 281; with_reducible refine (CP.out _).mono ?_); rintro e w3 ⟨v3, rfl, hr3, hb3⟩; have hsz3 := hr3.ints (by simp); have hs3 := EmS.below (by assumption) hb3)
      refine hK.out _ _ ?_ (fun hHeld => ?_)
      · (first | assumption | exact EmS.drew (by assumption))
      clear hK K
      try go_frame
      refine rd1 16 (fun K hK => ?_)
      (obtain ⟨hcpy, hs4⟩ := EmS.copied (by assumption) hsz3 (by rfl) 3; go_simp)
      refine hK.out _ _ ?_ (fun hHeld => ?_)
      · (first | assumption | exact EmS.drew (by assumption))
      clear hK K
      try go_frame
      refine wpAnyH_done (by kernel_rfl) ?_ _
      have HF := Lib.hid hs4
      clear hs4 hcpy r0 r1 r2 r3 q0 q1 q2 q3 q4 q5 hE6
      go_wp2_with fail
      go_roundw
      case rel => exact ⟨1, .inr rfl, rfl, _, _, HF.out⟩
      case measure => simp [intOf]
    · have r0 := he.o.at 0 (.slice (some ⟨D, 0, none⟩) 1 1) rfl
      have r1 := he.o.at 1 (.slice (some ⟨S1, 0, none⟩) 1 1) rfl
      have r2 := he.o.at 2 (.slice none 0 0) rfl
      have HRr : Hid (Cls wr (w.heap.size + 1) [.slice none 0 0, .slice none 0 0, .slice none 0 0]) := HR.out.below HS1.out he.k
      have t0 := HRr.out.at 0 _ rfl
      have t1 := HRr.out.at 1 _ rfl
      have t2 := HRr.out.at 2 _ rfl
      have g0 := HRr.out.at' 0 _ rfl
      have g1 := HRr.out.at' 1 _ rfl
      have g2 := HRr.out.at' 2 _ rfl
      have HBW : Hid (Below w.heap.size w wr) := below_next BB.out BB.out.size he.k
      clear he
      go_wp2_with fail
      refine bodyPost_ret (v := .tuple #[.agg #[.slice (some ⟨D, 0, none⟩) 1 1, .slice (some ⟨S1, 0, none⟩) 1 1, .slice none 0 0], .int .i64 0]) (Cls.res2 (cs := [.slice (some ⟨D, 0, none⟩) 1 1, .slice (some ⟨S1, 0, none⟩) 1 1, .slice none 0 0]) (((HRr.out.set (k := 0) (by simp) _).set (k := 1) (by simp) _).set (k := 2) (by simp) _) rfl rfl rfl Tryz.underlying26 rfl (by kernel_rfl)) rfl ⟨⟨D, S1, rfl⟩, below_at (below_at (below_at HBW.out (by omega) _ _) (by omega) _ _) (by omega) _ _⟩
end Go.Proofs.YtaegpeofecdhfaaGreat
namespace Go.Proofs.YtaegpeofecdhfaaGreat
open Go.RowKit
set_option linter.unusedVariables false
set_option linter.unusedSimpArgs false
theorem Ints.str {w : World} {v : Value} {xs : List Int} (h : Ints .u8 w v xs) : (convert 22 9 v).run Tryz.prog w = .ok (.string (strOfNums xs)) w := by
  obtain ⟨a, c, rfl, h1, h2, h3, h4⟩ := h
  rcases a with _ | ⟨b, o, tg⟩
  · have hl : xs = [] := by
      rcases xs with _ | ⟨x, r⟩
      · rfl
      · obtain ⟨b, o, e, _⟩ := h4 0 (by simp); cases e
    subst hl
    exact run_convert_bytes_nil w _ 5 Tryz.underlying22 Tryz.underlying5 _ _ _ Tryz.underlying9
  · rcases Nat.eq_zero_or_pos xs.length with h0 | h0
    · have hl : xs = [] := List.length_eq_zero_iff.1 h0
      subst hl
      rw [run_convert_bytes_string w _ _ 5 _ _ _ Tryz.underlying22 Tryz.underlying5 Tryz.underlying9]
      have := run_bytesToString (P := Tryz.prog) w ⟨b, o, tg⟩ 0 c [] (by have := run_loadCells_list (P := Tryz.prog) w ⟨b, o, tg⟩ [] (by intro j v hj; simp at hj); simpa using this)
      exact this
    · obtain ⟨b', o', e, _⟩ := h4 0 h0
      cases e
      refine run_convert_bytes_arg w _ 5 Tryz.underlying22 Tryz.underlying5 b o xs.length c xs rfl (fun i hi => ?_) _ Tryz.underlying9
      obtain ⟨b2, o2, e2, _, h6⟩ := h4 i hi
      cases e2
      rw [Nat.mul_one] at h6
      exact h6
end Go.Proofs.YtaegpeofecdhfaaGreat
namespace Go.Proofs.YtaegpeofecdhfaaGreat
open Go.RowKit Go.Maps
set_option linter.unusedVariables false
set_option linter.unusedSimpArgs false
theorem halt_any (w : World) : Calls Tryz.prog 34 #[] w fun e w' => ∃ b1 b0, e = .returned (.agg #[.int .i64 0, .slice (some ⟨b1, 0, none⟩) 1 1]) ∧ HaltAt w' b1 b0 ∧ Below w.heap.size w w' := by
  go_enter Tryz.func34, Tryz.ntmps34
  go_wp2_with fail
  refine bodyPost_ret (v := .agg #[.int .i64 0, .slice (some ⟨w.heap.size + 1 + 1, 0, none⟩) 1 1]) (Cls.res1 (b := w.heap.size) (cs := [.int .i64 0, .slice (some ⟨w.heap.size + 1 + 1, 0, none⟩) 1 1]) ?_ rfl rfl Tryz.underlying46 rfl (by kernel_rfl)) rfl ⟨w.heap.size + 1 + 1, w.heap.size + 1, rfl, ⟨?_, ?_, ?_, ?_, ?_, ?_, ?_⟩, (((Below.refl _ _).alloc (Nat.le_refl _) _).alloc (by simp) _).alloc (by simp; omega) _⟩
  · intro k v hk
    match k, hk with
    | 0, hk => simp at hk; subst hk; simp [go_sem]
    | 1, hk => simp at hk; subst hk; simp [go_sem]
    | k + 2, hk => simp at hk
  all_goals simp [go_sem]
def knL : List Ob := [⟨[1, 2, 3, 4, 5], [], []⟩, ⟨[6, 7, 8, 9, 10], [⟨7, 0⟩], []⟩]
def knS : Im := ⟨[0, 8], 13, [(7, 108)]⟩
theorem kn_find : findP 100 knL 7 = (108, true, 0) := by decide
theorem kn_e : linkE 100 knL = 0 := by decide
theorem kn_s : arrL 100 knL = some knS := by rfl
theorem kn_b : linkJ 100 knL knS knL.length = [1, 2, 3, 4, 5, 0, 0, 0, 6, 7, 8, 9, 10] := by decide
theorem kn_str : strOfNums [1, 2, 3, 4, 5, 0, 0, 0, 6, 7, 8, 9, 10] = ⟨#[1, 2, 3, 4, 5, 0, 0, 0, 6, 7, 8, 9, 10]⟩ := by decide
theorem kn_f : ∀ o ∈ knL, ObF o := by
  intro o ho
  simp only [knL, List.mem_cons, List.not_mem_nil, or_false] at ho
  rcases ho with rfl | rfl
  · refine ⟨fun y hy => ?_, fun y hy => (by cases hy), fun y hy => (by cases hy)⟩
    simp only [List.mem_cons, List.not_mem_nil, or_false] at hy
    rcases hy with rfl | rfl | rfl | rfl | rfl <;> rfl
  · refine ⟨fun y hy => ?_, fun y hy => ?_, fun y hy => (by cases hy)⟩
    · simp only [List.mem_cons, List.not_mem_nil, or_false] at hy
      rcases hy with rfl | rfl | rfl | rfl | rfl <;> rfl
    · simp only [List.mem_cons, List.not_mem_nil, or_false] at hy
      subst hy
      exact ⟨rfl, rfl⟩
theorem Sys.noSy (w : World) : Sys w (.slice none 0 0) [] := ⟨none, 0, rfl, Nat.le_refl _, ⟨by simp, by omega⟩, fun _ => rfl, fun i hi => absurd hi (by simp)⟩
theorem Wns.noWn (w : World) : Wns w (.slice none 0 0) [] := ⟨none, 0, rfl, Nat.le_refl _, ⟨by simp, by omega⟩, fun _ => rfl, fun i hi => absurd hi (by simp)⟩
theorem by5 {w W : World} {g : Nat} {a b c d e : Int} (hb : Below (w.heap.size + 1) (w.alloc (.cells #[.int .u8 a, .int .u8 b, .int .u8 c, .int .u8 d, .int .u8 e] 5)) W) (hg : w.heap.size = g) : Ints .u8 W (.slice (some ⟨g, 0, none⟩) 5 5) [a, b, c, d, e] := by
  subst hg
  have h : OInts .u8 (w.alloc (.cells #[.int .u8 a, .int .u8 b, .int .u8 c, .int .u8 d, .int .u8 e] 5)) w.heap.size [a, b, c, d, e] := by
    refine ⟨by simp, fun i hi => ?_⟩
    have hi' : i = 0 ∨ i = 1 ∨ i = 2 ∨ i = 3 ∨ i = 4 := by simp at hi; omega
    rcases hi' with rfl | rfl | rfl | rfl | rfl <;> simp [go_sem]
  exact OInts.ints (h.below (by simpa using hb)) (by simp)
theorem kn_obs (w : World) (n : Nat) (hn : w.heap.size = n) : Obs ((((w.alloc (.cells #[.int .u8 1, .int .u8 2, .int .u8 3, .int .u8 4, .int .u8 5] 5)).alloc (.cells #[.int .u8 6, .int .u8 7, .int .u8 8, .int .u8 9, .int .u8 10] 5)).alloc (.cells #[.int .i64 7, .int .i64 0] 41)).alloc (.cells #[.slice (some ⟨n, 0, none⟩) 5 5, .slice none 0 0, .slice none 0 0, .slice (some ⟨n + 1, 0, none⟩) 5 5, .slice (some ⟨n + 1 + 1, 0, none⟩) 1 1, .slice none 0 0] 26)) (.slice (some ⟨n + 1 + 1 + 1, 0, none⟩) 2 2) knL := by
  subst hn
  refine ⟨some ⟨w.heap.size + 1 + 1 + 1, 0, none⟩, 2, rfl, Nat.le_refl _, ⟨by simp [knL], by omega⟩, (fun hh => by cases hh), fun i hi => ⟨_, 0, rfl, by simp, ?_⟩⟩
  have hi' : i = 0 ∨ i = 1 := by simp [knL] at hi; omega
  rcases hi' with rfl | rfl
  · refine ⟨.slice (some ⟨w.heap.size, 0, none⟩) 5 5, .slice none 0 0, .slice none 0 0, by simp [go_sem], by simp [go_sem], by simp [go_sem], by5 (w := w) (a := 1) (b := 2) (c := 3) (d := 4) (e := 5) ?_ rfl, Sys.noSy _, Wns.noWn _⟩
    exact (((Below.refl _ _).alloc (by simp) _).alloc (by simp) _).alloc (by simp) _
  · refine ⟨.slice (some ⟨w.heap.size + 1, 0, none⟩) 5 5, .slice (some ⟨w.heap.size + 1 + 1, 0, none⟩) 1 1, .slice none 0 0, by simp [go_sem], by simp [go_sem], by simp [go_sem], by5 (w := w.alloc (.cells #[.int .u8 1, .int .u8 2, .int .u8 3, .int .u8 4, .int .u8 5] 5)) (a := 6) (b := 7) (c := 8) (d := 9) (e := 10) ?_ (by simp), ?_, Wns.noWn _⟩
    · exact ((Below.refl _ _).alloc (by simp) _).alloc (by simp) _
    · refine ⟨some ⟨w.heap.size + 1 + 1, 0, none⟩, 1, rfl, Nat.le_refl _, ⟨by simp [knL], by omega⟩, (fun hh => by cases hh), fun i hi => ⟨_, 0, rfl, by simp, ?_⟩⟩
      obtain rfl : i = 0 := by simp [knL] at hi; omega
      exact ⟨by simp [go_sem, knL], by simp [go_sem, knL]⟩
theorem known22 (w : World) : Calls Tryz.prog 12 #[] w fun e w' => e = .returned (.bool true) ∧ Below w.heap.size w w' := by
  have C1 := Lib.hid halt_any
  have C2 := Lib.hid Emit_0
  have C3 := Lib.hid Emit_1
  have KE := Lib.hid kn_e
  have KS := Lib.hid kn_s
  have KB := Lib.hid kn_b
  go_enter Tryz.func12, Tryz.ntmps12
  go_upto_region 2 with (first | (go_at_call 34; with_reducible refine (C1.out _).mono ?_; rintro e w1 ⟨b1, b0, rfl, hh1, hb1⟩; have HB1 := Lib.hid hb1; clear hb1) | ((go_at_call 21; with_reducible refine (C2.out _ _ _ hh1).mono ?_); rintro e w2 ⟨⟨D, S1, rfl⟩, hb2⟩; have HB2 := Lib.hid hb2; clear hb2))
  generalize hW2 : w2.alloc (.cells #[.slice (some ⟨D, 0, none⟩) 4 4, .slice (some ⟨S1, 0, none⟩) 1 1, .slice none 0 0] 26) = W2 at *
  have B2 : Hid (Below w2.heap.size w2 W2) := by rw [← hW2]; exact (Below.refl _ _).alloc (Nat.le_refl _) _
  have o0 : W2.cell? ⟨w2.heap.size, 0, none⟩ = some (.slice (some ⟨D, 0, none⟩) 4 4) := by rw [← hW2]; simp [go_sem]
  have hs2 : w2.heap.size < W2.heap.size := by rw [← hW2]; simp
  have O0 := Lib.hid o0
  clear hW2 o0 hh1
  go_upto_region 3 with (first | (go_at_call 34; with_reducible refine (C1.out _).mono ?_; rintro e w3 ⟨b1', b0', rfl, hh3, hb3⟩; have HB3 := Lib.hid hb3; clear hb3) | ((go_at_call 21; with_reducible refine (C3.out _ _ _ hh3).mono ?_); rintro e w4 ⟨⟨D2, S2, rfl⟩, hb4⟩; have HB4 := Lib.hid hb4; clear hb4))
  generalize hW4 : w4.alloc (.cells #[.slice (some ⟨D2, 0, none⟩) 1 1, .slice (some ⟨S2, 0, none⟩) 1 1, .slice none 0 0] 26) = W4 at *
  have B4 : Hid (Below w4.heap.size w4 W4) := by rw [← hW4]; exact (Below.refl _ _).alloc (Nat.le_refl _) _
  have o1 : W4.cell? ⟨w4.heap.size, 0, none⟩ = some (.slice (some ⟨D2, 0, none⟩) 1 1) := by rw [← hW4]; simp [go_sem]
  have hs4 : w4.heap.size < W4.heap.size := by rw [← hW4]; simp
  have B24 : Hid (Below W2.heap.size W2 W4) := below_next (below_next HB3.out HB3.out.size HB4.out) (by have := HB3.out.size; have := HB4.out.size; omega) B4.out
  have HO1 := Lib.hid (below_cell B24.out hs2 O0.out)
  have HO2 := Lib.hid o1
  clear hW4 o1 hh3
  go_upto_region 4 with fail
  have HX := Lib.hid (kn_obs W4 _ rfl)
  generalize hW5 : (((W4.alloc (.cells #[.int .u8 1, .int .u8 2, .int .u8 3, .int .u8 4, .int .u8 5] 5)).alloc (.cells #[.int .u8 6, .int .u8 7, .int .u8 8, .int .u8 9, .int .u8 10] 5)).alloc (.cells #[.int .i64 7, .int .i64 0] 41)).alloc (.cells #[.slice (some ⟨W4.heap.size, 0, none⟩) 5 5, .slice none 0 0, .slice none 0 0, .slice (some ⟨W4.heap.size + 1, 0, none⟩) 5 5, .slice (some ⟨W4.heap.size + 1 + 1, 0, none⟩) 1 1, .slice none 0 0] 26) = W5 at *
  have B5 : Hid (Below W4.heap.size W4 W5) := by rw [← hW5]; exact ((((Below.refl _ _).alloc (Nat.le_refl _) _).alloc (by simp) _).alloc (by simp; omega) _).alloc (by simp; omega) _
  clear hW5
  have C4 := Lib.hid (pFind_any knL _ 100 7 W5 HX.out kn_f ⟨by decide, by decide⟩)
  rw [kn_find] at C4
  have C5 := Lib.hid (fun w' (hb : Below W5.heap.size W5 w') => pLink_any knL _ 100 w' (HX.out.stays hb) kn_f)
  go_upto_region 6 with (first | ((go_at_call 18; with_reducible refine C4.out.mono ?_); rintro e w6 ⟨rfl, hb6⟩; have HB6 := Lib.hid hb6; clear hb6) | ((go_at_call 15; with_reducible refine (C5.out _ HB6.out).mono ?_); rintro e w7 ⟨v7, rfl, -, hv7, hb7⟩; rw [KE.out]; have HV7 := Lib.hid (hv7 KE.out _ KS.out); have HB7 := Lib.hid hb7; clear hv7 hb7))
  have hst := HV7.out.str
  rw [KB.out, kn_str] at hst
  have B47 : Hid (Below W4.heap.size W4 w7) := below_hop (below_hop B5.out HB6.out) HB7.out
  have p1 := below_cell B47.out (by have := B24.out.size; omega) HO1.out
  have p2 := below_cell B47.out hs4 HO2.out
  have BF : Hid (Below w.heap.size w w7) := below_hop (below_hop (below_hop (below_hop HB1.out HB2.out) B2.out) B24.out) B47.out
  obtain ⟨a7, c7, rfl, -⟩ := HV7.out.shape2
  clear HV7
  go_wp2_with fail
  go_ret
  exact ⟨rfl, BF.out⟩
def bigO (o : Ob) : Bool := decide ((9000 : Int) < (o.b.length : Int)) || decide ((70 : Int) < (o.s.length : Int)) || decide ((70 : Int) < (o.t.length : Int))
def longB (l : List Ob) : Bool := l.any bigO || decide ((8 : Int) < (l.length : Int))
theorem longB_hit {l : List Ob} {j : Nat} (hj : j < l.length) (h : bigO (l.getD j default) = true) : longB l = true := by
  unfold longB
  have : l.any bigO = true := by have := any_take_hit (n := l.length) hj hj h; rwa [List.take_length] at this
  rw [this]; rfl
theorem long22 (l : List Ob) (lv : Value) (w : World) (h : Obs w lv l) : Calls Tryz.prog 11 #[lv] w fun e w' => e = .returned (.bool (longB l)) ∧ w = w' := by
  obtain ⟨a, c, rfl, h1, h2, h3⟩ := h.shape
  have HR := Lib.hid h3
  clear h h3
  go_enter Tryz.func11, Tryz.ntmps11
  go_wp2_with fail
  go_loop [3] (fun i => ∃ j : Nat, j ≤ l.length ∧ i = .int .i64 j ∧ Hid ((l.take j).any bigO = false)) (fun i => l.length - (intOf i).toNat)
  case atStart => exact ⟨0, Nat.zero_le _, rfl, rfl⟩
  case round =>
    obtain ⟨j, hj, rfl, hno⟩ := hrel
    by_cases hjl : j < l.length
    · obtain ⟨b, q, ea, hbl, vb, vs, vt, y0, y1, y2, hx⟩ := HR.out j hjl
      subst ea
      obtain ⟨ba, cb, rfl, _, _⟩ := hx.1.shape2
      obtain ⟨sa, cs, rfl, _⟩ := hx.2.1.shape
      obtain ⟨ta, ct, rfl, _⟩ := hx.2.2.shape
      generalize hlo : l.getD j default = oj at *
      have HO := Lib.hid hlo
      clear hlo hx
      cases g1 : decide ((9000 : Int) < (oj.b.length : Int))
      case true =>
        have HT : Hid (longB l = true) := longB_hit hjl (by rw [HO.out, bigO, g1]; rfl)
        go_wp2_with fail
        go_ret
        exact ⟨ret_b HT.out.symm, rfl⟩
      case false =>
        cases g2 : decide ((70 : Int) < (oj.s.length : Int))
        case true =>
          have HT : Hid (longB l = true) := longB_hit hjl (by rw [HO.out, bigO, g1, g2]; rfl)
          go_wp2_with fail
          go_ret
          exact ⟨ret_b HT.out.symm, rfl⟩
        case false =>
          cases g3 : decide ((70 : Int) < (oj.t.length : Int))
          case true =>
            have HT : Hid (longB l = true) := longB_hit hjl (by rw [HO.out, bigO, g1, g2, g3]; rfl)
            go_wp2_with fail
            go_ret
            exact ⟨ret_b HT.out.symm, rfl⟩
          case false =>
            have HN : Hid ((l.take (j + 1)).any bigO = false) := any_take_step hjl hno.out (by rw [HO.out, bigO, g1, g2, g3]; rfl)
            go_wp2_with fail
            go_round
            case rel => exact ⟨j + 1, by omega, by go_num, HN.out⟩
            case measure => simp [intOf]; omega
    · obtain rfl : j = l.length := by omega
      have HT : Hid (longB l = decide ((8 : Int) < (l.length : Int))) := by
        refine Lib.hid ?_
        have := hno.out
        rw [List.take_length] at this
        unfold longB
        rw [this]; rfl
      go_wp2_with fail
      go_ret
      exact ⟨ret_b HT.out.symm, rfl⟩
theorem Ob3.one {w W : World} {vb vs vt : Value} {o : Ob} {g : Nat} (h : Ob3 w vb vs vt o) (hb : Below w.heap.size w W) (hc : Cls W g [vb, vs, vt]) : Obs W (.slice (some ⟨g, 0, none⟩) 1 1) [o] := by
  refine ⟨some ⟨g, 0, none⟩, 1, rfl, Nat.le_refl _, ⟨by simp, by omega⟩, (fun hh => by cases hh), fun i hi => ⟨g, 0, rfl, hc.lt (by simp), ?_⟩⟩
  obtain rfl : i = 0 := by simp at hi; omega
  exact ⟨vb, vs, vt, hc.at 0 _ rfl, hc.at 1 _ rfl, hc.at 2 _ rfl, h.stays hb⟩
theorem linkF_zero {base : Int} {l : List Ob} {b : Bool} (h : linkF base l b = 0) : l.length ≤ 4 ∧ (∀ o ∈ l, valO o = 0) ∧ 0 ≤ base ∧ base ≤ 32768 ∧ base.tmod 4 = 0 ∧ dupR l l.length = false ∧ (b && missB l (syJ base l l.length) l.length) = false ∧ base + zJ l l.length ≤ 32768 := by
  unfold linkF at h
  by_cases h1 : 4 < l.length
  · rw [if_pos h1] at h; cases h
  · rw [if_neg h1] at h
    by_cases h2 : firstE l ≠ 0
    · rw [if_pos h2] at h; exact absurd h h2
    · rw [if_neg h2] at h
      by_cases h3 : base < 0 ∨ 32768 < base ∨ base.tmod 4 ≠ 0
      · rw [if_pos h3] at h; cases h
      · rw [if_neg h3] at h
        cases h4 : dupR l l.length with
        | true => rw [h4] at h; cases h
        | false =>
          rw [h4, if_neg (by simp)] at h
          cases h5 : (b && missB l (syJ base l l.length) l.length) with
          | true => rw [h5] at h; cases h
          | false =>
            rw [h5, if_neg (by simp)] at h
            by_cases h6 : 32768 < base + zJ l l.length
            · rw [if_pos h6] at h; cases h
            · exact ⟨by omega, firstE_zero (by omega), by omega, by omega, by_contra_tm h3, rfl, rfl, by omega⟩
def stA (base : Int) (l : List Ob) : Im := ⟨(List.range l.length).map (pJ l), zJ l l.length, syJ base l l.length⟩
theorem stA_get {base : Int} {l : List Ob} {j : Nat} (h : j < l.length) : (stA base l).p.getD j 0 = pJ l j := by
  unfold stA
  simp only
  rw [List.getD_eq_getElem?_getD, List.getElem?_map, List.getElem?_range h]; rfl
theorem LinkP.yes {base : Int} {l : List Ob} {w w' : World} {v : Value} (h0 : linkF base l true = 0) (hv : Ints .u8 w' v (linkJ base l (stA base l) l.length)) (hb : Below w.heap.size w w') : LinkP base l w (.returned (.tuple #[v, .int .i64 0])) w' := by
  have h := linkF_link base l
  rw [h0] at h
  obtain ⟨-, g2, -, -, -, g6, -, -⟩ := linkF_zero h0
  refine ⟨v, by rw [← h], fun hn => absurd h.symm hn, fun _ st hst => ?_, hb⟩
  rw [arrL_all g2, g6, if_neg (by simp)] at hst
  cases hst
  exact hv
theorem take_snocD {xs : List Int} {k : Nat} (h : k < xs.length) : xs.take (k + 1) = xs.take k ++ [xs.getD k 0] := by
  rw [List.take_add_one, List.getElem?_eq_getElem h, List.getD_eq_getElem?_getD, List.getElem?_eq_getElem h]; rfl
theorem sameB_eq (xs : List Int) (v u : Value) (w : World) (hv : Ints .u8 w v xs) (hu : Ints .u8 w u xs) : Calls Tryz.prog 17 #[v, u] w fun e w' => e = .returned (.bool true) ∧ w = w' := by
  have s1 := hv.str
  have s2 := hu.str
  obtain ⟨a, c, rfl, -⟩ := hv.shape2
  obtain ⟨a', c', rfl, -⟩ := hu.shape2
  generalize strOfNums xs = s at *
  clear hv hu
  go_enter Tryz.func17, Tryz.ntmps17
  go_wp2_with fail
  go_ret
  exact ⟨rfl, rfl⟩
theorem LinkP.ints {base : Int} {l : List Ob} {w w' : World} {e : Ending} (h : LinkP base l w e w') : ∃ v xs, e = .returned (.tuple #[v, .int .i64 (linkE base l)]) ∧ Ints .u8 w' v xs ∧ xs = (if linkE base l = 0 then linkJ base l (stA base l) l.length else []) ∧ Below w.heap.size w w' := by
  obtain ⟨v, h1, h2, h3, h4⟩ := h
  by_cases h0 : linkE base l = 0
  · have h5 := linkF_link base l
    rw [h0] at h5
    obtain ⟨-, g2, -, -, -, g6, -, -⟩ := linkF_zero h5
    have e := arrL_all (base := base) g2
    rw [g6, if_neg (by simp)] at e
    exact ⟨v, _, h1, h3 h0 _ e, by rw [if_pos h0]; rfl, h4⟩
  · rw [h2 h0] at h1
    exact ⟨_, [], h1, Ints.nil _ _, by rw [if_neg h0], h4⟩
def mac4 (xs : List Int) : Mac := ⟨List.replicate 32 0, 0, 4096, xs, 0⟩
def loadE (img mem : List Int) : Int := if mem.length ≠ 32768 then 1 else if 28672 < img.length then 3 else 0
def loadC (img mem : List Int) : Mac := if loadE img mem = 0 then mac4 (setL mem 4096 img) else mac0
def LoadP (img mem : List Int) (w : World) (e : Ending) (w' : World) : Prop :=
  ∃ mv, e = .returned (.tuple #[.agg (macC (loadC img mem) mv).toArray, .int .i64 (loadE img mem)]) ∧ MemO w.heap.size w' mv (loadC img mem).m ∧ Below w.heap.size w w'
theorem LoadP.no {img mem : List Int} {w w' : World} {n : Int} (h : loadE img mem = n) (hn : n ≠ 0) (hb : Below w.heap.size w w') : LoadP img mem w (.returned (.tuple #[.agg (macC mac0 (.slice none 0 0)).toArray, .int .i64 n])) w' := by
  have e : loadC img mem = mac0 := by unfold loadC; rw [h, if_neg hn]
  exact ⟨.slice none 0 0, by rw [e, h], by rw [e]; exact Or.inl ⟨rfl, rfl⟩, hb⟩
theorem LoadP.yes {img mem : List Int} {w w' : World} {mv : Value} (h : loadE img mem = 0) (hm : MemO w.heap.size w' mv (setL mem 4096 img)) (hb : Below w.heap.size w w') : LoadP img mem w (.returned (.tuple #[.agg (macC (mac4 (setL mem 4096 img)) mv).toArray, .int .i64 0])) w' := by
  have e : loadC img mem = mac4 (setL mem 4096 img) := by unfold loadC; rw [if_pos h]
  exact ⟨mv, by rw [e, h], by rw [e]; exact hm, hb⟩
theorem mac_info : (Tryz.prog.info? 61).map (·.size) = some 36 := by kernel_rfl
set_option maxHeartbeats 4000000 in
theorem pLoad_any (img mem : List Int) (iv mv : Value) (w : World) (hi : Ints .u8 w iv img) (hm : Ints .u8 w mv mem) : Calls Tryz.prog 27 #[iv, mv] w (LoadP img mem w) := by
  obtain ⟨ia, ic, rfl, hi1, hi2⟩ := hi.shape2
  obtain ⟨ma, mc, rfl, hm1, hm2⟩ := hm.shape2
  obtain ⟨hb1, k0⟩ := box_cells w (macC mac0 (.slice none 0 0)) 61
  have hw0 : w.alloc (.cells (macC mac0 (.slice none 0 0)).toArray 61) = w.alloc (.cells #[.int .u32 0, .int .u32 0, .int .u32 0, .int .u32 0, .int .u32 0, .int .u32 0, .int .u32 0, .int .u32 0, .int .u32 0, .int .u32 0, .int .u32 0, .int .u32 0, .int .u32 0, .int .u32 0, .int .u32 0, .int .u32 0, .int .u32 0, .int .u32 0, .int .u32 0, .int .u32 0, .int .u32 0, .int .u32 0, .int .u32 0, .int .u32 0, .int .u32 0, .int .u32 0, .int .u32 0, .int .u32 0, .int .u32 0, .int .u32 0, .int .u32 0, .int .u32 0, .int .i64 0, .int .u32 0, .slice none 0 0, .int .i64 0] 61) := rfl
  obtain ⟨W1, hW1⟩ : ∃ W, w.alloc (.cells #[.int .u32 0, .int .u32 0, .int .u32 0, .int .u32 0, .int .u32 0, .int .u32 0, .int .u32 0, .int .u32 0, .int .u32 0, .int .u32 0, .int .u32 0, .int .u32 0, .int .u32 0, .int .u32 0, .int .u32 0, .int .u32 0, .int .u32 0, .int .u32 0, .int .u32 0, .int .u32 0, .int .u32 0, .int .u32 0, .int .u32 0, .int .u32 0, .int .u32 0, .int .u32 0, .int .u32 0, .int .u32 0, .int .u32 0, .int .u32 0, .int .u32 0, .int .u32 0, .int .i64 0, .int .u32 0, .slice none 0 0, .int .i64 0] 61) = W := ⟨_, rfl⟩
  rw [hw0, hW1] at hb1 k0
  have hsW : W1.heap.size = w.heap.size + 1 := by rw [← hW1]; simp
  have hth := k0.there (ds := macC mac0 (.slice none 0 0)) rfl
  have hsz : (Tryz.prog.info? 61).map (·.size) = some (macC mac0 (.slice none 0 0)).toArray.size := mac_info
  have hone := macC_ones (c := mac0) (mv := .slice none 0 0) ⟨_, _, _, rfl⟩
  have KZ := Lib.hid (k0.setCells (ds := macC mac0 (.slice none 0 0)) rfl)
  have BZ := Lib.hid (below_setCells (b := w.heap.size) (Nat.le_refl _) (macC mac0 (.slice none 0 0)) 0 W1 hb1)
  have HK := Lib.hid k0
  have HB1 := Lib.hid hb1
  have HI := Lib.hid (hi.stays hb1)
  have HM := Lib.hid (hm.stays hb1)
  have HS := Lib.hid hsW
  clear hw0 hb1 k0 hi hm hsW
  cases d1 : (((mem.length : Nat) : Int) != 32768)
  case true =>
    have HQ : Hid (loadE img mem = 1) := Lib.hid (by unfold loadE; rw [if_pos]; intro h; rw [h] at d1; simp at d1)
    go_enter Tryz.func27, Tryz.ntmps27
    go_wp2_with (refine wpList_store_mid rfl _ _ _ rfl w.heap.size 0 (macC mac0 (.slice none 0 0)).toArray rfl rfl hth hsz hone ?_)
    exact bodyPost_ret (v := .tuple #[.agg (macC mac0 (.slice none 0 0)).toArray, .int .i64 1]) (res2 rfl rfl rfl KZ.out Tryz.underlying61 rfl mac_info) rfl (LoadP.no HQ.out (by decide) BZ.out)
  case false =>
    have hml : mem.length = 32768 := by simp at d1; omega
    cases d2 : decide ((32768 : Int) < 4096 + (img.length : Int))
    case true =>
      have HQ : Hid (loadE img mem = 3) := Lib.hid (by have := of_decide_eq_true d2; unfold loadE; rw [if_neg (by omega), if_pos (by omega)])
      clear d1
      rw [hml] at HM ⊢
      clear hm1 hm2
      have d1 : ((32768 : Int) != 32768) = false := by decide
      go_enter Tryz.func27, Tryz.ntmps27
      go_wp2_with (refine wpList_store_mid rfl _ _ _ rfl w.heap.size 0 (macC mac0 (.slice none 0 0)).toArray rfl rfl hth hsz hone ?_)
      exact bodyPost_ret (v := .tuple #[.agg (macC mac0 (.slice none 0 0)).toArray, .int .i64 3]) (res2 rfl rfl rfl KZ.out Tryz.underlying61 rfl mac_info) rfl (LoadP.no HQ.out (by decide) BZ.out)
    case false =>
      have hil : img.length ≤ 28672 := by have := of_decide_eq_false d2; omega
      have HQ : Hid (loadE img mem = 0) := Lib.hid (by unfold loadE; rw [if_neg (by omega), if_neg (by omega)])
      have CC := Lib.hid (clone_any mem (.slice ma mem.length mc) W1 HM.out (by omega) (by omega))
      rw [hml] at CC ⊢
      clear hm1 d1
      go_enter Tryz.func27, Tryz.ntmps27
      go_upto_region 6 with (first | ((go_at_call 63; with_reducible refine CC.out.mono ?_); rintro e w2 ⟨v2, rfl, hr2, hb2⟩; obtain ⟨a2, c2, rfl⟩ := hr2.shape; have hone4 := macC_ones (c := mac4 mem) (mv := .slice a2 mem.length c2) ⟨_, _, _, rfl⟩; rw [hml] at hone4 ⊢) | (refine wpList_store_row rfl _ _ _ rfl w2.heap.size (macC (mac4 mem) (.slice a2 32768 c2)).toArray rfl rfl 61 _ (newest _ _ _) mac_info rfl hone4 ?_))
      obtain ⟨hb3, k3, hs3⟩ := row_cells w2 (macC mac0 (.slice none 0 0)).toArray (macC (mac4 mem) (.slice a2 32768 c2)) 61
      have hW3 : (w2.alloc (.cells (macC mac0 (.slice none 0 0)).toArray 61)).setRow w2.heap.size (macC (mac4 mem) (.slice a2 32768 c2)).toArray = (w2.alloc (.cells #[.int .u32 0, .int .u32 0, .int .u32 0, .int .u32 0, .int .u32 0, .int .u32 0, .int .u32 0, .int .u32 0, .int .u32 0, .int .u32 0, .int .u32 0, .int .u32 0, .int .u32 0, .int .u32 0, .int .u32 0, .int .u32 0, .int .u32 0, .int .u32 0, .int .u32 0, .int .u32 0, .int .u32 0, .int .u32 0, .int .u32 0, .int .u32 0, .int .u32 0, .int .u32 0, .int .u32 0, .int .u32 0, .int .u32 0, .int .u32 0, .int .u32 0, .int .u32 0, .int .i64 0, .int .u32 0, .slice none 0 0, .int .i64 0] 61)).setRow w2.heap.size (macC (mac4 mem) (.slice a2 32768 c2)).toArray := rfl
      rw [hW3] at hb3 k3 hs3
      clear hW3
      generalize (w2.alloc (.cells #[.int .u32 0, .int .u32 0, .int .u32 0, .int .u32 0, .int .u32 0, .int .u32 0, .int .u32 0, .int .u32 0, .int .u32 0, .int .u32 0, .int .u32 0, .int .u32 0, .int .u32 0, .int .u32 0, .int .u32 0, .int .u32 0, .int .u32 0, .int .u32 0, .int .u32 0, .int .u32 0, .int .u32 0, .int .u32 0, .int .u32 0, .int .u32 0, .int .u32 0, .int .u32 0, .int .u32 0, .int .u32 0, .int .u32 0, .int .u32 0, .int .u32 0, .int .u32 0, .int .i64 0, .int .u32 0, .slice none 0 0, .int .i64 0] 61)).setRow w2.heap.size (macC (mac4 mem) (.slice a2 32768 c2)).toArray = W3 at *
      have hmo := hr2.memO.below hb3
      rw [hml] at hmo
      rcases hmo with ⟨e, _⟩ | ⟨D, cap, e, hcl, hcu, hbD, hOD⟩
      · rw [e] at hml; cases hml
      rw [hml] at e hcl
      cases e
      have hDW2 : D < w2.heap.size := by
        rcases hr2.memO with ⟨e, _⟩ | ⟨D', _, e, _, _, _, h6⟩
        · rw [e] at hml; cases hml
        · cases e; exact h6.1
      obtain ⟨-, -, ⟨m34, -⟩, -⟩ := k3.tails rfl
      have HB12 := Lib.hid (hb2)
      have HI3 := Lib.hid ((HI.out.stays hb2).stays hb3)
      have hcpy : ∀ ty, (Builtin.copy_ #[22, 22] ty #[.slice (some ⟨D, 4096, none⟩) 28672 (c2 - 4096), .slice ia img.length ic]).run Tryz.prog W3 = .ok (goInt img.length) (W3.setCells D 4096 (img.map (Value.int .u8))) := fun ty => copy_in HI3.out hOD (by omega) (by omega)
      have hne : ¬ c2 = 4096 := by omega
      have HO4 : Hid (OInts .u8 (W3.setCells D 4096 (img.map (Value.int .u8))) D (setL mem 4096 img)) := Lib.hid (OInts.setCells hOD (by omega))
      have HK4 : Hid (CellsAt (W3.setCells D 4096 (img.map (Value.int .u8))) w2.heap.size (macC (mac4 mem) (.slice (some ⟨D, 0, none⟩) 32768 c2))) := Lib.hid (Cls.cells (by omega) _ _ _ k3)
      have HB4 : Hid (Below W1.heap.size W1 (W3.setCells D 4096 (img.map (Value.int .u8)))) := Lib.hid (below_cells hbD _ _ _ (below_hop hb2 hb3))
      have hs4 : (W3.setCells D 4096 (img.map (Value.int .u8))).heap.size = w2.heap.size + 1 := by rw [size_setCells']; exact hs3
      have HS4 := Lib.hid hs4
      clear hs4 hb2 hb3 hr2 k3 hOD
      go_upto_region 7 with fail
      generalize hW4 : W3.setCells D 4096 (img.map (Value.int .u8)) = W4 at *
      have hrg := HK4.out.range
      have hRlt : w.heap.size < W1.heap.size := by have := HS.out; omega
      have hK1 : CellsAt W4 w.heap.size (macC mac0 (.slice none 0 0)) := HK.out.block (HB4.out.block _ hRlt)
      have hth4 := hK1.there (ds := macC (mac4 mem) (.slice (some ⟨D, 0, none⟩) 32768 c2)) rfl
      have hone5 := hone4
      have hsz4 : (Tryz.prog.info? 61).map (·.size) = some (macC (mac4 mem) (.slice (some ⟨D, 0, none⟩) 32768 c2)).toArray.size := mac_info
      have hsz5 : (Tryz.prog.info? 61).map (·.size) = some (macC (mac4 mem) (.slice (some ⟨D, 0, none⟩) 32768 c2)).length := mac_info
      have HF := Lib.hid (hK1.setCells (ds := macC (mac4 mem) (.slice (some ⟨D, 0, none⟩) 32768 c2)) rfl)
      have HOF : Hid (MemO w.heap.size (W4.setCells w.heap.size 0 (macC (mac4 mem) (.slice (some ⟨D, 0, none⟩) 32768 c2))) (.slice (some ⟨D, 0, none⟩) 32768 c2) (setL mem 4096 img)) := by
        refine Lib.hid (Or.inr ⟨D, c2, by rw [setL_length, hml], by rw [setL_length, hml]; exact hcl, by omega, by omega, HO4.out.cellsO (by omega) _⟩)
      have HBF := Lib.hid (below_setCells (b := w.heap.size) (Nat.le_refl _) (macC (mac4 mem) (.slice (some ⟨D, 0, none⟩) 32768 c2)) 0 W4 (below_hop HB1.out HB4.out))
      generalize hcs : macC (mac4 mem) (.slice (some ⟨D, 0, none⟩) 32768 c2) = cs at *
      have HCS := Lib.hid hcs
      clear m34 hcpy hW4 hK1 hcs hone4 hth hsz hone KZ BZ hW1
      go_wp2_with (first | (refine wpList_load_mid rfl _ _ rfl w2.heap.size 0 rfl cs _ hrg Tryz.underlying61 rfl hsz5 ?_) | (refine wpList_store_mid rfl _ _ _ rfl w.heap.size 0 cs.toArray rfl rfl hth4 hsz4 hone5 ?_))
      refine bodyPost_ret (v := .tuple #[.agg cs.toArray, .int .i64 0]) (res2 rfl rfl rfl HF.out Tryz.underlying61 rfl hsz5) rfl ?_
      rw [← HCS.out]
      rw [← HCS.out] at HOF HBF
      exact LoadP.yes HQ.out HOF.out HBF.out
set_option maxHeartbeats 4000000 in
theorem rLoad_any (img mem : List Int) (iv mv : Value) (w : World) (hi : Ints .u8 w iv img) (hm : Ints .u8 w mv mem) : Calls Tryz.prog 25 #[iv, mv] w (LoadP img mem w) := by
  obtain ⟨ia, ic, rfl, hi1, hi2⟩ := hi.shape2
  obtain ⟨ma, mc, rfl, hm1, hm2⟩ := hm.shape2
  obtain ⟨hb1, k0⟩ := box_cells w (macC mac0 (.slice none 0 0)) 61
  have hw0 : w.alloc (.cells (macC mac0 (.slice none 0 0)).toArray 61) = w.alloc (.cells #[.int .u32 0, .int .u32 0, .int .u32 0, .int .u32 0, .int .u32 0, .int .u32 0, .int .u32 0, .int .u32 0, .int .u32 0, .int .u32 0, .int .u32 0, .int .u32 0, .int .u32 0, .int .u32 0, .int .u32 0, .int .u32 0, .int .u32 0, .int .u32 0, .int .u32 0, .int .u32 0, .int .u32 0, .int .u32 0, .int .u32 0, .int .u32 0, .int .u32 0, .int .u32 0, .int .u32 0, .int .u32 0, .int .u32 0, .int .u32 0, .int .u32 0, .int .u32 0, .int .i64 0, .int .u32 0, .slice none 0 0, .int .i64 0] 61) := rfl
  obtain ⟨W1, hW1⟩ : ∃ W, w.alloc (.cells #[.int .u32 0, .int .u32 0, .int .u32 0, .int .u32 0, .int .u32 0, .int .u32 0, .int .u32 0, .int .u32 0, .int .u32 0, .int .u32 0, .int .u32 0, .int .u32 0, .int .u32 0, .int .u32 0, .int .u32 0, .int .u32 0, .int .u32 0, .int .u32 0, .int .u32 0, .int .u32 0, .int .u32 0, .int .u32 0, .int .u32 0, .int .u32 0, .int .u32 0, .int .u32 0, .int .u32 0, .int .u32 0, .int .u32 0, .int .u32 0, .int .u32 0, .int .u32 0, .int .i64 0, .int .u32 0, .slice none 0 0, .int .i64 0] 61) = W := ⟨_, rfl⟩
  rw [hw0, hW1] at hb1 k0
  have hsW : W1.heap.size = w.heap.size + 1 := by rw [← hW1]; simp
  have hth := k0.there (ds := macC mac0 (.slice none 0 0)) rfl
  have hsz : (Tryz.prog.info? 61).map (·.size) = some (macC mac0 (.slice none 0 0)).toArray.size := mac_info
  have hone := macC_ones (c := mac0) (mv := .slice none 0 0) ⟨_, _, _, rfl⟩
  have KZ := Lib.hid (k0.setCells (ds := macC mac0 (.slice none 0 0)) rfl)
  have BZ := Lib.hid (below_setCells (b := w.heap.size) (Nat.le_refl _) (macC mac0 (.slice none 0 0)) 0 W1 hb1)
  have HK := Lib.hid k0
  have HB1 := Lib.hid hb1
  have HI := Lib.hid (hi.stays hb1)
  have HM := Lib.hid (hm.stays hb1)
  have HS := Lib.hid hsW
  clear hw0 hb1 k0 hi hm hsW
  cases d1 : (((mem.length : Nat) : Int) != 32768)
  case true =>
    have HQ : Hid (loadE img mem = 1) := Lib.hid (by unfold loadE; rw [if_pos]; intro h; rw [h] at d1; simp at d1)
    go_enter Tryz.func25, Tryz.ntmps25
    go_wp2_with (refine wpList_store_mid rfl _ _ _ rfl w.heap.size 0 (macC mac0 (.slice none 0 0)).toArray rfl rfl hth hsz hone ?_)
    exact bodyPost_ret (v := .tuple #[.agg (macC mac0 (.slice none 0 0)).toArray, .int .i64 1]) (res2 rfl rfl rfl KZ.out Tryz.underlying61 rfl mac_info) rfl (LoadP.no HQ.out (by decide) BZ.out)
  case false =>
    have hml : mem.length = 32768 := by simp at d1; omega
    cases d2 : decide ((28672 : Int) < (img.length : Int))
    case true =>
      have HQ : Hid (loadE img mem = 3) := Lib.hid (by have := of_decide_eq_true d2; unfold loadE; rw [if_neg (by omega), if_pos (by omega)])
      clear d1
      rw [hml] at HM ⊢
      clear hm1 hm2
      have d1 : ((32768 : Int) != 32768) = false := by decide
      go_enter Tryz.func25, Tryz.ntmps25
      go_wp2_with (refine wpList_store_mid rfl _ _ _ rfl w.heap.size 0 (macC mac0 (.slice none 0 0)).toArray rfl rfl hth hsz hone ?_)
      exact bodyPost_ret (v := .tuple #[.agg (macC mac0 (.slice none 0 0)).toArray, .int .i64 3]) (res2 rfl rfl rfl KZ.out Tryz.underlying61 rfl mac_info) rfl (LoadP.no HQ.out (by decide) BZ.out)
    case false =>
      have hil : img.length ≤ 28672 := by have := of_decide_eq_false d2; omega
      have HQ : Hid (loadE img mem = 0) := Lib.hid (by unfold loadE; rw [if_neg (by omega), if_neg (by omega)])
      have hone4 := fun (v : Value) (h : ∃ a l k, v = .slice a l k) => macC_ones (c := mac4 mem) (mv := v) h
      clear hm1 d1
      rw [hml] at HM ⊢
      have d1 : ((32768 : Int) != 32768) = false := by decide
      have HE : Hid (RowI (W1.alloc (.cells #[] 5)) W1.heap.size 5 .u8 (.slice (some ⟨W1.heap.size, 0, none⟩) 0 0) []) := Lib.hid (RowI.lit W1 #[] [] .u8 5 W1.heap.size 0 (Nat.le_refl _) rfl rfl (by unfold maxLen; simp))
      have HM2 := Lib.hid (HM.out.stays ((Below.refl W1.heap.size W1).alloc (Nat.le_refl _) (.cells #[] 5)))
      go_enter Tryz.func25, Tryz.ntmps25
      go_upto_region 6 with (first | (at_builtin; refine wpList_app_u8 rfl _ _ rfl W1.heap.size _ [] rfl HE.out _ mem rfl HM2.out (by omega) (by simp; omega) (by simp) (fun v2 w2 hr2 hb2 => ?_); have hr2b : RowI w2 W1.heap.size 5 .u8 v2 mem := hr2; obtain ⟨a2, c2, rfl⟩ := hr2b.shape; have hone5 := hone4 (.slice a2 mem.length c2) ⟨_, _, _, rfl⟩; rw [hml] at hone5 ⊢) | (refine wpList_store_row rfl _ _ _ rfl w2.heap.size (macC (mac4 mem) (.slice a2 32768 c2)).toArray rfl rfl 61 _ (newest _ _ _) mac_info rfl hone5 ?_))
      obtain ⟨hb3, k3, hs3⟩ := row_cells w2 (macC mac0 (.slice none 0 0)).toArray (macC (mac4 mem) (.slice a2 32768 c2)) 61
      have hW3 : (w2.alloc (.cells (macC mac0 (.slice none 0 0)).toArray 61)).setRow w2.heap.size (macC (mac4 mem) (.slice a2 32768 c2)).toArray = (w2.alloc (.cells #[.int .u32 0, .int .u32 0, .int .u32 0, .int .u32 0, .int .u32 0, .int .u32 0, .int .u32 0, .int .u32 0, .int .u32 0, .int .u32 0, .int .u32 0, .int .u32 0, .int .u32 0, .int .u32 0, .int .u32 0, .int .u32 0, .int .u32 0, .int .u32 0, .int .u32 0, .int .u32 0, .int .u32 0, .int .u32 0, .int .u32 0, .int .u32 0, .int .u32 0, .int .u32 0, .int .u32 0, .int .u32 0, .int .u32 0, .int .u32 0, .int .u32 0, .int .u32 0, .int .i64 0, .int .u32 0, .slice none 0 0, .int .i64 0] 61)).setRow w2.heap.size (macC (mac4 mem) (.slice a2 32768 c2)).toArray := rfl
      rw [hW3] at hb3 k3 hs3
      clear hW3
      generalize (w2.alloc (.cells #[.int .u32 0, .int .u32 0, .int .u32 0, .int .u32 0, .int .u32 0, .int .u32 0, .int .u32 0, .int .u32 0, .int .u32 0, .int .u32 0, .int .u32 0, .int .u32 0, .int .u32 0, .int .u32 0, .int .u32 0, .int .u32 0, .int .u32 0, .int .u32 0, .int .u32 0, .int .u32 0, .int .u32 0, .int .u32 0, .int .u32 0, .int .u32 0, .int .u32 0, .int .u32 0, .int .u32 0, .int .u32 0, .int .u32 0, .int .u32 0, .int .u32 0, .int .u32 0, .int .i64 0, .int .u32 0, .slice none 0 0, .int .i64 0] 61)).setRow w2.heap.size (macC (mac4 mem) (.slice a2 32768 c2)).toArray = W3 at *
      have hmo := hr2b.memO.below hb3
      rw [hml] at hmo
      rcases hmo with ⟨e, _⟩ | ⟨D, cap, e, hcl, hcu, hbD, hOD⟩
      · rw [e] at hml; cases hml
      rw [hml] at e hcl
      cases e
      have hDW2 : D < w2.heap.size := by
        rcases hr2b.memO with ⟨e, _⟩ | ⟨D', _, e, _, _, _, h6⟩
        · rw [e] at hml; cases hml
        · cases e; exact h6.1
      have HB3 := Lib.hid ((((Below.refl W1.heap.size W1).alloc (Nat.le_refl _) (.cells #[] 5)).trans hb2).trans (hb3.mono (by have := hb2.size; simp at this; omega)))
      have HK3 := Lib.hid k3
      have HO3 := Lib.hid hOD
      generalize hO : w2.heap.size = O at *
      have hbO : W1.heap.size ≤ O := by have := hb2.size; simp at this; omega
      clear hb2 hb3 k3 hOD hr2 hr2b hO HE HM2 hone4
      go_wp2_with fail
      go_loopw [7] (fun i wr => ∃ k : Nat, k ≤ img.length ∧ i = .int .i64 k ∧ OInts .u8 wr D (setL mem 4096 (img.take k)) ∧ CellsAt wr O (macC (mac4 mem) (.slice (some ⟨D, 0, none⟩) 32768 c2)) ∧ Below W1.heap.size W1 wr) (fun i _ => img.length - (intOf i).toNat)
      case atStart => exact ⟨0, Nat.zero_le _, rfl, HO3.out, HK3.out, HB3.out⟩
      case round =>
        obtain ⟨k, hk, rfl, ho, hkc, hb⟩ := hrel
        have HOk := Lib.hid ho
        have HKk := Lib.hid hkc
        have HBk := Lib.hid hb
        by_cases hkl : k < img.length
        · obtain ⟨bi, oi, ci, ei, _, hbi, hci⟩ := Ints.at (HI.out.stays hb) hkl
          cases ei
          obtain ⟨-, -, ⟨m34, -⟩, -⟩ := hkc.tails rfl
          have hlk : (setL mem 4096 (img.take k)).length = 32768 := by rw [setL_length, hml]
          have d1' := ho.cell (i := 4096 + k) (by rw [hlk]; omega)
          have f1' := ho.free (i := 4096 + k) (by rw [hlk]; omega)
          have HST5 : Hid (OInts .u8 ((wr.drewN 1).setCell ⟨D, 4096 + k, none⟩ (.int .u8 (img.getD k 0))) D (setL mem 4096 (img.take (k + 1)))) := by
            refine Lib.hid ?_
            have := (ho.drewN 1).set (i := 4096 + k) (by rw [hlk]; omega) (img.getD k 0)
            rw [take_snocD hkl, setL_snoc, List.length_take, Nat.min_eq_left (by omega)]
            exact this
          have HKS : Hid (∀ u, CellsAt ((wr.drewN 1).setCell ⟨D, 4096 + k, none⟩ u) O (macC (mac4 mem) (.slice (some ⟨D, 0, none⟩) 32768 c2))) := Lib.hid (fun u => CellsAt.other (show CellsAt (wr.drewN 1) O _ from hkc) (by omega) u)
          have k0 : (0 : Int) ≤ (k : Int) := by omega
          have k1 : (k : Int) < (img.length : Int) := by omega
          have m0 : (0 : Int) ≤ 4096 + (k : Int) := by omega
          have m1 : 4096 + (k : Int) < 32768 := by omega
          have gD : D < wr.heap.size := ho.1
          have gO : O < wr.heap.size := hkc.lt (by simp [macC, mac4])
          generalize img.getD k 0 = bk at *
          generalize (setL mem 4096 (img.take k)).getD (4096 + k) 0 = gd at d1'
          clear ho hkc hb hlk
          go_wp2_with fail
          go_region
          go_wp2_with fail
          go_roundw
          case rel => exact ⟨k + 1, by omega, by go_num, HST5.out, HKS.out _, below_at (below_drewN HBk.out 1) hbD _ _⟩
          case measure => simp [intOf]; omega
        · obtain rfl : k = img.length := by omega
          rw [List.take_length] at ho
          have HO4 := Lib.hid ho
          have hrg := hkc.range
          have hRlt : w.heap.size < W1.heap.size := by have := HS.out; omega
          have hK1 : CellsAt wr w.heap.size (macC mac0 (.slice none 0 0)) := HK.out.block (hb.block _ hRlt)
          have hth4 := hK1.there (ds := macC (mac4 mem) (.slice (some ⟨D, 0, none⟩) 32768 c2)) rfl
          have hsz4 : (Tryz.prog.info? 61).map (·.size) = some (macC (mac4 mem) (.slice (some ⟨D, 0, none⟩) 32768 c2)).toArray.size := mac_info
          have hsz5 : (Tryz.prog.info? 61).map (·.size) = some (macC (mac4 mem) (.slice (some ⟨D, 0, none⟩) 32768 c2)).length := mac_info
          have HF := Lib.hid (hK1.setCells (ds := macC (mac4 mem) (.slice (some ⟨D, 0, none⟩) 32768 c2)) rfl)
          have HOF : Hid (MemO w.heap.size (wr.setCells w.heap.size 0 (macC (mac4 mem) (.slice (some ⟨D, 0, none⟩) 32768 c2))) (.slice (some ⟨D, 0, none⟩) 32768 c2) (setL mem 4096 img)) := by
            refine Lib.hid (Or.inr ⟨D, c2, by rw [setL_length, hml], by rw [setL_length, hml]; exact hcl, by omega, by omega, HO4.out.cellsO (by omega) _⟩)
          have HBF := Lib.hid (below_setCells (b := w.heap.size) (Nat.le_refl _) (macC (mac4 mem) (.slice (some ⟨D, 0, none⟩) 32768 c2)) 0 wr (below_hop HB1.out hb))
          generalize hcs : macC (mac4 mem) (.slice (some ⟨D, 0, none⟩) 32768 c2) = cs at *
          have HCS := Lib.hid hcs
          clear hK1 hcs ho hkc hb hth hsz hone KZ BZ hW1
          go_wp2_with (first | (refine wpList_load_mid rfl _ _ rfl O 0 rfl cs _ hrg Tryz.underlying61 rfl hsz5 ?_) | (refine wpList_store_mid rfl _ _ _ rfl w.heap.size 0 cs.toArray rfl rfl hth4 hsz4 hone5 ?_))
          refine bodyPost_ret (v := .tuple #[.agg cs.toArray, .int .i64 0]) (res2 rfl rfl rfl HF.out Tryz.underlying61 rfl hsz5) rfl ?_
          rw [← HCS.out]
          rw [← HCS.out] at HOF HBF
          exact LoadP.yes HQ.out HOF.out HBF.out
theorem eql_same {P : Program} (w : World) {t e : TypeId} {n : Nat} {i : TypeInfo} {k : IntKind} (ht : P.underlying t = some (.array n e)) (hi : P.info? e = some i) (hp : P.plainKey e = true) (hu : P.underlying e = some (.int k)) (hc : P.cellsOf e = 1) (l : List Int) (hl : l.length = n) :
    (binOp .eql t (.agg (l.map (Value.int k)).toArray) (.agg (l.map (Value.int k)).toArray)).run P w = .ok (.bool true) w := by
  rw [run_eql_struct, run_equalIn_array w 9999 _ _ ht hi, eqItems_same w 9998 hp hu hc l _ (fun j hj => by rw [hl]; exact List.mem_range.1 hj)]
  rfl
theorem same18_eq (c : Mac) (mv mv2 : Value) (w : World) (hr : c.r.length = 32) (hm : Ints .u8 w mv c.m) (hm2 : Ints .u8 w mv2 c.m) : Calls Tryz.prog 28 #[.agg (macC c mv).toArray, .agg (macC c mv2).toArray] w fun e w' => e = .returned (.bool true) ∧ Below w.heap.size w w' := by
  obtain ⟨k0, k1, hb1, hs1⟩ := two_new w (macC c mv) (macC c mv2) 61 (by rw [macC_len hr]; decide)
  obtain ⟨W1, hW1⟩ : ∃ W, (w.alloc (.cells (macC c mv).toArray 61)).alloc (.cells (macC c mv2).toArray 61) = W := ⟨_, rfl⟩
  rw [hW1] at k0 k1 hb1 hs1
  have r0 := k0.regs
  have r1 := k1.regs
  obtain ⟨i, hi⟩ : ∃ i, Tryz.prog.info? 58 = some i := ⟨_, rfl⟩
  have heql := fun w' => eql_same (P := Tryz.prog) w' (t := 59) (e := 58) Tryz.underlying59 hi (by kernel_rfl) Tryz.underlying58 (by kernel_rfl) c.r hr
  have hgd : Tryz.prog.eqGuardType Tryz.prog.depth 59 = false := by kernel_rfl
  have hsz : (Tryz.prog.info? 59).map (·.size) = some (c.r.map (Value.int .u32)).length := by rw [List.length_map, hr]; kernel_rfl
  obtain ⟨⟨x1, -⟩, ⟨x2, -⟩, ⟨x3, -⟩, ⟨x4, -⟩⟩ := k0.tails hr
  obtain ⟨⟨y1, -⟩, ⟨y2, -⟩, ⟨y3, -⟩, ⟨y4, -⟩⟩ := k1.tails hr
  have hv := (hm.stays hb1).str
  have hu := (hm2.stays hb1).str
  have HB := Lib.hid hb1
  obtain ⟨va, vc, rfl, hl1, hl2⟩ := hm.shape
  obtain ⟨va2, vc2, rfl, hl3, hl4⟩ := hm2.shape
  clear k0 k1 hb1 hs1 hm hm2 hi
  generalize hcs : macC c (.slice va c.m.length vc) = cs at *
  generalize hds : macC c (.slice va2 c.m.length vc2) = ds at *
  generalize c.r.map (Value.int .u32) = rs at *
  generalize strOfNums c.m = sm at *
  clear hcs hds
  go_enter Tryz.func28, Tryz.ntmps28
  go_wp2_with (first | (refine wpList_load_mid rfl _ _ rfl w.heap.size 0 rfl rs _ r0 Tryz.underlying59 rfl hsz ?_) | (refine wpList_load_mid rfl _ _ rfl (w.heap.size + 1) 0 rfl rs _ r1 Tryz.underlying59 rfl hsz ?_))
  go_ret
  exact ⟨rfl, HB.out⟩
def fillL (n : Nat) (b : Int) (k : Nat) : List Int := List.replicate k b ++ List.replicate (n - k) 0
theorem fillL_length {n : Nat} {b : Int} {k : Nat} (h : k ≤ n) : (fillL n b k).length = n := by simp [fillL]; omega
theorem fillL_step {n : Nat} {b : Int} {k : Nat} (h : k < n) : (fillL n b k).set k b = fillL n b (k + 1) := by
  unfold fillL
  rw [List.set_append_right _ _ (by simp), List.length_replicate, Nat.sub_self, show n - k = (n - (k + 1)) + 1 by omega, List.replicate_succ, List.set_cons_zero, List.replicate_succ' (n := k), List.append_assoc]
  rfl
theorem fillL_all (n : Nat) (b : Int) : fillL n b n = List.replicate n b := by simp [fillL]
theorem fillL_zero (n : Nat) (b : Int) : fillL n b 0 = List.replicate n 0 := by simp [fillL]
theorem rep_getD {n i : Nat} {b : Int} (h : i < n) : (List.replicate n b).getD i 0 = b := by
  rw [List.getD_eq_getElem?_getD, List.getElem?_replicate, if_pos h]; rfl
theorem MemO.setAt {base : Nat} {w : World} {D cap k n : Nat} {m : List Int} (h : MemO base w (.slice (some ⟨D, 0, none⟩) n cap) m) (hk : k < m.length) (y : Int) : MemO base (w.setCell ⟨D, k, none⟩ (.int .u8 y)) (.slice (some ⟨D, 0, none⟩) n cap) (m.set k y) := by
  rcases h with ⟨e, _⟩ | ⟨D', cap', e, h1, h2, h3, h4⟩
  · rw [e] at hk; cases hk
  · cases e
    exact Or.inr ⟨D, cap, by rw [List.length_set], by rw [List.length_set]; exact h1, h2, h3, h4.set hk y⟩
theorem loadC_len (img mem : List Int) (h : mem.length ≤ 40000) : (loadC img mem).r.length = 32 ∧ (loadC img mem).m.length ≤ 40000 := by
  unfold loadC
  by_cases e : loadE img mem = 0
  · rw [if_pos e]; exact ⟨rfl, by show (setL mem 4096 img).length ≤ 40000; rw [setL_length]; exact h⟩
  · rw [if_neg e]; exact ⟨rfl, by decide⟩
theorem macC_size {c : Mac} (h : c.r.length = 32) (mv : Value) : (Tryz.prog.info? 61).map (·.size) = some (macC c mv).toArray.size := by
  rw [List.size_toArray, macC_len h]; exact mac_info
theorem macC_36 {c : Mac} (h : c.r.length = 32) (mv : Value) : 36 = (macC c mv).toArray.size := by rw [List.size_toArray, macC_len h]
theorem qload3 {p : Prop} (h : p := by
  go_loop [14] (fun i => ∃ s : Nat, s ≤ k ∧ i = .int .i64 s) (fun i => k - (intOf i).toNat)
  case atStart => exact ⟨0, Nat.zero_le _, rfl⟩
  case round =>
    obtain ⟨s, hs', rfl⟩ := hrel
    by_cases hsl : s < k
    · have dd := HOT.out.cell (i := s) (by simpa using hsl)
      rw [rep_getD hsl] at dd
      go_wp2_with fail
      go_round
      case rel => exact ⟨s + 1, by omega, by go_num⟩
      case measure => simp [intOf]; omega
    · go_wp2_with (go_at_call 12; with_reducible refine (C4.out _).mono ?_; rintro e w9 ⟨rfl, hb9⟩)
      go_ret
      exact ⟨rfl, below_hop (below_hop HBk.out HBT.out) hb9⟩
 ) : p := h
theorem qload {p : Prop} (h : p := by
  have C1 := Lib.hid (fun w' (mv : Value) mem (hb : Below w.heap.size w w') (hm : Ints .u8 w' mv mem) => pLoad_any img mem (.slice ia img.length ic) mv w' (HI.out.stays hb) hm)
  have C2 := Lib.hid (fun w' (mv : Value) mem (hb : Below w.heap.size w w') (hm : Ints .u8 w' mv mem) => rLoad_any img mem (.slice ia img.length ic) mv w' (HI.out.stays hb) hm)
  obtain ⟨ii0, hii0, hzz0, hzz1, hzz2⟩ := info_parts info_u8b
  clear HI
  go_upto_region 5 with fail
  go_wp2_with (at_make; refine wpList_make_full _ rfl _ _ 22 rfl w.heap.size 5 ii0 (.int .u8 0) 1 Tryz.underlying22 hii0 hzz0 hzz1 .i64 .i64 _ _ zn rfl rfl rfl rfl ?d1 ?d2 ?d3 ?_)
  case d1 => first | omega | (rw [hzz2]; omega)
  case d2 => first | omega | exact Nat.le_refl _ | (unfold maxLen; omega)
  case d3 => first | omega | exact Nat.le_refl _ | (unfold maxLen; omega)
  intro w3 hown hgr
  have hO : OInts .u8 w3 w.heap.size (fillL zn b 0) := by
    rw [fillL_zero]
    exact (OInts.made hown : OInts .u8 w3 w.heap.size (List.replicate zn 0))
  have HB3 := Lib.hid (below_made hgr)
  have HO3 := Lib.hid hO
  have hDw : w.heap.size ≤ w.heap.size := Nat.le_refl _
  clear hown hgr hO
  obtain ⟨D, hD⟩ : ∃ D, w.heap.size = D := ⟨_, rfl⟩
  rw [hD]
  rw [hD] at HO3 hDw
  have HD := Lib.hid hD
  clear hD
  go_wp2_with fail
  go_loopw [8] (fun i wr => ∃ k : Nat, k ≤ zn ∧ i = .int .i64 k ∧ OInts .u8 wr D (fillL zn b k) ∧ Below w.heap.size w wr) (fun i _ => zn - (intOf i).toNat)
  case atStart => exact ⟨0, Nat.zero_le _, rfl, HO3.out, HB3.out⟩
  case round =>
    obtain ⟨k, hk, rfl, ho, hb⟩ := hrel
    have HOk := Lib.hid ho
    have HBk := Lib.hid hb
    by_cases hkl : k < zn
    · have d1' := ho.cell (i := k) (by rw [fillL_length hk]; exact hkl)
      have f1' := ho.free (i := k) (by rw [fillL_length hk]; exact hkl)
      have HST5 : Hid (OInts .u8 (wr.setCell ⟨D, k, none⟩ (.int .u8 b)) D (fillL zn b (k + 1))) := Lib.hid (by
        rw [← fillL_step hkl]
        exact ho.set (i := k) (by rw [fillL_length hk]; exact hkl) b)
      generalize (fillL zn b k).getD k 0 = gd at d1'
      clear ho hb
      go_wp2_with fail
      go_roundw
      case rel => exact ⟨k + 1, by omega, by go_num, HST5.out, below_at HBk.out (by have := HD.out; omega) _ _⟩
      case measure => simp [intOf]; omega
    · obtain rfl : k = zn := by omega
      rw [fillL_all] at ho
      have HIM : Hid (Ints .u8 wr (.slice (some ⟨D, 0, none⟩) k k) (List.replicate k b)) := Lib.hid (by
        have := ho.ints (by simp; omega)
        rwa [List.length_replicate] at this)
      have HOD := Lib.hid ho
      have CL := Lib.hid (loadC_len img (List.replicate k b) (by simp; omega))
      have hDl : D < wr.heap.size := ho.1
      obtain ⟨wo, rfl⟩ : ∃ wo : World, wo = wr := ⟨_, rfl⟩
      have C1' := Lib.hid (C1.out wo _ _ hb HIM.out)
      have C2' := Lib.hid (fun w' (hb' : Below wo.heap.size wo w') => C2.out w' _ _ (below_hop HBk.out hb') (HIM.out.stays hb'))
      have hone := fun (c : Mac) (v : Value) (h : ∃ a l k, v = .slice a l k) => macC_ones (c := c) (mv := v) h
      clear C1 C2 ho hb
      generalize hlE : loadE img (List.replicate k b) = le at *
      unfold LoadP at C1' C2'
      generalize hlC : loadC img (List.replicate k b) = lc at *
      rw [hlE] at C1' C2'
      clear hlE hlC
      go_upto_region 11 with (first | ((go_at_call 27; with_reducible refine C1'.out.mono ?_); rintro e w4 ⟨mv4, rfl, hm4, hb4⟩; have hone4 := hone lc mv4 hm4.isSlice) | (refine wpList_store_row rfl _ _ _ rfl w4.heap.size (macC lc mv4).toArray rfl rfl 61 _ (newest _ _ _) (macC_size CL.out.1 _) (macC_36 CL.out.1 _) hone4 ?_))
      obtain ⟨hb5, k5, hs5⟩ := row_cells w4 #[.int .u32 0, .int .u32 0, .int .u32 0, .int .u32 0, .int .u32 0, .int .u32 0, .int .u32 0, .int .u32 0, .int .u32 0, .int .u32 0, .int .u32 0, .int .u32 0, .int .u32 0, .int .u32 0, .int .u32 0, .int .u32 0, .int .u32 0, .int .u32 0, .int .u32 0, .int .u32 0, .int .u32 0, .int .u32 0, .int .u32 0, .int .u32 0, .int .u32 0, .int .u32 0, .int .u32 0, .int .u32 0, .int .u32 0, .int .u32 0, .int .u32 0, .int .u32 0, .int .i64 0, .int .u32 0, .slice none 0 0, .int .i64 0] (macC lc mv4) 61
      have HM5 := Lib.hid (hm4.below hb5)
      have HB5 := Lib.hid (below_hop hb4 hb5)
      have HK5 := Lib.hid k5
      have hl5 : w4.heap.size < ((w4.alloc (.cells #[.int .u32 0, .int .u32 0, .int .u32 0, .int .u32 0, .int .u32 0, .int .u32 0, .int .u32 0, .int .u32 0, .int .u32 0, .int .u32 0, .int .u32 0, .int .u32 0, .int .u32 0, .int .u32 0, .int .u32 0, .int .u32 0, .int .u32 0, .int .u32 0, .int .u32 0, .int .u32 0, .int .u32 0, .int .u32 0, .int .u32 0, .int .u32 0, .int .u32 0, .int .u32 0, .int .u32 0, .int .u32 0, .int .u32 0, .int .u32 0, .int .u32 0, .int .u32 0, .int .i64 0, .int .u32 0, .slice none 0 0, .int .i64 0] 61)).setRow w4.heap.size (macC lc mv4).toArray).heap.size := by omega
      have hA4 : wo.heap.size ≤ w4.heap.size := hb4.size
      have HOWN := Lib.hid (fun q hq => (hm4.own q hq).2)
      clear hb5 k5 hs5 hm4 hb4 hone4
      generalize (w4.alloc (.cells #[.int .u32 0, .int .u32 0, .int .u32 0, .int .u32 0, .int .u32 0, .int .u32 0, .int .u32 0, .int .u32 0, .int .u32 0, .int .u32 0, .int .u32 0, .int .u32 0, .int .u32 0, .int .u32 0, .int .u32 0, .int .u32 0, .int .u32 0, .int .u32 0, .int .u32 0, .int .u32 0, .int .u32 0, .int .u32 0, .int .u32 0, .int .u32 0, .int .u32 0, .int .u32 0, .int .u32 0, .int .u32 0, .int .u32 0, .int .u32 0, .int .u32 0, .int .u32 0, .int .i64 0, .int .u32 0, .slice none 0 0, .int .i64 0] 61)).setRow w4.heap.size (macC lc mv4).toArray = W5 at *
      generalize w4.heap.size = A at *
      have C2b := Lib.hid (C2'.out W5 HB5.out)
      go_upto_region 12 with (first | ((go_at_call 25; with_reducible refine C2b.out.mono ?_); rintro e w6 ⟨mv6, rfl, hm6, hb6⟩; have hone6 := hone lc mv6 hm6.isSlice) | (refine wpList_store_row rfl _ _ _ rfl w6.heap.size (macC lc mv6).toArray rfl rfl 61 _ (newest _ _ _) (macC_size CL.out.1 _) (macC_36 CL.out.1 _) hone6 ?_))
      obtain ⟨hb7, k7, hs7⟩ := row_cells w6 #[.int .u32 0, .int .u32 0, .int .u32 0, .int .u32 0, .int .u32 0, .int .u32 0, .int .u32 0, .int .u32 0, .int .u32 0, .int .u32 0, .int .u32 0, .int .u32 0, .int .u32 0, .int .u32 0, .int .u32 0, .int .u32 0, .int .u32 0, .int .u32 0, .int .u32 0, .int .u32 0, .int .u32 0, .int .u32 0, .int .u32 0, .int .u32 0, .int .u32 0, .int .u32 0, .int .u32 0, .int .u32 0, .int .u32 0, .int .u32 0, .int .u32 0, .int .u32 0, .int .i64 0, .int .u32 0, .slice none 0 0, .int .i64 0] (macC lc mv6) 61
      have h57 := below_hop hb6 hb7
      have HM7 := Lib.hid (hm6.below hb7)
      have HM5b := Lib.hid (HM5.out.below h57)
      have HB7 := Lib.hid (below_hop HB5.out h57)
      have HK5b := Lib.hid (HK5.out.below (by rw [macC_len CL.out.1]; decide) h57)
      have HK7 := Lib.hid k7
      have hl7 : w6.heap.size < ((w6.alloc (.cells #[.int .u32 0, .int .u32 0, .int .u32 0, .int .u32 0, .int .u32 0, .int .u32 0, .int .u32 0, .int .u32 0, .int .u32 0, .int .u32 0, .int .u32 0, .int .u32 0, .int .u32 0, .int .u32 0, .int .u32 0, .int .u32 0, .int .u32 0, .int .u32 0, .int .u32 0, .int .u32 0, .int .u32 0, .int .u32 0, .int .u32 0, .int .u32 0, .int .u32 0, .int .u32 0, .int .u32 0, .int .u32 0, .int .u32 0, .int .u32 0, .int .u32 0, .int .u32 0, .int .i64 0, .int .u32 0, .slice none 0 0, .int .i64 0] 61)).setRow w6.heap.size (macC lc mv6).toArray).heap.size := by omega
      have hl57 := h57.size
      clear hb7 k7 hs7 hm6 hb6 hone6 h57
      generalize (w6.alloc (.cells #[.int .u32 0, .int .u32 0, .int .u32 0, .int .u32 0, .int .u32 0, .int .u32 0, .int .u32 0, .int .u32 0, .int .u32 0, .int .u32 0, .int .u32 0, .int .u32 0, .int .u32 0, .int .u32 0, .int .u32 0, .int .u32 0, .int .u32 0, .int .u32 0, .int .u32 0, .int .u32 0, .int .u32 0, .int .u32 0, .int .u32 0, .int .u32 0, .int .u32 0, .int .u32 0, .int .u32 0, .int .u32 0, .int .u32 0, .int .u32 0, .int .u32 0, .int .u32 0, .int .i64 0, .int .u32 0, .slice none 0 0, .int .i64 0] 61)).setRow w6.heap.size (macC lc mv6).toArray = W7 at *
      generalize w6.heap.size = Bb at *
      have r5 := HK5b.out.range
      have r7 := HK7.out.range
      have z5 : (Tryz.prog.info? 61).map (·.size) = some (macC lc mv4).length := by rw [macC_len CL.out.1]; exact mac_info
      have z7 : (Tryz.prog.info? 61).map (·.size) = some (macC lc mv6).length := by rw [macC_len CL.out.1]; exact mac_info
      have CS := Lib.hid (C5.out lc mv4 mv6 W7 CL.out.1 (HM5b.out.ints (by have := CL.out.2; omega)) (HM7.out.ints (by have := CL.out.2; omega)))
      go_upto_region 14 with (first | (refine wpList_load_mid rfl _ _ rfl A 0 rfl (macC lc mv4) _ r5 Tryz.underlying61 rfl z5 ?_) | (refine wpList_load_mid rfl _ _ rfl Bb 0 rfl (macC lc mv6) _ r7 Tryz.underlying61 rfl z7 ?_) | ((go_at_call 28; with_reducible refine CS.out.mono ?_); rintro e w8 ⟨rfl, hb8⟩))
      have hA7 : A < W7.heap.size := by omega
      have HKA := Lib.hid (HK5b.out.below (by rw [macC_len CL.out.1]; decide) hb8)
      have HMA := Lib.hid (HM5b.out.below hb8)
      have HBA := Lib.hid (below_hop HB7.out hb8)
      have HOA := Lib.hid (HOD.out.below HBA.out)
      have hN := CL.out.2
      have HSL := Lib.hid HMA.out.isSlice
      clear hb8 r5 r7 z5 z7 CS HK5b HK5 HK7 HM5 HM5b HM7 HB5 HB7 C2b C2' C1' hl5 hl7 hl57
      go_wp2_with fail
      go_loopw [13] (fun i wr => ∃ t : Nat, t ≤ 16 ∧ i = .int .i64 t ∧ (∃ xs : List Int, xs.length = lc.m.length ∧ MemO wo.heap.size wr mv4 xs) ∧ CellsAt wr A (macC lc mv4) ∧ OInts .u8 wr D (List.replicate k b) ∧ Below wo.heap.size wo wr) (fun i _ => 16 - (intOf i).toNat)
      case atStart => exact ⟨0, by omega, rfl, ⟨_, rfl, HMA.out⟩, HKA.out, HOA.out, HBA.out⟩
      case round =>
        obtain ⟨t, ht, rfl, ⟨xs, hxl, hmo⟩, hka, hod, hbb⟩ := hrel
        have HKT := Lib.hid hka
        have HOT := Lib.hid hod
        have HBT := Lib.hid hbb
        obtain ⟨-, -, ⟨m34, -⟩, -⟩ := hka.tails CL.out.1
        obtain ⟨am, cm, hmv, -, -⟩ := (hmo.ints (by omega)).shape2
        rw [hxl] at hmv
        by_cases hc : t < lc.m.length ∧ t < 16
        · obtain ⟨hc1, hc2⟩ := hc
          rcases hmo with ⟨e, _⟩ | ⟨Da, cap, e, q1, q2, q3, q4⟩
          · rw [e] at hxl; simp at hxl; omega
          · have hDa : Da < A := HOWN.out Da (by rw [e]; rfl)
            rw [hxl] at e
            rw [e] at m34
            have dd := q4.cell (i := t) (by omega)
            have ff := q4.free (i := t) (by omega)
            have HMS : Hid (∀ y, MemO wo.heap.size (wr.setCell ⟨Da, t, none⟩ (.int .u8 y)) mv4 (xs.set t y)) := Lib.hid (fun y => by
              have : MemO wo.heap.size wr (.slice (some ⟨Da, 0, none⟩) lc.m.length cap) xs := Or.inr ⟨Da, cap, by rw [hxl], q1, q2, q3, q4⟩
              rw [e]
              exact this.setAt (by omega) y)
            have HXL := Lib.hid hxl
            have hDaD : Da ≠ D := by omega
            generalize xs.getD t 0 = xv at dd
            clear hmv q1 q4 hka hod hbb hxl e
            go_wp2_with fail
            go_roundw
            case rel => exact ⟨t + 1, by omega, by go_num, ⟨xs.set t _, by rw [List.length_set]; exact HXL.out, HMS.out _⟩, HKT.out.other (by omega) _, HOT.out.setO (by omega) _, below_at HBT.out (by omega) _ _⟩
            case measure => simp [intOf]; omega
        · have hout : (decide ((t : Int) < (lc.m.length : Int)) = false) ∨ (decide ((t : Int) < 16) = false) := by
            by_cases h1 : t < lc.m.length
            · right; exact decide_eq_false (by omega)
            · left; exact decide_eq_false (by omega)
          rw [hmv] at m34
          clear hmo hka hod hbb hc hmv
          by_cases h1 : t < lc.m.length
          · have h16 : t = 16 := by rcases hout with h | h <;> (have := of_decide_eq_false h; omega)
            subst h16
            clear hout
            go_wp2_with fail
            all_goals exact qload3
          · clear hout
            go_wp2_with fail
            all_goals exact qload3
 ) : p := h
set_option maxHeartbeats 4000000 in
theorem wPlaceLoads (img : List Int) (iv : Value) (size b : Int) (w : World) (hi : Ints .u8 w iv img) (hs : -9223372036854775808 ≤ size ∧ size ≤ 9223372036854775807) (hb : 0 ≤ b ∧ b ≤ 255) : Calls Tryz.prog 8 #[iv, .int .i64 size, .int .u8 b] w fun e w' => e = .returned (.bool true) ∧ Below w.heap.size w w' := by
  obtain ⟨ia, ic, rfl, hi1, hi2⟩ := hi.shape2
  have HI := Lib.hid hi
  have C4 := Lib.hid known22
  have C5 := Lib.hid same18_eq
  clear hi
  cases d3 : decide ((40000 : Int) < (img.length : Int))
  case true =>
    cases d1 : decide (size < 0)
    case true =>
      go_enter Tryz.func8, Tryz.ntmps8
      go_wp2_with (go_at_call 12; with_reducible refine (C4.out _).mono ?_; rintro e w2 ⟨rfl, hb2⟩)
      go_ret
      exact ⟨rfl, hb2⟩
    case false =>
      cases d2 : decide (40000 < size) <;> (
        go_enter Tryz.func8, Tryz.ntmps8
        go_wp2_with (go_at_call 12; with_reducible refine (C4.out _).mono ?_; rintro e w2 ⟨rfl, hb2⟩)
        go_ret
        exact ⟨rfl, hb2⟩)
  case false =>
    have hil : img.length ≤ 40000 := by have := of_decide_eq_false d3; omega
    cases d1 : decide (size < 0)
    case true =>
      go_enter Tryz.func8, Tryz.ntmps8
      go_upto_region 3 with fail
      obtain ⟨zn, hzn⟩ : ∃ zn : Nat, (32768 : Int) = (zn : Int) := ⟨32768, rfl⟩
      rw [hzn]
      have hz : zn ≤ 40000 := by omega
      clear hzn
      exact qload
    case false =>
      cases d2 : decide (40000 < size)
      case true =>
        go_enter Tryz.func8, Tryz.ntmps8
        go_upto_region 3 with fail
        obtain ⟨zn, hzn⟩ : ∃ zn : Nat, (32768 : Int) = (zn : Int) := ⟨32768, rfl⟩
        rw [hzn]
        have hz : zn ≤ 40000 := by omega
        clear hzn
        exact qload
      case false =>
        have h0 : 0 ≤ size := by have := of_decide_eq_false d1; omega
        have h1 : size ≤ 40000 := by have := of_decide_eq_false d2; omega
        obtain ⟨zn, rfl⟩ := Int.eq_ofNat_of_zero_le h0
        have hz : zn ≤ 40000 := by omega
        go_enter Tryz.func8, Tryz.ntmps8
        go_upto_region 3 with fail
        exact qload
end Go.Proofs.YtaegpeofecdhfaaGreat
namespace Go.Proofs.YtaegpeofecdhfaaGreat
open Go.RowKit Go.WideShapes Go.ChangeShapes Go.Deep
set_option linter.unusedVariables false
set_option linter.unusedSimpArgs false
section
variable {H : Type} {enc : TypeId × Value → H} {P : Program} {W : World} {base : Nat} {held : Bool}
end
end Go.Proofs.YtaegpeofecdhfaaGreat
namespace Go.Proofs.YtaegpeofecdhfaaGreat
open Go.RowKit Go.Maps
set_option linter.unusedVariables false
set_option linter.unusedSimpArgs false
def turnO (o : Ob) : Ob := ⟨o.b, o.s.reverse, o.t.reverse⟩
theorem pairs_iff {α : Type} [Inhabited α] {P : α → α → Bool} {l : List α} : ((List.range l.length).any fun i => (l.take i).any (P (l.getD i default))) = false ↔ l.Pairwise fun a b => P b a = false := by
  rw [List.pairwise_iff_getElem, List.any_eq_false]
  constructor
  · intro h i j hi hj hij
    have h1 := h j (List.mem_range.2 hj)
    have h2 : ((l.take j).any (P (l.getD j default))) = false := by simpa using h1
    have h3 := List.any_eq_false.1 h2 l[i] (List.mem_take_iff_getElem.2 ⟨i, by omega, rfl⟩)
    rw [List.getD_eq_getElem?_getD, List.getElem?_eq_getElem hj] at h3
    simpa using h3
  · intro h j hj
    have hjl := List.mem_range.1 hj
    have : ((l.take j).any (P (l.getD j default))) = false := by
      refine List.any_eq_false.2 fun x hx => ?_
      obtain ⟨i, hi, rfl⟩ := List.mem_take_iff_getElem.1 hx
      have := h i j (by omega) hjl (by omega)
      rw [List.getD_eq_getElem?_getD, List.getElem?_eq_getElem hjl]
      simpa using this
    simpa using this
theorem wants_iff {near : Wn → Wn → Bool} {z : Int} {t : List Wn} : wantsX near z t t.length = false ↔ (∀ x ∈ t, wantB x z = true) ∧ t.Pairwise fun a b => near b a = false := by
  rw [← pairs_iff]
  unfold wantsX
  constructor
  · intro h
    refine ⟨fun x hx => ?_, ?_⟩
    · exact wantsX_ok (near := near) (z := z) (t := t) (n := t.length) h (Nat.le_refl _) x (by rw [List.take_length]; exact hx)
    · refine List.any_eq_false.2 fun i hi => ?_
      have := List.any_eq_false.1 h i hi
      simp only [Bool.or_eq_true, not_or] at this
      exact this.2
  · intro ⟨h1, h2⟩
    refine List.any_eq_false.2 fun i hi => ?_
    have := List.any_eq_false.1 h2 i hi
    have hw := h1 _ (mem_getD' (List.mem_range.1 hi))
    simp only [Bool.or_eq_true, not_or]
    exact ⟨by rw [hw]; simp, this⟩
theorem nearP_symm (x y : Wn) : nearP x y = nearP y x := by unfold nearP; exact Bool.and_comm _ _
theorem bool_false_iff {a b : Bool} (h : a = false ↔ b = false) : a = b := by
  cases a <;> cases b <;> simp at h ⊢
theorem wants_turn {z : Int} {t : List Wn} : wantsX nearP z t.reverse t.reverse.length = wantsX nearP z t t.length := by
  refine bool_false_iff ?_
  rw [wants_iff, wants_iff, List.pairwise_reverse]
  constructor
  · intro ⟨h1, h2⟩
    exact ⟨fun x hx => h1 x (List.mem_reverse.2 hx), h2.imp fun h => by rw [nearP_symm]; exact h⟩
  · intro ⟨h1, h2⟩
    exact ⟨fun x hx => h1 x (List.mem_reverse.1 hx), h2.imp fun h => by rw [nearP_symm]; exact h⟩
theorem twice_turn {s : List Sy} : twiceX s.reverse s.reverse.length = twiceX s s.length := by
  refine bool_false_iff ?_
  unfold twiceX
  rw [pairs_iff (P := fun (a b : Sy) => a.n == b.n), pairs_iff (P := fun (a b : Sy) => a.n == b.n), List.pairwise_reverse]
  constructor
  · exact fun h => h.imp fun h => by rw [Bool.beq_comm]; exact h
  · exact fun h => h.imp fun h => by rw [Bool.beq_comm]; exact h
theorem val_turn (o : Ob) : valO (turnO o) = valO o := by
  unfold valO valW turnO
  simp only [List.length_reverse, List.any_reverse]
  have h1 := wants_turn (z := (o.b.length : Int)) (t := o.t)
  have h2 := twice_turn (s := o.s)
  rw [List.length_reverse] at h1 h2
  rw [h1, h2]
theorem first_turn : ∀ l : List Ob, firstE (l.map turnO) = firstE l
  | [] => rfl
  | o :: l => by
    rw [List.map_cons]
    unfold firstE
    rw [val_turn, first_turn l]
theorem get_turn {l : List Ob} {j : Nat} (hj : j < l.length) : (l.map turnO).getD j default = turnO (l.getD j default) := by
  rw [List.getD_eq_getElem?_getD, List.getElem?_map, List.getElem?_eq_getElem hj, List.getD_eq_getElem?_getD, List.getElem?_eq_getElem hj]; rfl
theorem z_turn (l : List Ob) : ∀ j, j ≤ l.length → zJ (l.map turnO) j = zJ l j
  | 0, _ => rfl
  | j + 1, hj => by
    unfold zJ
    rw [z_turn l j (by omega), get_turn (by omega)]; rfl
theorem p_turn {l : List Ob} {j : Nat} (hj : j ≤ l.length) : pJ (l.map turnO) j = pJ l j := by
  unfold pJ; rw [z_turn l j hj]
theorem dupK_turn {l : List Ob} {i k : Nat} (hi : i < l.length) (hk : k < l.length) : dupK (l.map turnO) i k = dupK l i k := by
  unfold dupK
  rw [get_turn hi, get_turn hk]
  simp only [turnO, List.any_reverse]
theorem any_range_congr {f g : Nat → Bool} {n : Nat} (h : ∀ i, i < n → f i = g i) : (List.range n).any f = (List.range n).any g := by
  induction n with
  | zero => rfl
  | succ n ih => rw [any_range_succ, any_range_succ, ih fun i hi => h i (by omega), h n (by omega)]
theorem dupR_turn (l : List Ob) : dupR (l.map turnO) (l.map turnO).length = dupR l l.length := by
  rw [List.length_map]
  exact any_range_congr fun i hi => any_range_congr fun k hk => dupK_turn hi (by omega)
theorem find_uniq {s : List Sy} {n : Int} (hp : s.Pairwise fun a b => a.n ≠ b.n) {y : Sy} (hy : y ∈ s) (hn : y.n = n) : s.find? (fun y => y.n == n) = some y := by
  induction s with
  | nil => cases hy
  | cons x s ih =>
    obtain ⟨h1, h2⟩ := List.pairwise_cons.1 hp
    rw [List.find?_cons]
    rcases List.mem_cons.1 hy with rfl | hy
    · have : (y.n == n) = true := by simpa using hn
      rw [this]
    · have : (x.n == n) = false := by have := h1 y hy; simp; omega
      rw [this]
      exact ih h2 hy
theorem find_turn {s : List Sy} {n : Int} (hp : s.Pairwise fun a b => a.n ≠ b.n) : s.reverse.find? (fun y => y.n == n) = s.find? (fun y => y.n == n) := by
  cases h : s.any (fun y => y.n == n) with
  | false => rw [find_none h, find_none (by rw [List.any_reverse]; exact h)]
  | true =>
    obtain ⟨y, hy, hn⟩ := List.any_eq_true.1 h
    have hn' : y.n = n := by simpa using hn
    rw [find_uniq hp hy hn', find_uniq (List.pairwise_reverse.2 (hp.imp fun h => Ne.symm h)) (List.mem_reverse.2 hy) hn']
theorem look_turn {base : Int} {l : List Ob} (hv : ∀ o ∈ l, valO o = 0) (n : Int) : ∀ j, j ≤ l.length → lookM (syJ base (l.map turnO) j) n = lookM (syJ base l j) n
  | 0, _ => rfl
  | j + 1, hj => by
    unfold syJ
    rw [lookM_append, lookM_append, look_turn hv n j (by omega), get_turn (by omega), p_turn (by omega), find_syms, find_syms]
    have hp := names_pair (val_twice (hv _ (mem_getD' (l := l) (k := j) (by omega))))
    have := find_turn (n := n) hp
    show (lookM (syJ base l j) n).or (Option.map _ (List.find? _ (l.getD j default).s.reverse)) = _
    rw [this]
theorem miss_turn {base : Int} {l : List Ob} (hv : ∀ o ∈ l, valO o = 0) : missB (l.map turnO) (syJ base (l.map turnO) (l.map turnO).length) (l.map turnO).length = missB l (syJ base l l.length) l.length := by
  unfold missB
  rw [List.take_length, List.take_length, List.any_map, List.length_map]
  congr 1
  funext o
  simp only [Function.comp, turnO, List.any_reverse]
  congr 1
  funext x
  rw [look_turn hv x.n l.length (Nat.le_refl _)]
theorem linkF_turn (base : Int) (l : List Ob) (b : Bool) : linkF base (l.map turnO) b = linkF base l b := by
  unfold linkF
  rw [List.length_map, first_turn]
  by_cases h1 : 4 < l.length
  · rw [if_pos h1, if_pos h1]
  · rw [if_neg h1, if_neg h1]
    by_cases h2 : firstE l ≠ 0
    · rw [if_pos h2, if_pos h2]
    · rw [if_neg h2, if_neg h2]
      have hv : ∀ o ∈ l, valO o = 0 := firstE_zero (by omega)
      have e1 := dupR_turn l
      have e2 := miss_turn (base := base) hv
      rw [List.length_map] at e1 e2
      rw [e1, e2, z_turn l _ (Nat.le_refl _)]
/-! ### the bytes -/
theorem set_set {out : List Int} {i j : Nat} (h : i ≠ j) (a b : Int) : (out.set i a).set j b = (out.set j b).set i a := List.set_comm _ _ h
theorem setK_set {q : Nat} {n : Int} {j : Nat} {b : Int} : ∀ (c : Nat) (out : List Int), (∀ i, i < c → q + i ≠ j) → setK (out.set j b) q n c = (setK out q n c).set j b
  | 0, _, _ => rfl
  | c + 1, out, h => by
    unfold setK
    rw [setK_set c out fun i hi => h i (by omega), set_set (h c (by omega)).symm]
theorem setK_setK {q q' : Nat} {n n' : Int} {c' : Nat} : ∀ (c : Nat) (out : List Int), (∀ i j, i < c → j < c' → q + i ≠ q' + j) → setK (setK out q n c) q' n' c' = setK (setK out q' n' c') q n c
  | 0, _, _ => rfl
  | c + 1, out, h => by
    show setK ((setK out q n c).set (q + c) (by4 n c)) q' n' c' = (setK (setK out q' n' c') q n c).set (q + c) (by4 n c)
    rw [setK_set c' _ (fun i hi => Ne.symm (h c i (by omega) hi)), setK_setK c out fun i j hi hj => h i j (by omega) hj]
theorem setW4_comm {q q' : Nat} {n n' : Int} (out : List Int) (h : q + 4 ≤ q' ∨ q' + 4 ≤ q) : setW4 (setW4 out q n) q' n' = setW4 (setW4 out q' n') q n :=
  setK_setK 4 out fun i j hi hj => by omega
theorem foldl_swap {α β : Type} {f : β → α → β} {x : α} : ∀ {l : List α} (b : β), (∀ y ∈ l, ∀ b, f (f b x) y = f (f b y) x) → l.foldl f (f b x) = f (l.foldl f b) x
  | [], b, _ => rfl
  | y :: l, b, h => by
    rw [List.foldl_cons, List.foldl_cons, h y (List.mem_cons_self ..)]
    exact foldl_swap (f b y) fun z hz => h z (List.mem_cons_of_mem _ hz)
theorem foldl_turn {α β : Type} {f : β → α → β} : ∀ {l : List α} (b : β), l.Pairwise (fun x y => ∀ b, f (f b x) y = f (f b y) x) → l.reverse.foldl f b = l.foldl f b
  | [], b, _ => rfl
  | x :: l, b, h => by
    obtain ⟨h1, h2⟩ := List.pairwise_cons.1 h
    rw [List.reverse_cons, List.foldl_append, foldl_turn b h2]
    exact (foldl_swap b h1).symm
theorem wantsL_turn {base : Int} {m : List (Int × Int)} {p : Int} {t : List Wn} {z : Int} (hp : 0 ≤ p) (hz : z ≤ 1000000) (h : wantsX nearP z t t.length = false) (out : List Int) : wantsL base m p out t.reverse = wantsL base m p out t := by
  obtain ⟨h1, h2⟩ := wants_iff.1 h
  unfold wantsL
  refine foldl_turn out ?_
  refine List.Pairwise.imp_of_mem ?_ h2
  intro x y hx hy hn b
  obtain ⟨x0, x1, -⟩ := wantB_bd (h1 x hx)
  obtain ⟨y0, y1, -⟩ := wantB_bd (h1 y hy)
  refine setW4_comm b ?_
  unfold nearP at hn
  rw [IntWalk.wrap64_in (y.a + 4) (by omega), IntWalk.wrap64_in (x.a + 4) (by omega)] at hn
  simp only [Bool.and_eq_false_iff, decide_eq_false_iff_not] at hn
  omega
theorem wantsL_look {base : Int} {m m' : List (Int × Int)} (h : ∀ n, lookM m' n = lookM m n) (p : Int) (t : List Wn) (out : List Int) : wantsL base m' p out t = wantsL base m p out t := by
  unfold wantsL
  congr 1
  funext out x
  unfold wantN
  rw [h]
theorem val_wants {o : Ob} (h : valO o = 0) : wantsX nearP o.b.length o.t o.t.length = false := by
  unfold valO valW at h
  by_cases h1 : 8192 < o.b.length ∨ 64 < o.s.length ∨ 64 < o.t.length
  · rw [if_pos h1] at h; cases h
  · rw [if_neg h1] at h
    cases h2 : o.s.any (symX o.b.length) with
    | true => rw [h2] at h; cases h
    | false =>
      rw [h2] at h
      cases h3 : wantsX nearP o.b.length o.t o.t.length with
      | true => rw [h3] at h; cases h
      | false => rfl
theorem linkJ_turn {base : Int} {l : List Ob} (hv : ∀ o ∈ l, valO o = 0) : ∀ j, j ≤ l.length → linkJ base (l.map turnO) (stA base (l.map turnO)) j = linkJ base l (stA base l) j
  | 0, _ => by
    show List.replicate (zJ (l.map turnO) (l.map turnO).length).toNat 0 = List.replicate (zJ l l.length).toNat 0
    rw [List.length_map, z_turn l _ (Nat.le_refl _)]
  | j + 1, hj => by
    rw [linkJ_step, linkJ_step, linkJ_turn hv j (by omega), stA_get (by rw [List.length_map]; omega), stA_get (by omega), p_turn (by omega), get_turn (by omega)]
    have hvj := hv _ (mem_getD' (l := l) (k := j) (by omega))
    have hp0 : 0 ≤ pJ l j := by have := zJ_nn l j; unfold pJ nextAt; omega
    have hb := (val_len hvj).1
    unfold objL
    show wantsL base (syJ base (l.map turnO) (l.map turnO).length) (pJ l j) (setL _ _ (l.getD j default).b) (l.getD j default).t.reverse = wantsL base (syJ base l l.length) (pJ l j) _ (l.getD j default).t
    rw [wantsL_turn hp0 (z := ((l.getD j default).b.length : Int)) (by omega) (val_wants hvj)]
    refine wantsL_look (fun n => ?_) _ _ _
    rw [List.length_map]
    exact look_turn hv n l.length (Nat.le_refl _)
theorem link_turn (base : Int) (l : List Ob) : linkE base (l.map turnO) = linkE base l ∧ (linkE base l = 0 → linkJ base (l.map turnO) (stA base (l.map turnO)) (l.map turnO).length = linkJ base l (stA base l) l.length) := by
  have h := linkF_turn base l true
  rw [linkF_link, linkF_link] at h
  refine ⟨h, fun h0 => ?_⟩
  have h5 := linkF_link base l
  rw [h0] at h5
  obtain ⟨-, g2, -⟩ := linkF_zero h5
  rw [List.length_map]
  exact linkJ_turn g2 l.length (Nat.le_refl _)
theorem Slc.agr {w w' : World} {v : Value} {n z : Nat} {C C' : Nat → Nat → Nat → Prop} (h : Slc w v n z C) (hb : w.heap.size ≤ w'.heap.size) (hC : ∀ i b o, i < n → b < w.heap.size → C i b o → C' i b o) : Slc w' v n z C' := by
  obtain ⟨a, c, e, h1, h2, h3, h4⟩ := h
  refine ⟨a, c, e, h1, h2, h3, fun i hi => ?_⟩
  obtain ⟨b, o, e1, e2, e3⟩ := h4 i hi
  exact ⟨b, o, e1, Nat.lt_of_lt_of_le e2 hb, hC i b _ hi e2 e3⟩
def Agr (w w' : World) (k : Option Nat) : Prop := w.heap.size ≤ w'.heap.size ∧ ∀ q, q < w.heap.size → k ≠ some q → w'.heap[q]? = w.heap[q]?
theorem Agr.refl (w : World) (k : Option Nat) : Agr w w k := ⟨Nat.le_refl _, fun _ _ _ => rfl⟩
def Ob3F (w : World) (k : Option Nat) (vb vs vt : Value) (x : Ob) : Prop := ∀ w', Agr w w' k → Ob3 w' vb vs vt x
theorem Ob3F.below {w w2 : World} {k : Option Nat} {vb vs vt : Value} {x : Ob} (h : Ob3F w k vb vs vt x) (hb : Below w.heap.size w w2) : Ob3F w2 k vb vs vt x :=
  fun w' ha => h w' ⟨Nat.le_trans hb.size ha.1, fun q hq hk => (ha.2 q (Nat.lt_of_lt_of_le hq hb.size) hk).trans (hb.block q hq)⟩
theorem Ob3F.grown {w w2 : World} {k : Option Nat} {vb vs vt : Value} {x : Ob} {g : Nat} (h : Ob3F w k vb vs vt x) (hg : w.grownBy w2 k) (hk : k = some g ∨ w.heap.size ≤ g) : Ob3F w2 (some g) vb vs vt x :=
  fun w' ha => h w' ⟨Nat.le_trans hg.size ha.1, fun q hq hq2 => by
    have e1 := ha.2 q (Nat.lt_of_lt_of_le hq hg.size) (fun e => by
      injection e with e
      rcases hk with hk | hk
      · exact hq2 (by rw [hk, e])
      · omega)
    rw [e1]
    exact hg.block q hq (Ne.symm hq2)⟩
theorem ownsRow_at {w w' : World} {base : Nat} {e : TypeId} {z : Nat} {v : Value} {n : Nat} {xs : List Value} (h : w.ownsRow base e z v n xs) (hb : ∀ g, v.ownBlock = some g → g < w.heap.size → w'.heap[g]? = w.heap[g]?) : w'.ownsRow base e z v n xs := by
  obtain ⟨h0, ⟨e, h1⟩ | ⟨g, cap, cur, e, hb', hg, h1, h2, h3, h4⟩⟩ := h
  · exact ⟨h0, Or.inl ⟨e, h1⟩⟩
  · have hlt : g < w.heap.size := by
      rcases Nat.lt_or_ge g w.heap.size with h | h
      · exact h
      · rw [Array.getElem?_eq_none h] at hg; cases hg
    exact ⟨h0, Or.inr ⟨g, cap, cur, e, hb', by rw [hb g (by rw [e]; rfl) hlt]; exact hg, h1, h2, h3, h4⟩⟩
theorem ownsRow_own {w : World} {base : Nat} {e : TypeId} {z : Nat} {v : Value} {n : Nat} {xs : List Value} (h : w.ownsRow base e z v n xs) (g : Nat) (hg : v.ownBlock = some g) : base ≤ g ∧ g < w.heap.size := by
  obtain ⟨h0, ⟨e, h1⟩ | ⟨g', cap, cur, e, hb', hg', h1, h2, h3, h4⟩⟩ := h
  · rw [e] at hg; cases hg
  · rw [e] at hg
    injection hg with hg
    subst hg
    refine ⟨hb', ?_⟩
    show g' < _
    rcases Nat.lt_or_ge g' w.heap.size with h | h
    · exact h
    · rw [Array.getElem?_eq_none h] at hg'; cases hg'
theorem grown_undrew {w w' : World} {r : Option Nat} (h : w.drew.grownBy w' r) : w.grownBy w' r := ⟨h.os, h.tape, h.output, h.size, h.block⟩
def RowG {α : Type} (C : α → List Value) (w : World) (base : Nat) (e : TypeId) (z : Nat) (v : Value) (xs : List α) : Prop := w.ownsRow base e z v xs.length (xs.flatMap C)
theorem flat_get {α : Type} [Inhabited α] {C : α → List Value} {z : Nat} (hC : ∀ x, (C x).length = z) : ∀ (xs : List α) (i j : Nat), i < xs.length → j < z → (xs.flatMap C)[i * z + j]? = (C (xs.getD i default))[j]?
  | [], i, j, h, _ => absurd h (Nat.not_lt_zero _)
  | x :: r, 0, j, _, hj => by
    rw [List.flatMap_cons, List.getElem?_append_left (by rw [hC]; omega)]
    simp
  | x :: r, i + 1, j, h, hj => by
    rw [List.flatMap_cons, List.getElem?_append_right (by rw [hC, Nat.add_mul]; omega)]
    have e : (i + 1) * z + j - (C x).length = i * z + j := by rw [hC, Nat.add_mul]; omega
    rw [e, flat_get hC r i j (by simpa using h) hj]
    simp
theorem RowG.slc {α : Type} [Inhabited α] {C : α → List Value} {w : World} {base : Nat} {e : TypeId} {z : Nat} {v : Value} {xs : List α} (h : RowG C w base e z v xs) (hC : ∀ x, (C x).length = z) (hz : 0 < z) (hl : xs.length ≤ 100000) : Slc w v xs.length z fun i b o => ∀ j, j < z → w.cell? ⟨b, o + j, none⟩ = (C (xs.getD i default))[j]? := by
  obtain ⟨h0, ⟨e, h1⟩ | ⟨g, cap, cur, e, hb', hg, h1, h2, h3, h4⟩⟩ := h
  · exact ⟨none, 0, by rw [e, h1], by omega, ⟨by omega, by omega⟩, fun _ => rfl, fun i hi => absurd hi (by omega)⟩
  · have hlt : g < w.heap.size := by
      rcases Nat.lt_or_ge g w.heap.size with h | h
      · exact h
      · rw [Array.getElem?_eq_none h] at hg; cases hg
    refine ⟨some ⟨g, 0, none⟩, cap, e, h1, ⟨by omega, by unfold maxLen at h2; omega⟩, (fun hh => by cases hh), fun i hi => ⟨g, 0, rfl, hlt, ?_⟩⟩
    rw [Nat.zero_add]
    intro j hj
    have hij : i * z + j < xs.length * z := by
      have : (i + 1) * z ≤ xs.length * z := Nat.mul_le_mul_right z hi
      rw [Nat.add_mul] at this; omega
    have e1 : w.cell? ⟨g, i * z + j, none⟩ = cur.toList[i * z + j]? := by simp [World.cell?, hg]
    have e2 : (cur.toList.take (xs.length * z))[i * z + j]? = cur.toList[i * z + j]? := by rw [List.getElem?_take, if_pos hij]
    rw [e1, ← e2, h4]
    exact flat_get hC xs i j hi hj
theorem RowG.nil {α : Type} (C : α → List Value) (w : World) (base : Nat) (e : TypeId) (z : Nat) : RowG C w base e z (.slice none 0 0) [] := World.ownsRow_nil w base e z
theorem RowG.snoc {α : Type} {C : α → List Value} {w : World} {base : Nat} {e : TypeId} {z : Nat} {v : Value} {xs : List α} {x : α} (h : w.ownsRow base e z v (xs.length + 1) (xs.flatMap C ++ C x)) : RowG C w base e z v (xs ++ [x]) := by
  unfold RowG
  rw [List.length_append, List.flatMap_append]
  simpa using h
def syC (x : Sy) : List Value := [.int .i64 x.n, .int .i64 x.a]
def wnC (x : Wn) : List Value := [.int .i64 x.a, .int .i64 x.k, .int .i64 x.n, .int .i64 x.p]
def obC (c : Value × Value × Value) : List Value := [c.1, c.2.1, c.2.2]
theorem RowG.sys {w : World} {base : Nat} {e : TypeId} {v : Value} {xs : List Sy} (h : RowG syC w base e 2 v xs) (hl : xs.length ≤ 100000) : Sys w v xs :=
  (h.slc (fun _ => rfl) (by decide) hl).agr (Nat.le_refl _) fun i b o _ _ hc => ⟨hc 0 (by decide), hc 1 (by decide)⟩
theorem RowG.wns {w : World} {base : Nat} {e : TypeId} {v : Value} {xs : List Wn} (h : RowG wnC w base e 4 v xs) (hl : xs.length ≤ 100000) : Wns w v xs :=
  (h.slc (fun _ => rfl) (by decide) hl).agr (Nat.le_refl _) fun i b o _ _ hc => ⟨hc 0 (by decide), hc 1 (by decide), hc 2 (by decide), hc 3 (by decide)⟩
structure TurS (w0 : World) (ts : List Ob) (v : Value) (w : World) : Prop where
  keep : Below w0.heap.size w0 w
  row : ∃ cs : List (Value × Value × Value), cs.length = ts.length ∧ RowG obC w w0.heap.size 26 3 v cs ∧ ∀ i, i < ts.length → Ob3F w v.ownBlock (cs.getD i default).1 (cs.getD i default).2.1 (cs.getD i default).2.2 (ts.getD i default)
theorem TurS.obs {w0 w : World} {ts : List Ob} {v : Value} (h : TurS w0 ts v w) (hl : ts.length ≤ 100000) : Obs w v ts := by
  obtain ⟨cs, h1, h2, h3⟩ := h.row
  have := h2.slc (fun _ => rfl) (by decide) (by omega)
  rw [h1] at this
  refine this.agr (Nat.le_refl _) fun i b o hi hb hc => ?_
  exact ⟨_, _, _, hc 0 (by decide), hc 1 (by decide), hc 2 (by decide), h3 i hi w (Agr.refl _ _)⟩
theorem TurS.below {w0 w w' : World} {ts : List Ob} {v : Value} (h : TurS w0 ts v w) (hb : Below w.heap.size w w') : TurS w0 ts v w' := by
  obtain ⟨cs, h1, h2, h3⟩ := h.row
  exact ⟨below_hop h.keep hb, cs, h1, ownsRow_at h2 fun g hg hlt => hb.block g hlt, fun i hi => (h3 i hi).below hb⟩
theorem TurS.own {w0 w : World} {ts : List Ob} {v : Value} (h : TurS w0 ts v w) (g : Nat) (hg : v.ownBlock = some g) : w0.heap.size ≤ g ∧ g < w.heap.size := by
  obtain ⟨cs, h1, h2, h3⟩ := h.row
  exact ownsRow_own h2 g hg
theorem Ob3F.made {w0 w : World} {k : Option Nat} {B : Nat} {vb vs vt : Value} {x : Ob} {e1 e2 : TypeId} (h0 : Ints .u8 w0 vb x.b) (hb : Below w0.heap.size w0 w) (hk : ∀ q, k = some q → w0.heap.size ≤ q ∧ q < B) (hs : RowG syC w B e1 2 vs x.s) (ht : RowG wnC w B e2 4 vt x.t) (hl : x.s.length ≤ 100000 ∧ x.t.length ≤ 100000) : Ob3F w k vb vs vt x := by
  intro w' ha
  refine ⟨?_, ?_, ?_⟩
  · refine h0.agr (Nat.le_trans hb.size ha.1) fun i b o _ hlt hc => ?_
    have hne : k ≠ some b := fun e => by have := (hk b e).1; omega
    rw [← hc]
    exact World.cell?_of_block (w := w0) ((ha.2 b (Nat.lt_of_lt_of_le hlt hb.size) hne).trans (hb.block b hlt))
  · refine RowG.sys (ownsRow_at hs fun g hg hlt => ?_) hl.1
    have h1 := (ownsRow_own hs g hg).1
    exact ha.2 g hlt fun e => by have := (hk g e).2; omega
  · refine RowG.wns (ownsRow_at ht fun g hg hlt => ?_) hl.2
    have h1 := (ownsRow_own ht g hg).1
    exact ha.2 g hlt fun e => by have := (hk g e).2; omega
theorem getD_snocG {α : Type} [Inhabited α] {xs : List α} {x : α} {i : Nat} (h : i < xs.length + 1) : (xs ++ [x]).getD i default = if i < xs.length then xs.getD i default else x := by
  by_cases hi : i < xs.length
  · rw [if_pos hi, List.getD_eq_getElem?_getD, List.getElem?_append_left hi, List.getD_eq_getElem?_getD]
  · rw [if_neg hi, List.getD_eq_getElem?_getD, List.getElem?_append_right (by omega), show i - xs.length = 0 by omega]; rfl
theorem TurS.app {w0 w w' : World} {ts : List Ob} {v : Value} {vb vs vt : Value} {x : Ob} {g cap : Nat} {cs : List (Value × Value × Value)} (h1 : cs.length = ts.length) (h3 : ∀ i, i < ts.length → Ob3F w v.ownBlock (cs.getD i default).1 (cs.getD i default).2.1 (cs.getD i default).2.2 (ts.getD i default)) (hx : Ob3F w v.ownBlock vb vs vt x)
    (hk : Below w0.heap.size w0 w) (hb : ∀ q, v.ownBlock = some q → w0.heap.size ≤ q) (ho : w'.ownsRow w0.heap.size 26 3 (.slice (some ⟨g, 0, none⟩) (ts.length + 1) cap) (ts.length + 1) (cs.flatMap obC ++ obC (vb, vs, vt))) (hg : w.grownBy w' v.ownBlock) (hgg : v.ownBlock = some g ∨ g = w.heap.size) : TurS w0 (ts ++ [x]) (.slice (some ⟨g, 0, none⟩) (ts.length + 1) cap) w' := by
  have hgg' : v.ownBlock = some g ∨ w.heap.size ≤ g := hgg.imp id fun e => by omega
  refine ⟨hk.grown hg hk.size hb, cs ++ [(vb, vs, vt)], by simp [h1], ?_, fun i hi => ?_⟩
  · rw [← h1] at ho ⊢
    exact RowG.snoc ho
  · rw [List.length_append] at hi
    have hi' : i < ts.length + 1 := by simpa using hi
    rw [getD_snocG (by omega), getD_snocG hi', h1]
    by_cases h : i < ts.length
    · rw [if_pos h, if_pos h]
      exact (h3 i h).grown hg hgg'
    · rw [if_neg h, if_neg h]
      exact hx.grown hg hgg'
end Go.Proofs.YtaegpeofecdhfaaGreat
