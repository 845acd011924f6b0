/- Walks of the reference's encode, Encode, Validate, operation by operation and size by size. -/
import Derived.Deep.CutRange
import Derived.Test.YtdojafpjipcbjaaRows
import Derived.WalkKit
import Derived.ProofKit
import Derived.OpenShut
import Derived.Below
import Derived.ChangeSame
import Derived.Lib.SmallJoins
import Derived.Deep.Slices
import Derived.SizedLaws
import Derived.DataReads
import Derived.ChangeSlices
import Derived.Test.YtdojafpjipcbjaaJ1
import Derived.Test.YtdojafpjipcbjaaJ16
import Derived.Test.YtdojafpjipcbjaaJ17
import Derived.Test.YtdojafpjipcbjaaJ18
import Derived.Test.YtdojafpjipcbjaaJ28
namespace Go.Proofs.Ytdojafpjipcbjaa
open Go.RowKit
set_option linter.unusedVariables false
set_option linter.unusedSimpArgs false
set_option maxRecDepth 100000 in
theorem en_out (o d s z i : Int) (w : World) (h : ¬ (z = 8 ∨ z = 16 ∨ z = 32)) : Calls Try.prog 29 #[.agg #[.int .i64 o, .int .i64 d, .int .i64 s, .int .i64 z, .int .i64 i]] w fun e w' => e = .returned (.tuple #[.slice none 0 0, .bool false]) ∧ Below w.heap.size w w' := by
  have n8 : (z != 8) = true := by simp; omega
  have n16 : (z != 16) = true := by simp; omega
  have n32 : (z != 32) = true := by simp; omega
  have HB := Lib.hid ((Below.refl w.heap.size w).alloc (Nat.le_refl _) (.cells #[.int .i64 o, .int .i64 d, .int .i64 s, .int .i64 z, .int .i64 i] 25))
  clear h
  go_enter Try.func29, Try.ntmps29
  go_wp2_with fail
  go_ret2
  exact ⟨rfl, HB.out⟩
theorem ok_z {x : Ins} (h : okI x = true) : x.z = 8 ∨ x.z = 16 ∨ x.z = 32 := by
  have hz := ok_sz h
  unfold szI at hz
  repeat (first | (split at hz; · simp at hz; omega) | (simp at hz; done))
theorem ok_8 {x : Ins} (h : okI x = true) (h8 : x.z = 8) : 28 ≤ x.o := by
  have hz := ok_sz h
  rw [h8] at hz
  have ho := ok_op h
  unfold szI at hz
  split at hz
  · simp at hz
  split at hz
  · simp at hz
  split at hz
  · simp at hz
  split at hz
  · simp at hz
  split at hz
  · simp at hz
  split at hz
  · simp at hz
  omega
theorem rencode_ok (x : Ins) (w : World) (hi : I64 x.i) (hok : okI x = true) : Calls Try.prog 29 #[InsV x] w fun e w' => ∃ v, e = .returned (.tuple #[v, .bool true]) ∧ RowI w' w.heap.size 5 .u8 v (encI x) ∧ Below w.heap.size w w' := by
  have hz := ok_z hok
  have ho := ok_op hok
  obtain ⟨o, d, s, z, i⟩ := x
  simp only at hz ho hi
  by_cases c1 : o ≤ 6
  · rcases hz with rfl | rfl | rfl
    · have := ok_8 hok rfl
      simp only at this
      omega
    · exact en_16_0_t o d s i w hi (by omega) c1 hok
    · exact en_32_0_t o d s i w hi (by omega) c1 hok
  · by_cases c2 : o ≤ 27
    · rcases hz with rfl | rfl | rfl
      · have := ok_8 hok rfl
        simp only at this
        omega
      · exact en_16_1_t o d s i w hi (by omega) c2 hok
      · exact en_32_1_t o d s i w hi (by omega) c2 hok
    · rcases hz with rfl | rfl | rfl
      · exact en_8_2_t o d s i w hi (by omega) ho.2 hok
      · exact en_16_2_t o d s i w hi (by omega) ho.2 hok
      · exact en_32_2_t o d s i w hi (by omega) ho.2 hok
theorem rencode_bad (x : Ins) (w : World) (hi : I64 x.i) (hok : okI x = false) : Calls Try.prog 29 #[InsV x] w fun e w' => e = .returned (.tuple #[.slice none 0 0, .bool false]) ∧ Below w.heap.size w w' := by
  obtain ⟨o, d, s, z, i⟩ := x
  simp only at hi
  by_cases hz : z = 8 ∨ z = 16 ∨ z = 32
  · by_cases ho : 0 ≤ o ∧ o ≤ 36
    · by_cases c1 : o ≤ 6
      · rcases hz with rfl | rfl | rfl
        · exact en_8_0_f o d s i w hi ho.1 c1 hok
        · exact en_16_0_f o d s i w hi ho.1 c1 hok
        · exact en_32_0_f o d s i w hi ho.1 c1 hok
      · by_cases c2 : o ≤ 27
        · rcases hz with rfl | rfl | rfl
          · exact en_8_1_f o d s i w hi (by omega) c2 hok
          · exact en_16_1_f o d s i w hi (by omega) c2 hok
          · exact en_32_1_f o d s i w hi (by omega) c2 hok
        · rcases hz with rfl | rfl | rfl
          · exact en_8_2_f o d s i w hi (by omega) ho.2 hok
          · exact en_16_2_f o d s i w hi (by omega) ho.2 hok
          · exact en_32_2_f o d s i w hi (by omega) ho.2 hok
    · rcases hz with rfl | rfl | rfl
      · exact en_8_3_f o d s i w hi (by omega)
      · exact en_16_3_f o d s i w hi (by omega)
      · exact en_32_3_f o d s i w hi (by omega)
  · exact en_out o d s z i w hz
set_option maxRecDepth 100000 in
theorem rEncode_ok (x : Ins) (w : World) (hi : I64 x.i) (hok : okI x = true) : Calls Try.prog 12 #[InsV x] w fun e w' => ∃ v, e = .returned (.tuple #[v, .int .i64 0]) ∧ RowI w' w.heap.size 5 .u8 v (encI x) ∧ Below w.heap.size w w' := by
  have C0 := Lib.hid (fun w => rencode_ok x w hi hok)
  generalize encI x = ys at *
  clear hok hi
  obtain ⟨o, d, s, z, i⟩ := x
  unfold InsV at *
  simp only at C0 ⊢
  go_enter Try.func12, Try.ntmps12
  go_wp2_with ((go_at_call 29; with_reducible refine (C0.out _).mono ?_); rintro e w1 ⟨v1, rfl, hr, hb⟩; have HR := Lib.hid hr; have HB := Lib.hid hb; clear hr hb)
  go_ret2
  exact ⟨_, rfl, HR.out.mono (by simp), below_box HB.out⟩
set_option maxRecDepth 100000 in
theorem rEncode_bad (x : Ins) (w : World) (hi : I64 x.i) (hok : okI x = false) : Calls Try.prog 12 #[InsV x] w fun e w' => e = .returned (.tuple #[.slice none 0 0, .int .i64 1]) ∧ Below w.heap.size w w' := by
  have C0 := Lib.hid (fun w => rencode_bad x w hi hok)
  clear hok hi
  obtain ⟨o, d, s, z, i⟩ := x
  unfold InsV at *
  simp only at C0 ⊢
  go_enter Try.func12, Try.ntmps12
  go_wp2_with ((go_at_call 29; with_reducible refine (C0.out _).mono ?_); rintro e w1 ⟨rfl, hb⟩; have HB := Lib.hid hb; clear hb)
  go_ret2
  exact ⟨rfl, below_box HB.out⟩
set_option maxRecDepth 100000 in
theorem rValidate_any (x : Ins) (w : World) (hi : I64 x.i) : Calls Try.prog 16 #[InsV x] w fun e w' => e = .returned (.int .i64 (vaI x)) ∧ Below w.heap.size w w' := by
  cases hok : okI x
  · have C0 := Lib.hid (fun w => rencode_bad x w hi hok)
    have e : vaI x = 1 := by unfold vaI; rw [hok]; rfl
    rw [e]
    clear hok hi e
    obtain ⟨o, d, s, z, i⟩ := x
    unfold InsV at *
    simp only at C0 ⊢
    go_enter Try.func16, Try.ntmps16
    go_wp2_with ((go_at_call 29; with_reducible refine (C0.out _).mono ?_); rintro e w1 ⟨rfl, hb⟩; have HB := Lib.hid hb; clear hb)
    go_ret
    exact ⟨rfl, below_box HB.out⟩
  · have C0 := Lib.hid (fun w => rencode_ok x w hi hok)
    have e : vaI x = 0 := by unfold vaI; rw [hok]; rfl
    rw [e]
    generalize encI x = ys at *
    clear hok hi e
    obtain ⟨o, d, s, z, i⟩ := x
    unfold InsV at *
    simp only at C0 ⊢
    go_enter Try.func16, Try.ntmps16
    go_wp2_with ((go_at_call 29; with_reducible refine (C0.out _).mono ?_); rintro e w1 ⟨v1, rfl, hr, hb⟩; have HB := Lib.hid hb; clear hr hb)
    go_ret
    exact ⟨rfl, below_box HB.out⟩
end Go.Proofs.Ytdojafpjipcbjaa
namespace Go.Proofs.Ytdojafpjipcbjaa
open Go.RowKit
set_option linter.unusedVariables false
set_option linter.unusedSimpArgs false
theorem i64_ite {c : Prop} [Decidable c] {x y : Ins} (h1 : I64 x.i) (h2 : I64 y.i) : I64 (if c then x else y).i := by split <;> assumption
theorem gsR_i64 {l : List Int} (hby : Byt l) (a : Nat) (hal : a ≤ l.length) (z : Int) (hz : z = 16 ∨ z = 32) : I64 (gsR (l.drop a) z).i := by
  have i0 : I64 0 := by unfold I64; omega
  have i3 : ∀ n k, k ≤ 4 → I64 (nmR l n k) := fun n k hk => by have := nmR_bd hby n k hk; unfold I64; omega
  have i1 : ∀ n, I64 (sg32 (nmR l n 4)) := fun n => by have := nmR_bd hby n 4 (by decide); unfold sg32 I64; split <;> omega
  have i2 : ∀ n, I64 (sg8 (nmR l n 1)) := fun n => by have := nmR_bd1 hby n; unfold sg8 I64; split <;> omega
  have i4 : ∀ n, I64 (nmR l n (z / 8).toNat) := fun n => i3 n _ (by rcases hz with rfl | rfl <;> decide)
  have i5 : ∀ n, I64 (sg8 (nmR l n 1) % pwZ z) := fun n => by
    generalize sg8 (nmR l n 1) = q
    rcases hz with rfl | rfl
    · show I64 (q % 65536); unfold I64; omega
    · show I64 (q % 4294967296); unfold I64; omega
  have i6 : ∀ n, I64 (nmR l n 1 - 64) := fun n => by have := nmR_bd1 hby n; unfold I64; omega
  unfold gsR secR
  simp only [nmR_dr _ _ _ _ hal]
  repeat' refine i64_ite ?_ ?_
  all_goals first | exact i0 | exact i1 _ | exact i2 _ | exact i4 _ | exact i5 _ | exact i6 _ | exact i3 _ 1 (by decide) | exact i3 _ 4 (by decide)
set_option maxRecDepth 100000 in
set_option maxHeartbeats 4000000 in
theorem rdecode_any (l : List Int) (v : Value) (w : World) (hv : Ints .u8 w v l) (hby : Byt l) : Calls Try.prog 28 #[v] w fun e w' => e = .returned (.tuple #[InsV (decX l), .int .i64 (decN l), .bool (decB l)]) ∧ Below w.heap.size w w' := by
  obtain ⟨W0, hW0⟩ : ∃ W, w.alloc (.cells #[.int .i64 0, .int .i64 0, .int .i64 0, .int .i64 0, .int .i64 0] 25) = W := ⟨_, rfl⟩
  have hb0 : Below w.heap.size w W0 := by rw [← hW0]; exact (Below.refl _ _).alloc (Nat.le_refl _) _
  have hbx : Box5 W0 w.heap.size 0 0 0 0 0 := by rw [← hW0]; exact Box5.new w 0 0 0 0 0
  have hv0 := hv.stays hb0
  have HV0 := Lib.hid hv0
  obtain ⟨va, vc, rfl, hl1, hl2⟩ := hv.shape
  obtain ⟨p, hp⟩ : ∃ p, (l.getD 0 0 == 102) = p := ⟨_, rfl⟩
  have hpre : preI l = (if p then 1 else 0) := by rw [← hp]; unfold preI; by_cases h : l.getD 0 0 = 102 <;> simp [h]
  have hsiz : sizI l = (if p then 16 else 32) := by rw [← hp]; unfold sizI; by_cases h : l.getD 0 0 = 102 <;> simp [h]
  have hp0 : p = true → 0 < l.length := fun h => by
    rcases l with _ | ⟨a, r⟩
    · rw [h] at hp; simp at hp
    · simp
  have hpl : preI l ≤ 1 ∧ preI l ≤ l.length := by
    rw [hpre]; cases p
    · exact ⟨by decide, Nat.zero_le _⟩
    · exact ⟨by decide, hp0 rfl⟩
  obtain ⟨x, hx⟩ : ∃ x, gsR (l.drop (preI l)) (sizI l) = x := ⟨_, rfl⟩
  have hi : I64 x.i := by rw [← hx]; exact gsR_i64 hby _ hpl.2 _ (sizI_two l)
  have hdec : decI l = if okI x = true ∧ encI x <+: l then some (x, (encI x).length) else none := by
    rw [← decR_eq]; unfold decR; rw [hx]
  have CG : Hid (Calls Try.prog 46 #[.slice va l.length vc, .int .i64 (if p then 1 else 0), .int .i64 (if p then 16 else 32)] W0 fun e w' => e = .returned (InsV x) ∧ Below W0.heap.size W0 w') := by
    have := guessR_any l _ (preI l) (sizI l) W0 hv0 hby hpl.1 hpl.2 (sizI_two l)
    rw [hx, hpre, hsiz] at this
    have e : (((if p = true then 1 else 0 : Nat) : Int)) = (if p = true then 1 else 0) := by cases p <;> rfl
    rw [e] at this
    exact this
  have HB0 := Lib.hid hb0
  have HD := Lib.hid hdec
  have HI := Lib.hid hi
  have HP0 := Lib.hid hp0
  obtain ⟨⟨q0, q1, q2, q3, q4⟩, qf⟩ := hbx.cells
  have f0 := qf 0
  have f1 := qf 1
  have f2 := qf 2
  have f3 := qf 3
  have f4 := qf 4
  have hlt0 := hbx.lt
  clear hv hv0 hby hb0 hbx qf hpre hsiz hpl hx hi hdec hp0
  go_enter Try.func28, Try.ntmps28
  go_upto_region 2 with fail
  go_cut [18] from 10 to 18 (fun b wx => b = .bool p ∧ W0 = wx)
  case first =>
    cases p
    · by_cases h0 : 0 < l.length
      · have d0 : decide (0 < l.length) = true := decide_eq_true h0
        obtain ⟨b, q, c, e', h5, h6, h7⟩ := HV0.out.at h0
        cases e'; rw [Nat.add_zero] at h7
        generalize l.getD 0 0 = y at *
        go_wp2_with fail
        go_meet
        case rel => exact ⟨rfl, rfl⟩
      · have d0 : decide (0 < l.length) = false := decide_eq_false h0
        go_wp2_with fail
        go_meet
        case rel => exact ⟨rfl, rfl⟩
    · have h0 := HP0.out rfl
      have d0 : decide (0 < l.length) = true := decide_eq_true h0
      obtain ⟨b, q, c, e', h5, h6, h7⟩ := HV0.out.at h0
      cases e'; rw [Nat.add_zero] at h7
      generalize l.getD 0 0 = y at *
      go_wp2_with fail
      go_meet
      case rel => exact ⟨rfl, rfl⟩
  case rest =>
    obtain ⟨rfl, rfl⟩ := hcut
    clear hp
    go_upto_if 18 with fail
    go_cut [5, 6] from 18 to 18 (fun a s wx => a = .int .i64 (if p then 1 else 0) ∧ s = .int .i64 (if p then 16 else 32) ∧ W0 = wx)
    case first =>
      cases p
      · go_wp2_with fail
        go_meet
        case rel => exact ⟨rfl, rfl, rfl⟩
      · go_wp2_with fail
        go_meet
        case rel => exact ⟨rfl, rfl, rfl⟩
    case rest =>
      obtain ⟨rfl, rfl, rfl⟩ := hcut
      obtain ⟨o, d, s, z, i⟩ := x
      have CG2 : Hid (Calls Try.prog 46 #[.slice va l.length vc, .int .i64 (if p then 1 else 0), .int .i64 (if p then 16 else 32)] W0 fun e w' => e = .returned (.agg #[.int .i64 o, .int .i64 d, .int .i64 s, .int .i64 z, .int .i64 i]) ∧ Below W0.heap.size W0 w') := CG
      generalize (if p = true then (1 : Int) else 0) = a1 at *
      generalize (if p = true then (16 : Int) else 32) = a2 at *
      go_upto_region 5 with ((go_at_call 46; with_reducible refine (CG2.out).mono ?_); rintro e w5 ⟨rfl, hb5⟩)
      obtain ⟨W5, hW5⟩ : ∃ W, w5.alloc (.cells #[.int .i64 o, .int .i64 d, .int .i64 s, .int .i64 z, .int .i64 i] 25) = W := ⟨_, rfl⟩
      have hb6 : Below w5.heap.size w5 W5 := by rw [← hW5]; exact (Below.refl _ _).alloc (Nat.le_refl _) _
      have hx5 : Box5 W5 w5.heap.size o d s z i := by rw [← hW5]; exact Box5.new w5 o d s z i
      have hs5 : Since W0 W5 := below_hop hb5 hb6
      rw [hW5]
      clear hW5 hb5 hb6 CG CG2
      obtain ⟨⟨x0, x1, x2, x3, x4⟩, _⟩ := hx5.cells
      have hlt5 := hx5.lt
      have HV5 := Lib.hid (HV0.out.stays hs5)
      have HB5 := Lib.hid (below_hop HB0.out hs5)
      have y0 := hs5.cell q0
      have y1 := hs5.cell q1
      have y2 := hs5.cell q2
      have y3 := hs5.cell q3
      have y4 := hs5.cell q4
      have g0 := hs5.free hlt0 f0
      have g1 := hs5.free hlt0 f1
      have g2 := hs5.free hlt0 f2
      have g3 := hs5.free hlt0 f3
      have g4 := hs5.free hlt0 f4
      have hltQ : w.heap.size < W5.heap.size := cell_lt y0
      clear hs5 hx5 q0 q1 q2 q3 q4 f0 f1 f2 f3 f4
      cases hok : okI ⟨o, d, s, z, i⟩
      · have HN0 := Lib.hid (dec_none (l := l) (by rw [HD.out, if_neg (fun h => by rw [hok] at h; exact absurd h.1 (by simp))]))
        have CE := Lib.hid (rencode_bad ⟨o, d, s, z, i⟩ W5 HI.out hok)
        have CE2 : Hid (Calls Try.prog 29 #[.agg #[.int .i64 o, .int .i64 d, .int .i64 s, .int .i64 z, .int .i64 i]] W5 fun e w' => e = .returned (.tuple #[.slice none 0 0, .bool false]) ∧ Below W5.heap.size W5 w') := CE
        clear hok
        go_wp2_with ((go_at_call 29; with_reducible refine (CE2.out).mono ?_); rintro e w6 ⟨rfl, hb6⟩; have y0b := Since.cell hb6 y0; have y1b := Since.cell hb6 y1; have y2b := Since.cell hb6 y2; have y3b := Since.cell hb6 y3; have y4b := Since.cell hb6 y4; have g0b := Since.free hb6 hltQ g0; have g1b := Since.free hb6 hltQ g1; have g2b := Since.free hb6 hltQ g2; have g3b := Since.free hb6 hltQ g3; have g4b := Since.free hb6 hltQ g4; have HB6 := Lib.hid (below_hop HB5.out hb6); clear hb6)
        refine bodyPost_ret (v := .tuple #[InsV ⟨0, 0, 0, 0, 0⟩, .int .i64 0, .bool false]) (by simp [results, Try.results28, go_sem, InsV, y0b, y1b, y2b, y3b, y4b]) rfl ⟨?_, ?_⟩
        · rw [HN0.out.1, HN0.out.2.1, HN0.out.2.2]; rfl
        · exact below_set5 HB6.out (Nat.le_refl _) _ _ _ _ _
      · have CE := Lib.hid (rencode_ok ⟨o, d, s, z, i⟩ W5 HI.out hok)
        have CE2 : Hid (Calls Try.prog 29 #[.agg #[.int .i64 o, .int .i64 d, .int .i64 s, .int .i64 z, .int .i64 i]] W5 fun e w' => ∃ v, e = .returned (.tuple #[v, .bool true]) ∧ RowI w' W5.heap.size 5 .u8 v (encI ⟨o, d, s, z, i⟩) ∧ Below W5.heap.size W5 w') := CE
        have HLB : Hid ((encI ⟨o, d, s, z, i⟩).length ≤ 140737488351232) := by show _ ≤ _; have := (enc_len hok).2; omega
        have HD2 : Hid (decI l = if encI ⟨o, d, s, z, i⟩ <+: l then some (⟨o, d, s, z, i⟩, (encI ⟨o, d, s, z, i⟩).length) else none) := by
          show _ = _
          rw [HD.out]
          by_cases hq : encI ⟨o, d, s, z, i⟩ <+: l
          · rw [if_pos ⟨hok, hq⟩, if_pos hq]
          · rw [if_neg (fun h => hq h.2), if_neg hq]
        clear hok CE HD
        generalize encI ⟨o, d, s, z, i⟩ = en at *
        have CB : Hid (∀ wk v, Since W5 wk → Ints .u8 wk v en → Calls Try.prog 47 #[.slice va l.length vc, v] wk fun e w' => e = .returned (.bool (decide (en <+: l))) ∧ Dr wk w') := fun wk v h hi => begins_any l en _ v wk (HV5.out.stays h) hi
        obtain ⟨q, hq⟩ : ∃ q, decide (en <+: l) = q := ⟨_, rfl⟩
        rw [hq] at CB
        have HQ := Lib.hid hq
        clear hq
        cases q
        · have HN0 := Lib.hid (dec_none (l := l) (by rw [HD2.out, if_neg (of_decide_eq_false HQ.out)]))
          go_wp2_with (first | ((go_at_call 29; with_reducible refine (CE2.out).mono ?_); rintro e w6 ⟨v6, rfl, hr6, hb6⟩; obtain ⟨a6, c6, rfl⟩ := hr6.shape; have HR6 := Lib.hid hr6; have HS6 := Lib.hid (show Since W5 w6 from hb6); clear hr6 hb6) | ((go_at_call 47; with_reducible refine (CB.out _ _ HS6.out (HR6.out.ints HLB.out)).mono ?_); rintro e w7 ⟨rfl, hd7⟩; have hb6 : Since W5 w7 := Since.dr HS6.out hd7; have y0b := Since.cell hb6 y0; have y1b := Since.cell hb6 y1; have y2b := Since.cell hb6 y2; have y3b := Since.cell hb6 y3; have y4b := Since.cell hb6 y4; have g0b := Since.free hb6 hltQ g0; have g1b := Since.free hb6 hltQ g1; have g2b := Since.free hb6 hltQ g2; have g3b := Since.free hb6 hltQ g3; have g4b := Since.free hb6 hltQ g4; have HB6 := Lib.hid (below_hop HB5.out hb6); clear hb6 hd7))
          refine bodyPost_ret (v := .tuple #[InsV ⟨0, 0, 0, 0, 0⟩, .int .i64 0, .bool false]) (by simp [results, Try.results28, go_sem, InsV, y0b, y1b, y2b, y3b, y4b]) rfl ⟨?_, ?_⟩
          · rw [HN0.out.1, HN0.out.2.1, HN0.out.2.2]; rfl
          · exact below_set5 HB6.out (Nat.le_refl _) _ _ _ _ _
        · have HN1 := Lib.hid (dec_some (l := l) (x := ⟨o, d, s, z, i⟩) (n := en.length) (by rw [HD2.out, if_pos (of_decide_eq_true HQ.out)]))
          go_wp2_with (first | ((go_at_call 29; with_reducible refine (CE2.out).mono ?_); rintro e w6 ⟨v6, rfl, hr6, hb6⟩; obtain ⟨a6, c6, rfl⟩ := hr6.shape; have HR6 := Lib.hid hr6; have HS6 := Lib.hid (show Since W5 w6 from hb6); clear hr6 hb6) | ((go_at_call 47; with_reducible refine (CB.out _ _ HS6.out (HR6.out.ints HLB.out)).mono ?_); rintro e w7 ⟨rfl, hd7⟩; have hb6 : Since W5 w7 := Since.dr HS6.out hd7; have x0b := Since.cell hb6 x0; have x1b := Since.cell hb6 x1; have x2b := Since.cell hb6 x2; have x3b := Since.cell hb6 x3; have x4b := Since.cell hb6 x4; have y0b := Since.cell hb6 y0; have y1b := Since.cell hb6 y1; have y2b := Since.cell hb6 y2; have y3b := Since.cell hb6 y3; have y4b := Since.cell hb6 y4; have g0b := Since.free hb6 hltQ g0; have g1b := Since.free hb6 hltQ g1; have g2b := Since.free hb6 hltQ g2; have g3b := Since.free hb6 hltQ g3; have g4b := Since.free hb6 hltQ g4; have HB6 := Lib.hid (below_hop HB5.out hb6); clear hb6 hd7))
          refine bodyPost_ret (v := .tuple #[InsV ⟨o, d, s, z, i⟩, .int .i64 en.length, .bool true]) (by simp [results, Try.results28, go_sem, InsV, y0b, y1b, y2b, y3b, y4b]) rfl ⟨?_, ?_⟩
          · rw [HN1.out.1, HN1.out.2.1, HN1.out.2.2]
          · exact below_set5 HB6.out (Nat.le_refl _) _ _ _ _ _
theorem rDecode_any (l : List Int) (v : Value) (w : World) (hv : Ints .u8 w v l) (hby : Byt l) : Calls Try.prog 10 #[v] w fun e w' => e = .returned (.tuple #[InsV (decX l), .int .i64 (decN l), .bool (decB l)]) ∧ Below w.heap.size w w' := by
  obtain ⟨W0, hW0⟩ : ∃ W, w.alloc (.cells #[.int .i64 0, .int .i64 0, .int .i64 0, .int .i64 0, .int .i64 0] 25) = W := ⟨_, rfl⟩
  have hb0 : Below w.heap.size w W0 := by rw [← hW0]; exact (Below.refl _ _).alloc (Nat.le_refl _) _
  have hbx : Box5 W0 w.heap.size 0 0 0 0 0 := by rw [← hW0]; exact Box5.new w 0 0 0 0 0
  have C := Lib.hid (rdecode_any l v W0 (hv.stays hb0) hby)
  obtain ⟨x, hx⟩ : ∃ x, decX l = x := ⟨_, rfl⟩
  rw [hx] at C ⊢
  obtain ⟨o, d, s, z, i⟩ := x
  have C1 : Hid (Calls Try.prog 28 #[v] W0 fun e w' => e = .returned (.tuple #[.agg #[.int .i64 o, .int .i64 d, .int .i64 s, .int .i64 z, .int .i64 i], .int .i64 (decN l), .bool (decB l)]) ∧ Below W0.heap.size W0 w') := C
  generalize decN l = n at *
  generalize decB l = b at *
  obtain ⟨⟨q0, q1, q2, q3, q4⟩, qf⟩ := hbx.cells
  have f0 := qf 0
  have f1 := qf 1
  have f2 := qf 2
  have f3 := qf 3
  have f4 := qf 4
  have hlt0 := hbx.lt
  have HB0 := Lib.hid hb0
  clear hv hby C hx hb0 hbx qf
  go_enter Try.func10, Try.ntmps10
  go_wp2_with ((go_at_call 28; with_reducible refine (C1.out).mono ?_); rintro e w1 ⟨rfl, hb1⟩; have hs1 : Since W0 w1 := hb1; have y0 := hs1.cell q0; have y1 := hs1.cell q1; have y2 := hs1.cell q2; have y3 := hs1.cell q3; have y4 := hs1.cell q4; have g0 := hs1.free hlt0 f0; have g1 := hs1.free hlt0 f1; have g2 := hs1.free hlt0 f2; have g3 := hs1.free hlt0 f3; have g4 := hs1.free hlt0 f4; have HB1 := Lib.hid (below_hop HB0.out hb1); clear hb1 hs1)
  refine bodyPost_ret (v := .tuple #[InsV ⟨o, d, s, z, i⟩, .int .i64 n, .bool b]) (by simp [results, Try.results10, go_sem, InsV, y0, y1, y2, y3, y4]) rfl ⟨rfl, ?_⟩
  exact below_set5 HB1.out (Nat.le_refl _) _ _ _ _ _
end Go.Proofs.Ytdojafpjipcbjaa
namespace Go.Proofs.Ytdojafpjipcbjaa
open Go.RowKit
set_option linter.unusedVariables false
set_option linter.unusedSimpArgs false
set_option maxRecDepth 100000 in
set_option maxHeartbeats 1000000 in
theorem wIaReads (l : List Int) (v : Value) (w : World) (hv : Ints .u8 w v l) (hby : Byt l) : Calls Try.prog 3 #[v] w fun e w' => e = .returned (.bool true) ∧ Below w.heap.size w w' := by
  have HV := Lib.hid hv
  have HBY := Lib.hid hby
  obtain ⟨va, vc, rfl, hl1, hl2⟩ := hv.shape
  have CK := Lib.hid known_any
  clear hv hby
  by_cases hlen : 10000 < l.length
  · have d0 : decide (10000 < l.length) = true := decide_eq_true hlen
    go_enter Try.func3, Try.ntmps3
    go_wp2_with ((go_at_call 8; with_reducible refine (CK.out _).mono ?_); rintro e w1 ⟨rfl, hb1⟩)
    go_ret
    exact ⟨rfl, hb1⟩
  have d0 : decide (10000 < l.length) = false := decide_eq_false hlen
  have H1 := decode_any l _ w HV.out HBY.out
  obtain ⟨x, hx⟩ : ∃ x, decX l = x := ⟨_, rfl⟩
  obtain ⟨n, hn⟩ : ∃ n, decN l = n := ⟨_, rfl⟩
  obtain ⟨b, hb⟩ : ∃ b, decB l = b := ⟨_, rfl⟩
  have C2 : Hid (∀ wk, Since w wk → Calls Try.prog 10 #[.slice va l.length vc] wk fun e w' => e = .returned (.tuple #[InsV x, .int .i64 n, .bool b]) ∧ Below wk.heap.size wk w') := fun wk h => by
    have := rDecode_any l _ wk (HV.out.stays h) HBY.out
    rw [hx, hn, hb] at this
    exact this
  rw [hx, hn, hb] at H1
  obtain ⟨o, d, s, z, i⟩ := x
  have C1 : Hid (Calls Try.prog 9 #[.slice va l.length vc] w fun e w' => e = .returned (.tuple #[.agg #[.int .i64 o, .int .i64 d, .int .i64 s, .int .i64 z, .int .i64 i], .int .i64 n, .bool b]) ∧ Below w.heap.size w w') := H1
  have C2' : Hid (∀ wk, Since w wk → Calls Try.prog 10 #[.slice va l.length vc] wk fun e w' => e = .returned (.tuple #[.agg #[.int .i64 o, .int .i64 d, .int .i64 s, .int .i64 z, .int .i64 i], .int .i64 n, .bool b]) ∧ Below wk.heap.size wk w') := C2
  have HX := Lib.hid hx
  have HN := Lib.hid hn
  have HB := Lib.hid hb
  clear hx hn hb H1 C2
  go_enter Try.func3, Try.ntmps3
  go_upto_region 4 with ((go_at_call 9; with_reducible refine (C1.out).mono ?_); rintro e w1 ⟨rfl, hb1⟩)
  obtain ⟨W1, hW1⟩ : ∃ W, w1.alloc (.cells #[.int .i64 o, .int .i64 d, .int .i64 s, .int .i64 z, .int .i64 i] 25) = W := ⟨_, rfl⟩
  have hs1 : Since w W1 := by rw [← hW1]; exact below_hop hb1 ((Below.refl _ _).alloc (Nat.le_refl _) _)
  have hx1 : Box5 W1 w1.heap.size o d s z i := by rw [← hW1]; exact Box5.new w1 o d s z i
  rw [hW1]
  clear hW1 hb1
  go_upto_region 5 with ((go_at_call 10; with_reducible refine (C2'.out _ hs1).mono ?_); rintro e w2 ⟨rfl, hb2⟩)
  obtain ⟨W2, hW2⟩ : ∃ W, w2.alloc (.cells #[.int .i64 o, .int .i64 d, .int .i64 s, .int .i64 z, .int .i64 i] 25) = W := ⟨_, rfl⟩
  have hs2 : Since W1 W2 := by rw [← hW2]; exact below_hop hb2 ((Below.refl _ _).alloc (Nat.le_refl _) _)
  have hx2 : Box5 W2 w2.heap.size o d s z i := by rw [← hW2]; exact Box5.new w2 o d s z i
  have hs3 := below_hop hs1 hs2
  obtain ⟨⟨p0, p1, p2, p3, p4⟩, _⟩ := hx1.cells
  obtain ⟨⟨r0, r1, r2, r3, r4⟩, _⟩ := hx2.cells
  have q0 := hs2.cell p0
  have q1 := hs2.cell p1
  have q2 := hs2.cell p2
  have q3 := hs2.cell p3
  have q4 := hs2.cell p4
  have hltX : w1.heap.size < W2.heap.size := cell_lt q0
  rw [hW2]
  have HS3 := Lib.hid hs3
  clear hW2 hb2 hs1 hs2 hs3 hx1 hx2 p0 p1 p2 p3 p4 C1 C2'
  cases b
  · go_wp2_with ((go_at_call 8; with_reducible refine (CK.out _).mono ?_); rintro e w3 ⟨rfl, hb3⟩)
    go_ret
    exact ⟨rfl, below_hop HS3.out hb3⟩
  · have hdec : decI l = some (⟨o, d, s, z, i⟩, n) := by
      have h3 := HB.out
      unfold decB at h3
      obtain ⟨y, hy⟩ := Option.isSome_iff_exists.1 h3
      obtain ⟨y1, y2⟩ := y
      have := dec_some hy
      rw [hy, ← HX.out, ← HN.out, this.1, this.2.1]
    obtain ⟨hok, hnl, htk, hel⟩ := decI_is hdec
    have C3 : Hid (∀ wk, Calls Try.prog 11 #[.agg #[.int .i64 o, .int .i64 d, .int .i64 s, .int .i64 z, .int .i64 i]] wk fun e w' => ∃ v, e = .returned (.tuple #[v, .int .i64 0]) ∧ RowI w' wk.heap.size 5 .u8 v (encI ⟨o, d, s, z, i⟩) ∧ Below wk.heap.size wk w') := fun wk => encode_ok ⟨o, d, s, z, i⟩ wk hok
    have HTK := Lib.hid htk
    have HLB : Hid ((encI ⟨o, d, s, z, i⟩).length ≤ 140737488351232) := by show _ ≤ _; have := (enc_len hok).2; omega
    have HNL := Lib.hid hnl
    have hnc : n ≤ vc := by omega
    have hdn : decide (n ≤ l.length) = true := decide_eq_true hnl
    clear hdec hok htk hel
    generalize encI ⟨o, d, s, z, i⟩ = en at *
    go_upto_region 10 with ((go_at_call 11; with_reducible refine (C3.out _).mono ?_); rintro e w3 ⟨v3, rfl, hr3, hb3⟩; obtain ⟨a3, c3, rfl⟩ := hr3.shape)
    have hs4 := below_hop HS3.out hb3
    have HR3 := Lib.hid hr3
    have HS4 := Lib.hid hs4
    have t1 : ∀ wk, Since w3 wk → (convert 22 9 (.slice a3 en.length c3)).run Try.prog wk = .ok (.string (strOfNums en)) wk := fun wk h => ((HR3.out.ints HLB.out).stays h).str
    have t2 : ∀ wk, Since w3 wk → (convert 22 9 (.slice va n vc)).run Try.prog wk = .ok (.string (strOfNums en)) wk := fun wk h => by
      have := (((HV.out.stays HS4.out).stays h).take HNL.out).str
      rw [HTK.out]; exact this
    have h00 := Since.refl w3
    clear hr3 hs4 hb3 hnl
    generalize strOfNums en = S at *
    generalize en.length = k at *
    refine wp_region_held_drew (S := (fun wk => Since w3 wk)) (by kernel_rfl) ?_ (fun hHeld => ?_)
    · (first | assumption | exact Since.drew (by assumption) | exact Since.next (by assumption) (by assumption))
    refine tk 0 ?_; refine tk 1 ?_; refine tk 2 ?_; refine tk 3 ?_; refine tk 4 ?_
    refine rd1 5 (fun K hK => ?_)
    go_simp
    refine hK.out _ _ ?_ (fun hHeld => ?_)
    · (first | assumption | exact Since.drew (by assumption) | exact Since.next (by assumption) (by assumption))
    clear hK K
    try go_frame
    refine tk 6 ?_; refine tk 7 ?_; refine tk 8 ?_; refine tk 9 ?_; refine tk 10 ?_; refine tk 11 ?_; refine tk 12 ?_; refine tk 13 ?_
    refine tk 14 ?_; refine tk 15 ?_; refine tk 16 ?_; refine tk 17 ?_
    refine rd1 18 (fun K hK => ?_)
    (go_simp; (go_at_call 8; with_reducible refine (CK.out _).mono ?_); rintro e w6 ⟨rfl, hb6⟩; have hs6 := Since.next (by assumption) hb6)
    refine hK.out _ _ ?_ (fun hHeld => ?_)
    · (first | assumption | exact Since.drew (by assumption) | exact Since.next (by assumption) (by assumption))
    clear hK K
    try go_frame
    refine tk 19 ?_; refine tk 20 ?_
    refine wpAnyH_done (by kernel_rfl) ?_ _
    go_wp2_with fail
    go_ret
    exact ⟨rfl, below_hop HS4.out (by first | exact hs6 | exact Since.drew hs6)⟩
end Go.Proofs.Ytdojafpjipcbjaa
namespace Go.Proofs.Ytdojafpjipcbjaa
open Go.RowKit Go.WideShapes Go.ChangeShapes
section
variable {H : Type} {enc : TypeId × Value → H} {P : Program}
theorem trodAll_stays (hl : laidOutB P = true) {W W' : World} (hb : Below W.heap.size W W') (sp : Nat → Bool) : ∀ (ts : List TypeId) (vs : List Value) (ds : List (DataW H)) (ps : List MemPlace),
    (∀ t ∈ ts, P.readableRec t = true ∧ t < P.types.size) → DataW.TrodAll enc P W 0 (fun _ => true) true ts vs ds ps → (∀ x ∈ ps, x.block < W.heap.size) → (∀ p ∈ ps, sp p.block = true) → DataW.TrodAll enc P W' 0 sp true ts vs ds ps
  | [], vs, ds, ps, _, h, _, _ => by
    obtain ⟨rfl, rfl, rfl⟩ := trodAll_nil h
    exact trodAll_mk0
  | t :: ts, vs, ds, ps, ht, h, hlt, hsp => by
    obtain ⟨v, vs', d, ds', p, q, rfl, rfl, rfl, h1, h2⟩ := trodAll_cons h
    have h3 := ht t (List.mem_cons_self ..)
    exact trodAll_cons_mk (WideElems.Trod_stays hl h3.1 h3.2 h1 (fun x hx => hb.same (hlt x (List.mem_append.2 (.inl hx)))) (fun x hx => hsp x (List.mem_append.2 (.inl hx))))
      (trodAll_stays hl hb sp ts vs' ds' q (fun t' h' => ht t' (List.mem_cons_of_mem _ h')) h2 (fun x hx => hlt x (List.mem_append.2 (.inr hx))) (fun x hx => hsp x (List.mem_append.2 (.inr hx))))
theorem post_below {f : Func} {s : ChangeSpec} {apart fresh handsOn again : Bool} {W W' : World} {args : Array Value} {v : Value} {ds gs : List (DataW H)} {before pa pv : List MemPlace}
    (hW : DataW.Whole enc P f.params.toList s.vars apart W args.toList ds gs before)
    (hres : ∀ (b : Nat) (sp : Nat → Bool) (hd : Bool), DataW.TrodAll enc P W' b sp hd f.resultTypes.toList (v.resultList f.resultTypes.size) (s.fn H (ds ++ gs)).results [])
    (hargs : ∀ sp : Nat → Bool, (∀ p ∈ before, sp p.block = true) → DataW.TrodAll enc P W' 0 sp true f.params.toList args.toList (s.fn H (ds ++ gs)).args pa)
    (hvars : ∀ sp : Nat → Bool, (∀ p ∈ before, sp p.block = true) → DataW.TrodVars enc P W' sp s.vars (s.fn H (ds ++ gs)).vars pv)
    (hps : before = pa ++ pv) (hb : Below W.heap.size W W')
    (hok : ∀ (j : Nat) (t : TypeId) (r : Value), f.resultTypes[j]? = some t → (v.resultList f.resultTypes.size)[j]? = some r → Value.okWide P W' .any 0 t r) :
    s.post enc P f apart fresh handsOn again W args v W' := by
  have hlt : ∀ p ∈ before, p.block < W.heap.size := fun p hp => hW.lt p hp
  have hold : ∀ p ∈ before, (fun b => decide (b < W.heap.size)) p.block = true := fun p hp => by simpa using hlt p hp
  refine ⟨ds, gs, before, [], pa, pv, hW, hres _ _ _, hargs _ hold, hvars _ hold, World.keptBut_mono (fun p hp => ⟨hp, ?_⟩) (hb.frame (· ∈ before)), fun _ => ?_⟩
  · rw [hps, List.mem_append] at hp
    exact Or.inr hp
  · obtain ⟨_, _, _, _, _, hz, hn⟩ := hW
    refine ⟨hok, _, _, ([] ++ pa) ++ pv, ⟨[] ++ pa, pv, trodAll_append (hargs _ (fun _ _ => rfl)) (hres _ _ _), hvars _ (fun _ _ => rfl), rfl, ?_, ?_⟩, ?_⟩
    · intro b off hp
      have hin : MemPlace.cell b off ∈ before := by rw [hps]; simpa using hp
      rw [hb.frozen (hlt _ hin)]
      exact hz b off hin
    · intro ha
      have := hn ha
      rw [hps] at this
      simpa using this
    · intro p hp _
      rw [hps]
      simpa using hp
/-- A law that returned true and left alone what it found. -/
theorem post_law {f : Func} {s : ChangeSpec} {apart fresh handsOn again : Bool} {W W' : World} {args : Array Value} {ds gs : List (DataW H)} {before : List MemPlace} {tb : TypeId}
    (hl : laidOutB P = true) (hts : ∀ t ∈ f.params.toList, P.readableRec t = true ∧ t < P.types.size) (hres : f.resultTypes = #[tb]) (htb : P.underlying tb = some .bool) (hv : s.vars = [])
    (hW : DataW.Whole enc P f.params.toList s.vars apart W args.toList ds gs before) (hfn : s.fn H (ds ++ gs) = { results := [.lit (.bool true)], args := ds }) (hb : Below W.heap.size W W') :
    s.post enc P f apart fresh handsOn again W args (.bool true) W' := by
  have hW2 := hW
  obtain ⟨p, q, hA, hV, rfl, _, _⟩ := hW2
  rw [hv] at hV
  obtain ⟨rfl, rfl⟩ := trodVars_none hV
  refine post_below (pa := p) (pv := []) hW (fun b sp hd => ?_) (fun sp hsp => ?_) (fun sp _ => ?_) rfl hb (ok_one hres rfl (okWide_bool_mk htb _))
  · rw [hfn, hres]
    exact trodAll_mk1 (shut_bool htb _)
  · rw [hfn]
    exact trodAll_stays hl hb sp _ _ _ _ hts hA (fun x hx => hW.lt x (List.mem_append.2 (.inl hx))) (fun x hx => hsp x (List.mem_append.2 (.inl hx)))
  · rw [hfn, hv]
    trivial
end
end Go.Proofs.Ytdojafpjipcbjaa
namespace Go.Proofs.Ytdojafpjipcbjaa
open Go.RowKit Go.WideShapes Go.ChangeShapes Go.Deep
set_option linter.unusedVariables false
set_option linter.unusedSimpArgs false
section
variable {H : Type} {enc : TypeId × Value → H} {P : Program} {W : World} {base : Nat} {held : Bool}
/-- An integer's value fits its kind. -/
def FitsK (k : IntKind) (x : Int) : Prop := (Lit.int k x).wf = true
theorem weights_len {t e : TypeId} {elems spare : List (DataW H)} (ht : P.underlying t = some (.slice e)) (hb : 1 ≤ P.bytesOf e) (hw : ∀ n ∈ (DataW.slice elems spare).weights P t, n ≤ reachBytes) : elems.length + spare.length ≤ 140737488351232 := by
  have h := hw ((elems.length + spare.length) * P.bytesOf e) (by simp [DataW.weights, ht])
  have h2 : elems.length + spare.length ≤ (elems.length + spare.length) * P.bytesOf e := Nat.le_mul_of_pos_right _ hb
  unfold reachBytes at h
  omega
theorem readI {t e : TypeId} {k : IntKind} {fuel : Nat} {cs : List Value} {d : DataW H} {ps : List MemPlace} (ht : P.underlying t = some (.slice e)) (he : P.underlying e = some (.int k)) (hc : P.cellsOf e = 1) (hby : 1 ≤ P.bytesOf e)
    (h : DataW.trod enc P W base (fun _ => true) held fuel t cs = some (d, ps)) (hw : ∀ n ∈ d.weights P t, n ≤ reachBytes) : ∃ v xs, cs = [v] ∧ Ints k W v xs ∧ ∀ x ∈ xs, FitsK k x := by
  rcases open_ints ht he hc h with ⟨rfl, hx⟩ | ⟨a, len, cap, zs, rfl, hb, hl, hm, hz, hx, hcell, hwf⟩
  · exact ⟨_, [], rfl, ⟨none, 0, rfl, Nat.le_refl _, ⟨by simp, by omega⟩, fun _ => rfl, fun i hi => absurd hi (by simp)⟩, fun x hx => by cases hx⟩
  · simp only [if_true] at hz
    simp only [Prod.mk.injEq] at hx
    have hcap : cap ≤ 140737488351232 := by
      rw [hx.1] at hw
      have := weights_len ht hby hw
      simp [lits] at this
      omega
    have hlen : (zs.take len).length = len := by rw [List.length_take]; omega
    refine ⟨_, zs.take len, rfl, ⟨some a, cap, by rw [hlen], by omega, ⟨by omega, by unfold maxLen at hm; omega⟩, (fun hh => by cases hh), fun i hi => ?_⟩, fun x hx => hwf x (List.mem_of_mem_take hx)⟩
    rw [hlen] at hi
    have hc0 := hcell i (by omega)
    have hs := World.cell?_spot hc0
    obtain ⟨b, o, s⟩ := a
    have hsp : s = none := by
      by_cases e0 : i = 0
      · subst e0; exact World.cell?_spot (hcell 0 (by omega))
      · exact World.cell?_spot (hcell 0 (by omega))
    subst hsp
    have e1 : (⟨b, o, none⟩ : Addr).add i = ⟨b, o + i, none⟩ := by
      unfold Addr.add
      by_cases e0 : i = 0
      · rw [if_pos e0, e0]; rfl
      · rw [if_neg e0]
    rw [e1] at hc0
    refine ⟨b, o, rfl, cell_lt hc0, ?_⟩
    show W.cell? ⟨b, o + i * 1, none⟩ = _
    rw [Nat.mul_one, hc0, List.getD_eq_getElem?_getD, List.getD_eq_getElem?_getD, List.getElem?_take, if_pos hi]
theorem add_add (b o i j : Nat) : ((⟨b, o, none⟩ : Addr).add i).add j = ⟨b, o + i + j, none⟩ := by
  have e : ∀ (o i : Nat), (⟨b, o, none⟩ : Addr).add i = ⟨b, o + i, none⟩ := by
    intro o i
    unfold Addr.add
    by_cases e0 : i = 0
    · rw [if_pos e0, e0]; rfl
    · rw [if_neg e0]
  rw [e, e]
theorem weights_mem {fs : Array Field} {t : TypeId} {parts : List (DataW H)} (ht : P.underlying t = some (.struct fs)) {i : Nat} {f : Field} {d : DataW H} (hf : fs[i]? = some f) (hd : parts[i]? = some d) {n : Nat} (hn : n ∈ d.weights P f.type) : n ∈ (DataW.agg parts).weights P t := by
  have h1 : (fs.toList.map (·.type))[i]? = some f.type := by rw [List.getElem?_map]; simp [hf]
  have := DataW.weights_mem_each h1 hd n hn
  simpa [DataW.weights, ht] using this
theorem weightsAll_mem {e : TypeId} : ∀ {l : List (DataW H)} {d : DataW H}, d ∈ l → ∀ n ∈ d.weights P e, n ∈ DataW.weightsAll P e l
  | x :: l, d, h, n, hn => by
    simp only [DataW.weightsAll, List.mem_append]
    rcases List.mem_cons.1 h with rfl | h
    · exact Or.inl hn
    · exact Or.inr (weightsAll_mem h n hn)
/-- The types of a node, told once. -/
structure NodeTy (P : Program) (e ei : TypeId) (f0 f1 f2 f3 f4 : Field) : Prop where
  st : P.underlying e = some (.struct #[f0, f1, f2, f3, f4])
  o : f0.offset = 0 ∧ f1.offset = 1 ∧ f2.offset = 2 ∧ f3.offset = 3 ∧ f4.offset = 4
  u0 : P.underlying f0.type = some (.int .i64)
  u1 : P.underlying f1.type = some (.int .i64)
  u2 : P.underlying f2.type = some (.int .i64)
  u3 : P.underlying f3.type = some (.slice ei)
  u4 : P.underlying f4.type = some (.int .u32)
  ui : P.underlying ei = some (.int .i64)
  c : P.cellsOf f0.type = 1 ∧ P.cellsOf f1.type = 1 ∧ P.cellsOf f2.type = 1 ∧ P.cellsOf f3.type = 1 ∧ P.cellsOf f4.type = 1 ∧ P.cellsOf ei = 1 ∧ P.cellsOf e = 5
  b : 1 ≤ P.bytesOf ei
theorem readN1 {e ei : TypeId} {f0 f1 f2 f3 f4 : Field} (T : NodeTy P e ei f0 f1 f2 f3 f4) {fuel b o : Nat} {cs : List Value} {d : DataW H} {ps : List MemPlace}
    (hcs : ∀ i, i < 5 → W.cell? ⟨b, o + i, none⟩ = cs[i]?) (hl : cs.length = 5) (h : DataW.trod enc P W base (fun _ => true) held fuel e cs = some (d, ps)) (hw : ∀ n ∈ d.weights P e, n ≤ reachBytes) :
    ∃ x : Nd, NdAt W b o x ∧ FitsK .u32 x.imm ∧ FitsK .i64 x.op ∧ FitsK .i64 x.width ∧ FitsK .i64 x.flags ∧ ∀ a ∈ x.args, FitsK .i64 a := by
  obtain ⟨xs, n, _, hx, _, hn, hf⟩ := DataW.trod_struct T.st h
  obtain ⟨o0, o1, o2, o3, o4⟩ := T.o
  obtain ⟨k0, k1, k2, k3, k4, ki, ke⟩ := T.c
  simp only [Prod.mk.injEq] at hx
  match cs, hl with
  | [v0, v1, v2, v3, v4], _ =>
  match xs, hn with
  | [y0, y1, y2, y3, y4], _ =>
  have g0 := hf 0 f0 rfl
  have g1 := hf 1 f1 rfl
  have g2 := hf 2 f2 rfl
  have g3 := hf 3 f3 rfl
  have g4 := hf 4 f4 rfl
  rw [o0, k0] at g0
  rw [o1, k1] at g1
  rw [o2, k2] at g2
  rw [o3, k3] at g3
  rw [o4, k4] at g4
  obtain ⟨n0, a0, _, w0⟩ := DataW.trod_int T.u0 (show DataW.trod enc P W base (fun _ => true) held n f0.type [v0] = some y0 from g0)
  obtain ⟨n1, a1, _, w1⟩ := DataW.trod_int T.u1 (show DataW.trod enc P W base (fun _ => true) held n f1.type [v1] = some y1 from g1)
  obtain ⟨n2, a2, _, w2⟩ := DataW.trod_int T.u2 (show DataW.trod enc P W base (fun _ => true) held n f2.type [v2] = some y2 from g2)
  obtain ⟨n4, a4, _, w4⟩ := DataW.trod_int T.u4 (show DataW.trod enc P W base (fun _ => true) held n f4.type [v4] = some y4 from g4)
  obtain ⟨d3, p3⟩ := y3
  obtain ⟨v, zs, a3, hz, wz⟩ := readI T.u3 T.ui ki T.b (show DataW.trod enc P W base (fun _ => true) held n f3.type [v3] = some (d3, p3) from g3) (fun m hm => by
    refine hw m ?_
    rw [hx.1]
    exact weights_mem T.st (i := 3) (f := f3) rfl rfl hm)
  cases a0; cases a1; cases a2; cases a3; cases a4
  exact ⟨⟨n0, n1, n2, zs, n4⟩, ⟨hcs 0 (by omega), hcs 1 (by omega), hcs 2 (by omega), ⟨v3, hcs 3 (by omega), hz⟩, hcs 4 (by omega)⟩, w4, w0, w1, w2, wz⟩
theorem readN {t e ei : TypeId} {f0 f1 f2 f3 f4 : Field} (ht : P.underlying t = some (.slice e)) (T : NodeTy P e ei f0 f1 f2 f3 f4) (hby : 1 ≤ P.bytesOf e) {fuel : Nat} {cs : List Value} {d : DataW H} {ps : List MemPlace}
    (h : DataW.trod enc P W base (fun _ => true) held fuel t cs = some (d, ps)) (hw : ∀ n ∈ d.weights P t, n ≤ reachBytes) :
    ∃ v ts, cs = [v] ∧ Nds W v ts ∧ ∀ x ∈ ts, FitsK .u32 x.imm ∧ FitsK .i64 x.op ∧ FitsK .i64 x.width ∧ FitsK .i64 x.flags ∧ ∀ a ∈ x.args, FitsK .i64 a := by
  rcases open_slice ht h with ⟨rfl, hx⟩ | ⟨a, len, cap, m, n, D, Pl, rfl, hb, hl, hm, hmm, hx, hel⟩
  · exact ⟨_, [], rfl, ⟨none, 0, rfl, Nat.le_refl _, ⟨by simp, by omega⟩, fun _ => rfl, fun i hi => absurd hi (by simp)⟩, fun x hx => by cases hx⟩
  · simp only [if_true] at hmm
    subst hmm
    simp only [Prod.mk.injEq] at hx
    obtain ⟨hd, _⟩ := hx
    have hcap : m ≤ 140737488351232 := by
      rw [hd] at hw
      have := weights_len ht hby hw
      simp at this
      omega
    obtain ⟨_, _, _, _, _, _, ke⟩ := T.c
    by_cases hz : len = 0
    · subst hz
      exact ⟨_, [], rfl, ⟨some a, m, rfl, by omega, ⟨by simp, by omega⟩, (fun hh => by cases hh), fun i hi => absurd hi (by simp)⟩, fun x hx => by cases hx⟩
    have hsp : a.spot = none := by
      obtain ⟨cs', h1, _⟩ := hel 0 (by omega)
      rw [ke] at h1
      obtain ⟨_, hl5, hg⟩ := World.cells?_some h1
      have h0 := hg 0 (by omega)
      have e0 : (a.add (0 * 5)).add 0 = a := by simp [Addr.add]
      rw [e0, List.getElem?_eq_getElem (by omega)] at h0
      exact World.cell?_spot h0
    obtain ⟨b, o, s⟩ := a
    simp only at hsp
    subst hsp
    obtain ⟨V, hV⟩ := choose_lt (α := Nd) (n := len) (p := fun i x => NdAt W b (o + i * 5) x ∧ FitsK .u32 x.imm ∧ FitsK .i64 x.op ∧ FitsK .i64 x.width ∧ FitsK .i64 x.flags ∧ ∀ a ∈ x.args, FitsK .i64 a) (fun i hi => by
      obtain ⟨cs', h1, h2⟩ := hel i (by omega)
      rw [ke] at h1
      obtain ⟨_, hl5, hg⟩ := World.cells?_some h1
      exact readN1 T (fun j hj => by rw [← add_add b o (i * 5) j]; exact hg j hj) hl5 h2 (fun k hk => by
        refine hw k ?_
        rw [hd]
        simp only [DataW.weights, ht, List.mem_cons, List.mem_append]
        exact Or.inr (Or.inl (weightsAll_mem (List.mem_map.2 ⟨i, List.mem_range.2 hi, rfl⟩) k hk))))
    have hlen : ((List.range len).map V).length = len := by simp
    have hget : ∀ i, i < len → ((List.range len).map V).getD i default = V i := fun i hi => by
      rw [List.getD_eq_getElem?_getD, List.getElem?_map, List.getElem?_range hi]; rfl
    refine ⟨_, (List.range len).map V, rfl, ⟨some ⟨b, o, none⟩, m, by rw [hlen], by omega, ⟨by omega, by omega⟩, (fun hh => by cases hh), fun i hi => ?_⟩, fun x hx => ?_⟩
    · rw [hlen] at hi
      refine ⟨b, o, rfl, cell_lt (hV i hi).1.1, ?_⟩
      show NdAt W b (o + i * 5) _
      rw [hget i hi]
      exact (hV i hi).1
    · obtain ⟨i, hi, rfl⟩ := List.mem_map.1 hx
      exact (hV i (List.mem_range.1 hi)).2
theorem fits_u32 {x : Int} (h : FitsK .u32 x) : 0 ≤ x ∧ x ≤ 4294967295 := by simpa [FitsK, Lit.wf, IntKind.min, IntKind.max, IntKind.signed, IntKind.bits] using h
theorem fits_i64 {x : Int} (h : FitsK .i64 x) : -9223372036854775808 ≤ x ∧ x ≤ 9223372036854775807 := by simpa [FitsK, Lit.wf, IntKind.min, IntKind.max, IntKind.signed, IntKind.bits] using h
end
end Go.Proofs.Ytdojafpjipcbjaa
