/- Walks of the reference's encode, Encode, Validate, operation by operation and size by size. -/
import Derived.Test.YtdojafpjipcbjaaJ19
import Derived.Test.YtdojafpjipcbjaaJ20
import Derived.Test.YtdojafpjipcbjaaJ21
import Derived.Test.YtdojafpjipcbjaaJ22
import Derived.Test.YtdojafpjipcbjaaJ23
import Derived.Test.YtdojafpjipcbjaaJ24
import Derived.Test.YtdojafpjipcbjaaJ25
import Derived.Test.YtdojafpjipcbjaaJ26
import Derived.Test.YtdojafpjipcbjaaJ27
namespace Go.Proofs.Ytdojafpjipcbjaa
open Go.RowKit
set_option linter.unusedVariables false
set_option linter.unusedSimpArgs false
theorem moves_is (o d s z i : Int) (w : World) (hi : I64 i) (h0 : 0 ≤ o) (h1 : o ≤ 6) (hz : z = 8 ∨ z = 16 ∨ z = 32) : Calls Try.prog 48 #[.agg #[.int .i64 o, .int .i64 d, .int .i64 s, .int .i64 z, .int .i64 i]] w (MRet ⟨o, d, s, z, i⟩ w) := by
  rcases (show o = 0 ∨ o = 1 ∨ o = 2 ∨ o = 3 ∨ o = 4 ∨ o = 5 ∨ o = 6 by omega) with rfl | rfl | rfl | rfl | rfl | rfl | rfl
  · exact ref_0 d s z i w hi
  · rcases hz with rfl | rfl | rfl
    · exact ref_1_8 d s i w hi
    · exact ref_1_16 d s i w hi
    · exact ref_1_32 d s i w hi
  · exact ref_2 d s z i w hi
  · exact ref_3 d s z i w hi
  · exact ref_4 d s z i w hi
  · exact ref_5 d s z i w hi
  · exact ref_6 d s z i w hi
theorem counts_is (o d s z i : Int) (w : World) (hi : I64 i) (h0 : 7 ≤ o) (h1 : o ≤ 27) (hz : z = 8 ∨ z = 16 ∨ z = 32) : Calls Try.prog 49 #[.agg #[.int .i64 o, .int .i64 d, .int .i64 s, .int .i64 z, .int .i64 i]] w (MRet ⟨o, d, s, z, i⟩ w) := by
  rcases (show o = 7 ∨ o = 8 ∨ o = 9 ∨ o = 10 ∨ o = 11 ∨ o = 12 ∨ o = 13 ∨ o = 14 ∨ o = 15 ∨ o = 16 ∨ o = 17 ∨ o = 18 ∨ o = 19 ∨ o = 20 ∨ o = 21 ∨ o = 22 ∨ o = 23 ∨ o = 24 ∨ o = 25 ∨ o = 26 ∨ o = 27 by omega) with rfl | rfl | rfl | rfl | rfl | rfl | rfl | rfl | rfl | rfl | rfl | rfl | rfl | rfl | rfl | rfl | rfl | rfl | rfl | rfl | rfl
  · exact ref_7 d s z i w hi
  · exact ref_8 d s z i w hi
  · exact ref_9 d s z i w hi
  · exact ref_10 d s z i w hi
  · exact ref_11 d s z i w hi
  · exact ref_12 d s z i w hi
  · exact ref_13 d s z i w hi
  · rcases hz with rfl | rfl | rfl
    · exact ref_14_8 d s i w hi
    · exact ref_14_16 d s i w hi
    · exact ref_14_32 d s i w hi
  · rcases hz with rfl | rfl | rfl
    · exact ref_15_8 d s i w hi
    · exact ref_15_16 d s i w hi
    · exact ref_15_32 d s i w hi
  · rcases hz with rfl | rfl | rfl
    · exact ref_16_8 d s i w hi
    · exact ref_16_16 d s i w hi
    · exact ref_16_32 d s i w hi
  · rcases hz with rfl | rfl | rfl
    · exact ref_17_8 d s i w hi
    · exact ref_17_16 d s i w hi
    · exact ref_17_32 d s i w hi
  · rcases hz with rfl | rfl | rfl
    · exact ref_18_8 d s i w hi
    · exact ref_18_16 d s i w hi
    · exact ref_18_32 d s i w hi
  · rcases hz with rfl | rfl | rfl
    · exact ref_19_8 d s i w hi
    · exact ref_19_16 d s i w hi
    · exact ref_19_32 d s i w hi
  · exact ref_20 d s z i w hi
  · exact ref_21 d s z i w hi
  · exact ref_22 d s z i w hi
  · exact ref_23 d s z i w hi
  · exact ref_24 d s z i w hi
  · exact ref_25 d s z i w hi
  · exact ref_26 d s z i w hi
  · exact ref_27 d s z i w hi
theorem others_is (o d s z i : Int) (w : World) (hi : I64 i) (h0 : 28 ≤ o) (h1 : o ≤ 36) (hz : z = 8 ∨ z = 16 ∨ z = 32) : Calls Try.prog 50 #[.agg #[.int .i64 o, .int .i64 d, .int .i64 s, .int .i64 z, .int .i64 i]] w (MRet ⟨o, d, s, z, i⟩ w) := by
  rcases (show o = 28 ∨ o = 29 ∨ o = 30 ∨ o = 31 ∨ o = 32 ∨ o = 33 ∨ o = 34 ∨ o = 35 ∨ o = 36 by omega) with rfl | rfl | rfl | rfl | rfl | rfl | rfl | rfl | rfl
  · exact ref_28 d s z i w hi
  · exact ref_29 d s z i w hi
  · exact ref_30 d s z i w hi
  · exact ref_31 d s z i w hi
  · by_cases h8 : z = 8
    · subst h8; exact ref_32s d s i w hi
    · exact ref_32l d s z i w hi (by simpa using h8)
  · by_cases h8 : z = 8
    · subst h8; exact ref_33s d s i w hi
    · exact ref_33l d s z i w hi (by simpa using h8)
  · exact ref_34 d s z i w hi
  · exact ref_35 d s z i w hi
  · exact ref_36 d s z i w hi
set_option maxRecDepth 100000 in
set_option maxHeartbeats 4000000 in
theorem en_8_0_f (o d s i : Int) (w : World) (hi : I64 i) (h0 : 0 ≤ o) (h1 : o ≤ 6) (hok : okI ⟨o, d, s, 8, i⟩ = false) : Calls Try.prog 29 #[.agg #[.int .i64 o, .int .i64 d, .int .i64 s, .int .i64 8, .int .i64 i]] w fun e w' => e = .returned (.tuple #[.slice none 0 0, .bool false]) ∧ Below w.heap.size w w' := by
  have C0 : Hid (∀ w, Calls Try.prog 48 #[.agg #[.int .i64 o, .int .i64 d, .int .i64 s, .int .i64 8, .int .i64 i]] w fun e w' => ∃ v, e = .returned (.tuple #[v, .bool false]) ∧ Below w.heap.size w w') := fun w => (moves_is o d s 8 i w hi h0 h1 (by decide)).mono fun e w' ⟨v, ok, e1, e2, e3, e4⟩ => ⟨v, by rw [e1, e2, hok], e4⟩
  have C1 := Lib.hid (fun w => counts_no o d s 8 i w (by omega))
  have C2 := Lib.hid (fun w => others_no o d s 8 i w (by omega))
  clear h0 h1 hok
  go_enter Try.func29, Try.ntmps29
  go_wp2_with (first | ((go_at_call 48; with_reducible refine (C0.out _).mono ?_); rintro e w0 ⟨v0, rfl, hb⟩; have HB0 := Lib.hid (hb); have y00 : w0.cell? ⟨w.heap.size, 0, none⟩ = some (.int .i64 (o)) := box_kept HB0.out 0; have y01 : w0.cell? ⟨w.heap.size, 1, none⟩ = some (.int .i64 (d)) := box_kept HB0.out 1; have y02 : w0.cell? ⟨w.heap.size, 2, none⟩ = some (.int .i64 (s)) := box_kept HB0.out 2; have y03 : w0.cell? ⟨w.heap.size, 3, none⟩ = some (.int .i64 (8)) := box_kept HB0.out 3; have y04 : w0.cell? ⟨w.heap.size, 4, none⟩ = some (.int .i64 (i)) := box_kept HB0.out 4; clear hb) | ((go_at_call 49; with_reducible refine (C1.out _).mono ?_); rintro e w1 ⟨rfl, hb⟩; have HB1 := Lib.hid ((below_hop HB0.out hb)); have y10 : w1.cell? ⟨w.heap.size, 0, none⟩ = some (.int .i64 (o)) := box_kept HB1.out 0; have y11 : w1.cell? ⟨w.heap.size, 1, none⟩ = some (.int .i64 (d)) := box_kept HB1.out 1; have y12 : w1.cell? ⟨w.heap.size, 2, none⟩ = some (.int .i64 (s)) := box_kept HB1.out 2; have y13 : w1.cell? ⟨w.heap.size, 3, none⟩ = some (.int .i64 (8)) := box_kept HB1.out 3; have y14 : w1.cell? ⟨w.heap.size, 4, none⟩ = some (.int .i64 (i)) := box_kept HB1.out 4; clear hb) | ((go_at_call 50; with_reducible refine (C2.out _).mono ?_); rintro e w2 ⟨rfl, hb⟩; have HB2 := Lib.hid ((below_hop HB1.out hb)); have y20 : w2.cell? ⟨w.heap.size, 0, none⟩ = some (.int .i64 (o)) := box_kept HB2.out 0; have y21 : w2.cell? ⟨w.heap.size, 1, none⟩ = some (.int .i64 (d)) := box_kept HB2.out 1; have y22 : w2.cell? ⟨w.heap.size, 2, none⟩ = some (.int .i64 (s)) := box_kept HB2.out 2; have y23 : w2.cell? ⟨w.heap.size, 3, none⟩ = some (.int .i64 (8)) := box_kept HB2.out 3; have y24 : w2.cell? ⟨w.heap.size, 4, none⟩ = some (.int .i64 (i)) := box_kept HB2.out 4; clear hb))
  go_ret2
  exact ⟨rfl, below_box HB2.out⟩
set_option maxRecDepth 100000 in
set_option maxHeartbeats 4000000 in
theorem en_8_1_f (o d s i : Int) (w : World) (hi : I64 i) (h0 : 7 ≤ o) (h1 : o ≤ 27) (hok : okI ⟨o, d, s, 8, i⟩ = false) : Calls Try.prog 29 #[.agg #[.int .i64 o, .int .i64 d, .int .i64 s, .int .i64 8, .int .i64 i]] w fun e w' => e = .returned (.tuple #[.slice none 0 0, .bool false]) ∧ Below w.heap.size w w' := by
  have C0 := Lib.hid (fun w => moves_no o d s 8 i w (by omega))
  have C1 : Hid (∀ w, Calls Try.prog 49 #[.agg #[.int .i64 o, .int .i64 d, .int .i64 s, .int .i64 8, .int .i64 i]] w fun e w' => ∃ v, e = .returned (.tuple #[v, .bool false]) ∧ Below w.heap.size w w') := fun w => (counts_is o d s 8 i w hi h0 h1 (by decide)).mono fun e w' ⟨v, ok, e1, e2, e3, e4⟩ => ⟨v, by rw [e1, e2, hok], e4⟩
  have C2 := Lib.hid (fun w => others_no o d s 8 i w (by omega))
  clear h0 h1 hok
  go_enter Try.func29, Try.ntmps29
  go_wp2_with (first | ((go_at_call 48; with_reducible refine (C0.out _).mono ?_); rintro e w0 ⟨rfl, hb⟩; have HB0 := Lib.hid (hb); have y00 : w0.cell? ⟨w.heap.size, 0, none⟩ = some (.int .i64 (o)) := box_kept HB0.out 0; have y01 : w0.cell? ⟨w.heap.size, 1, none⟩ = some (.int .i64 (d)) := box_kept HB0.out 1; have y02 : w0.cell? ⟨w.heap.size, 2, none⟩ = some (.int .i64 (s)) := box_kept HB0.out 2; have y03 : w0.cell? ⟨w.heap.size, 3, none⟩ = some (.int .i64 (8)) := box_kept HB0.out 3; have y04 : w0.cell? ⟨w.heap.size, 4, none⟩ = some (.int .i64 (i)) := box_kept HB0.out 4; clear hb) | ((go_at_call 49; with_reducible refine (C1.out _).mono ?_); rintro e w1 ⟨v1, rfl, hb⟩; have HB1 := Lib.hid ((below_hop HB0.out hb)); have y10 : w1.cell? ⟨w.heap.size, 0, none⟩ = some (.int .i64 (o)) := box_kept HB1.out 0; have y11 : w1.cell? ⟨w.heap.size, 1, none⟩ = some (.int .i64 (d)) := box_kept HB1.out 1; have y12 : w1.cell? ⟨w.heap.size, 2, none⟩ = some (.int .i64 (s)) := box_kept HB1.out 2; have y13 : w1.cell? ⟨w.heap.size, 3, none⟩ = some (.int .i64 (8)) := box_kept HB1.out 3; have y14 : w1.cell? ⟨w.heap.size, 4, none⟩ = some (.int .i64 (i)) := box_kept HB1.out 4; clear hb) | ((go_at_call 50; with_reducible refine (C2.out _).mono ?_); rintro e w2 ⟨rfl, hb⟩; have HB2 := Lib.hid ((below_hop HB1.out hb)); have y20 : w2.cell? ⟨w.heap.size, 0, none⟩ = some (.int .i64 (o)) := box_kept HB2.out 0; have y21 : w2.cell? ⟨w.heap.size, 1, none⟩ = some (.int .i64 (d)) := box_kept HB2.out 1; have y22 : w2.cell? ⟨w.heap.size, 2, none⟩ = some (.int .i64 (s)) := box_kept HB2.out 2; have y23 : w2.cell? ⟨w.heap.size, 3, none⟩ = some (.int .i64 (8)) := box_kept HB2.out 3; have y24 : w2.cell? ⟨w.heap.size, 4, none⟩ = some (.int .i64 (i)) := box_kept HB2.out 4; clear hb))
  go_ret2
  exact ⟨rfl, below_box HB2.out⟩
set_option maxRecDepth 100000 in
set_option maxHeartbeats 4000000 in
theorem en_8_2_t (o d s i : Int) (w : World) (hi : I64 i) (h0 : 28 ≤ o) (h1 : o ≤ 36) (hok : okI ⟨o, d, s, 8, i⟩ = true) : Calls Try.prog 29 #[.agg #[.int .i64 o, .int .i64 d, .int .i64 s, .int .i64 8, .int .i64 i]] w fun e w' => ∃ v, e = .returned (.tuple #[v, .bool true]) ∧ RowI w' w.heap.size 5 .u8 v (encI ⟨o, d, s, 8, i⟩) ∧ Below w.heap.size w w' := by
  have C0 := Lib.hid (fun w => moves_no o d s 8 i w (by omega))
  have C1 := Lib.hid (fun w => counts_no o d s 8 i w (by omega))
  have C2 : Hid (∀ w, Calls Try.prog 50 #[.agg #[.int .i64 o, .int .i64 d, .int .i64 s, .int .i64 8, .int .i64 i]] w fun e w' => ∃ v, e = .returned (.tuple #[v, .bool true]) ∧ RowI w' w.heap.size 5 .u8 v (bodyI ⟨o, d, s, 8, i⟩) ∧ Below w.heap.size w w') := fun w => (others_is o d s 8 i w hi h0 h1 (by decide)).mono fun e w' ⟨v, ok, e1, e2, e3, e4⟩ => ⟨v, by rw [e1, e2, hok], e3 hok, e4⟩
  have hlen := body_len hok
  have HE : Hid (encI ⟨o, d, s, 8, i⟩ = bodyI ⟨o, d, s, 8, i⟩) := rfl
  rw [HE.out]
  clear HE
  generalize bodyI ⟨o, d, s, 8, i⟩ = ys at *
  have HPOS : Hid (0 < ys.length) := hlen.1
  have HLEN : Hid (([(102 : Int)]).length + ys.length ≤ 100000) := by show _ ≤ _; simp; omega
  have HY5 : Hid (ys.length ≤ 140737488351232) := by show _ ≤ _; omega
  clear hlen
  clear h0 h1 hok
  go_enter Try.func29, Try.ntmps29
  go_wp2_with (first | ((go_at_call 48; with_reducible refine (C0.out _).mono ?_); rintro e w0 ⟨rfl, hb⟩; have HB0 := Lib.hid (hb); have y00 : w0.cell? ⟨w.heap.size, 0, none⟩ = some (.int .i64 (o)) := box_kept HB0.out 0; have y01 : w0.cell? ⟨w.heap.size, 1, none⟩ = some (.int .i64 (d)) := box_kept HB0.out 1; have y02 : w0.cell? ⟨w.heap.size, 2, none⟩ = some (.int .i64 (s)) := box_kept HB0.out 2; have y03 : w0.cell? ⟨w.heap.size, 3, none⟩ = some (.int .i64 (8)) := box_kept HB0.out 3; have y04 : w0.cell? ⟨w.heap.size, 4, none⟩ = some (.int .i64 (i)) := box_kept HB0.out 4; clear hb) | ((go_at_call 49; with_reducible refine (C1.out _).mono ?_); rintro e w1 ⟨rfl, hb⟩; have HB1 := Lib.hid ((below_hop HB0.out hb)); have y10 : w1.cell? ⟨w.heap.size, 0, none⟩ = some (.int .i64 (o)) := box_kept HB1.out 0; have y11 : w1.cell? ⟨w.heap.size, 1, none⟩ = some (.int .i64 (d)) := box_kept HB1.out 1; have y12 : w1.cell? ⟨w.heap.size, 2, none⟩ = some (.int .i64 (s)) := box_kept HB1.out 2; have y13 : w1.cell? ⟨w.heap.size, 3, none⟩ = some (.int .i64 (8)) := box_kept HB1.out 3; have y14 : w1.cell? ⟨w.heap.size, 4, none⟩ = some (.int .i64 (i)) := box_kept HB1.out 4; clear hb) | ((go_at_call 50; with_reducible refine (C2.out _).mono ?_); rintro e w2 ⟨v2, rfl, hr, hb⟩; have HB2 := Lib.hid ((below_hop HB1.out hb)); have y20 : w2.cell? ⟨w.heap.size, 0, none⟩ = some (.int .i64 (o)) := box_kept HB2.out 0; have y21 : w2.cell? ⟨w.heap.size, 1, none⟩ = some (.int .i64 (d)) := box_kept HB2.out 1; have y22 : w2.cell? ⟨w.heap.size, 2, none⟩ = some (.int .i64 (s)) := box_kept HB2.out 2; have y23 : w2.cell? ⟨w.heap.size, 3, none⟩ = some (.int .i64 (8)) := box_kept HB2.out 3; have y24 : w2.cell? ⟨w.heap.size, 4, none⟩ = some (.int .i64 (i)) := box_kept HB2.out 4; have HR := Lib.hid (hr.mono (show w.heap.size ≤ _ by first | (simp; done) | (simp; omega) | (have := (below_box HB1.out).size; omega))); clear hr; obtain ⟨ra, rc, rfl⟩ := HR.out.shape; clear hb))
  go_ret2
  exact ⟨_, rfl, HR.out, below_box HB2.out⟩
set_option maxRecDepth 100000 in
set_option maxHeartbeats 4000000 in
theorem en_8_2_f (o d s i : Int) (w : World) (hi : I64 i) (h0 : 28 ≤ o) (h1 : o ≤ 36) (hok : okI ⟨o, d, s, 8, i⟩ = false) : Calls Try.prog 29 #[.agg #[.int .i64 o, .int .i64 d, .int .i64 s, .int .i64 8, .int .i64 i]] w fun e w' => e = .returned (.tuple #[.slice none 0 0, .bool false]) ∧ Below w.heap.size w w' := by
  have C0 := Lib.hid (fun w => moves_no o d s 8 i w (by omega))
  have C1 := Lib.hid (fun w => counts_no o d s 8 i w (by omega))
  have C2 : Hid (∀ w, Calls Try.prog 50 #[.agg #[.int .i64 o, .int .i64 d, .int .i64 s, .int .i64 8, .int .i64 i]] w fun e w' => ∃ v, e = .returned (.tuple #[v, .bool false]) ∧ Below w.heap.size w w') := fun w => (others_is o d s 8 i w hi h0 h1 (by decide)).mono fun e w' ⟨v, ok, e1, e2, e3, e4⟩ => ⟨v, by rw [e1, e2, hok], e4⟩
  clear h0 h1 hok
  go_enter Try.func29, Try.ntmps29
  go_wp2_with (first | ((go_at_call 48; with_reducible refine (C0.out _).mono ?_); rintro e w0 ⟨rfl, hb⟩; have HB0 := Lib.hid (hb); have y00 : w0.cell? ⟨w.heap.size, 0, none⟩ = some (.int .i64 (o)) := box_kept HB0.out 0; have y01 : w0.cell? ⟨w.heap.size, 1, none⟩ = some (.int .i64 (d)) := box_kept HB0.out 1; have y02 : w0.cell? ⟨w.heap.size, 2, none⟩ = some (.int .i64 (s)) := box_kept HB0.out 2; have y03 : w0.cell? ⟨w.heap.size, 3, none⟩ = some (.int .i64 (8)) := box_kept HB0.out 3; have y04 : w0.cell? ⟨w.heap.size, 4, none⟩ = some (.int .i64 (i)) := box_kept HB0.out 4; clear hb) | ((go_at_call 49; with_reducible refine (C1.out _).mono ?_); rintro e w1 ⟨rfl, hb⟩; have HB1 := Lib.hid ((below_hop HB0.out hb)); have y10 : w1.cell? ⟨w.heap.size, 0, none⟩ = some (.int .i64 (o)) := box_kept HB1.out 0; have y11 : w1.cell? ⟨w.heap.size, 1, none⟩ = some (.int .i64 (d)) := box_kept HB1.out 1; have y12 : w1.cell? ⟨w.heap.size, 2, none⟩ = some (.int .i64 (s)) := box_kept HB1.out 2; have y13 : w1.cell? ⟨w.heap.size, 3, none⟩ = some (.int .i64 (8)) := box_kept HB1.out 3; have y14 : w1.cell? ⟨w.heap.size, 4, none⟩ = some (.int .i64 (i)) := box_kept HB1.out 4; clear hb) | ((go_at_call 50; with_reducible refine (C2.out _).mono ?_); rintro e w2 ⟨v2, rfl, hb⟩; have HB2 := Lib.hid ((below_hop HB1.out hb)); have y20 : w2.cell? ⟨w.heap.size, 0, none⟩ = some (.int .i64 (o)) := box_kept HB2.out 0; have y21 : w2.cell? ⟨w.heap.size, 1, none⟩ = some (.int .i64 (d)) := box_kept HB2.out 1; have y22 : w2.cell? ⟨w.heap.size, 2, none⟩ = some (.int .i64 (s)) := box_kept HB2.out 2; have y23 : w2.cell? ⟨w.heap.size, 3, none⟩ = some (.int .i64 (8)) := box_kept HB2.out 3; have y24 : w2.cell? ⟨w.heap.size, 4, none⟩ = some (.int .i64 (i)) := box_kept HB2.out 4; clear hb))
  go_ret2
  exact ⟨rfl, below_box HB2.out⟩
set_option maxRecDepth 100000 in
set_option maxHeartbeats 4000000 in
theorem en_8_3_f (o d s i : Int) (w : World) (hi : I64 i) (h0 : o < 0 ∨ 36 < o) : Calls Try.prog 29 #[.agg #[.int .i64 o, .int .i64 d, .int .i64 s, .int .i64 8, .int .i64 i]] w fun e w' => e = .returned (.tuple #[.slice none 0 0, .bool false]) ∧ Below w.heap.size w w' := by
  have C0 := Lib.hid (fun w => moves_no o d s 8 i w (by omega))
  have C1 := Lib.hid (fun w => counts_no o d s 8 i w (by omega))
  have C2 := Lib.hid (fun w => others_no o d s 8 i w (by omega))
  clear h0
  go_enter Try.func29, Try.ntmps29
  go_wp2_with (first | ((go_at_call 48; with_reducible refine (C0.out _).mono ?_); rintro e w0 ⟨rfl, hb⟩; have HB0 := Lib.hid (hb); have y00 : w0.cell? ⟨w.heap.size, 0, none⟩ = some (.int .i64 (o)) := box_kept HB0.out 0; have y01 : w0.cell? ⟨w.heap.size, 1, none⟩ = some (.int .i64 (d)) := box_kept HB0.out 1; have y02 : w0.cell? ⟨w.heap.size, 2, none⟩ = some (.int .i64 (s)) := box_kept HB0.out 2; have y03 : w0.cell? ⟨w.heap.size, 3, none⟩ = some (.int .i64 (8)) := box_kept HB0.out 3; have y04 : w0.cell? ⟨w.heap.size, 4, none⟩ = some (.int .i64 (i)) := box_kept HB0.out 4; clear hb) | ((go_at_call 49; with_reducible refine (C1.out _).mono ?_); rintro e w1 ⟨rfl, hb⟩; have HB1 := Lib.hid ((below_hop HB0.out hb)); have y10 : w1.cell? ⟨w.heap.size, 0, none⟩ = some (.int .i64 (o)) := box_kept HB1.out 0; have y11 : w1.cell? ⟨w.heap.size, 1, none⟩ = some (.int .i64 (d)) := box_kept HB1.out 1; have y12 : w1.cell? ⟨w.heap.size, 2, none⟩ = some (.int .i64 (s)) := box_kept HB1.out 2; have y13 : w1.cell? ⟨w.heap.size, 3, none⟩ = some (.int .i64 (8)) := box_kept HB1.out 3; have y14 : w1.cell? ⟨w.heap.size, 4, none⟩ = some (.int .i64 (i)) := box_kept HB1.out 4; clear hb) | ((go_at_call 50; with_reducible refine (C2.out _).mono ?_); rintro e w2 ⟨rfl, hb⟩; have HB2 := Lib.hid ((below_hop HB1.out hb)); have y20 : w2.cell? ⟨w.heap.size, 0, none⟩ = some (.int .i64 (o)) := box_kept HB2.out 0; have y21 : w2.cell? ⟨w.heap.size, 1, none⟩ = some (.int .i64 (d)) := box_kept HB2.out 1; have y22 : w2.cell? ⟨w.heap.size, 2, none⟩ = some (.int .i64 (s)) := box_kept HB2.out 2; have y23 : w2.cell? ⟨w.heap.size, 3, none⟩ = some (.int .i64 (8)) := box_kept HB2.out 3; have y24 : w2.cell? ⟨w.heap.size, 4, none⟩ = some (.int .i64 (i)) := box_kept HB2.out 4; clear hb))
  go_ret2
  exact ⟨rfl, below_box HB2.out⟩
set_option maxRecDepth 100000 in
set_option maxHeartbeats 4000000 in
theorem en_16_0_t (o d s i : Int) (w : World) (hi : I64 i) (h0 : 0 ≤ o) (h1 : o ≤ 6) (hok : okI ⟨o, d, s, 16, i⟩ = true) : Calls Try.prog 29 #[.agg #[.int .i64 o, .int .i64 d, .int .i64 s, .int .i64 16, .int .i64 i]] w fun e w' => ∃ v, e = .returned (.tuple #[v, .bool true]) ∧ RowI w' w.heap.size 5 .u8 v (encI ⟨o, d, s, 16, i⟩) ∧ Below w.heap.size w w' := by
  have C0 : Hid (∀ w, Calls Try.prog 48 #[.agg #[.int .i64 o, .int .i64 d, .int .i64 s, .int .i64 16, .int .i64 i]] w fun e w' => ∃ v, e = .returned (.tuple #[v, .bool true]) ∧ RowI w' w.heap.size 5 .u8 v (bodyI ⟨o, d, s, 16, i⟩) ∧ Below w.heap.size w w') := fun w => (moves_is o d s 16 i w hi h0 h1 (by decide)).mono fun e w' ⟨v, ok, e1, e2, e3, e4⟩ => ⟨v, by rw [e1, e2, hok], e3 hok, e4⟩
  have hlen := body_len hok
  have HE : Hid (encI ⟨o, d, s, 16, i⟩ = 102 :: bodyI ⟨o, d, s, 16, i⟩) := rfl
  rw [HE.out]
  clear HE
  generalize bodyI ⟨o, d, s, 16, i⟩ = ys at *
  have HPOS : Hid (0 < ys.length) := hlen.1
  have HLEN : Hid (([(102 : Int)]).length + ys.length ≤ 100000) := by show _ ≤ _; simp; omega
  have HY5 : Hid (ys.length ≤ 140737488351232) := by show _ ≤ _; omega
  clear hlen
  clear h0 h1 hok
  go_enter Try.func29, Try.ntmps29
  go_wp2_with (first | ((go_at_call 48; with_reducible refine (C0.out _).mono ?_); rintro e w0 ⟨v0, rfl, hr, hb⟩; have HB0 := Lib.hid (hb); have y00 : w0.cell? ⟨w.heap.size, 0, none⟩ = some (.int .i64 (o)) := box_kept HB0.out 0; have y01 : w0.cell? ⟨w.heap.size, 1, none⟩ = some (.int .i64 (d)) := box_kept HB0.out 1; have y02 : w0.cell? ⟨w.heap.size, 2, none⟩ = some (.int .i64 (s)) := box_kept HB0.out 2; have y03 : w0.cell? ⟨w.heap.size, 3, none⟩ = some (.int .i64 (16)) := box_kept HB0.out 3; have y04 : w0.cell? ⟨w.heap.size, 4, none⟩ = some (.int .i64 (i)) := box_kept HB0.out 4; have HR := Lib.hid (hr.mono (show w.heap.size ≤ _ by first | (simp; done) | (simp; omega) | (have := (below_box HB0.out).size; omega))); clear hr; obtain ⟨ra, rc, rfl⟩ := HR.out.shape; clear hb) | (at_builtin; refine wpList_app_u8 rfl _ _ rfl w.heap.size _ [102] rfl (RowI.lit w0 #[.int .u8 102] [102] .u8 5 w.heap.size 1 (below_box HB0.out).size rfl rfl (by unfold maxLen; simp)) _ ys rfl ((HR.out.below ((Below.refl _ _).alloc (Nat.le_refl _) _)).ints HY5.out) HPOS.out HLEN.out (Nat.le_trans (below_box HB0.out).size (by simp)) ?_; intro v9 w9 hr9 hb9; have HR9 := Lib.hid hr9; have HB9 : Hid (Below w.heap.size w w9) := (bel_lit (below_box HB0.out)).trans hb9; clear hr9 hb9))
  go_ret2
  exact ⟨_, rfl, HR9.out, HB9.out⟩
set_option maxRecDepth 100000 in
set_option maxHeartbeats 4000000 in
theorem en_16_0_f (o d s i : Int) (w : World) (hi : I64 i) (h0 : 0 ≤ o) (h1 : o ≤ 6) (hok : okI ⟨o, d, s, 16, i⟩ = false) : Calls Try.prog 29 #[.agg #[.int .i64 o, .int .i64 d, .int .i64 s, .int .i64 16, .int .i64 i]] w fun e w' => e = .returned (.tuple #[.slice none 0 0, .bool false]) ∧ Below w.heap.size w w' := by
  have C0 : Hid (∀ w, Calls Try.prog 48 #[.agg #[.int .i64 o, .int .i64 d, .int .i64 s, .int .i64 16, .int .i64 i]] w fun e w' => ∃ v, e = .returned (.tuple #[v, .bool false]) ∧ Below w.heap.size w w') := fun w => (moves_is o d s 16 i w hi h0 h1 (by decide)).mono fun e w' ⟨v, ok, e1, e2, e3, e4⟩ => ⟨v, by rw [e1, e2, hok], e4⟩
  have C1 := Lib.hid (fun w => counts_no o d s 16 i w (by omega))
  have C2 := Lib.hid (fun w => others_no o d s 16 i w (by omega))
  clear h0 h1 hok
  go_enter Try.func29, Try.ntmps29
  go_wp2_with (first | ((go_at_call 48; with_reducible refine (C0.out _).mono ?_); rintro e w0 ⟨v0, rfl, hb⟩; have HB0 := Lib.hid (hb); have y00 : w0.cell? ⟨w.heap.size, 0, none⟩ = some (.int .i64 (o)) := box_kept HB0.out 0; have y01 : w0.cell? ⟨w.heap.size, 1, none⟩ = some (.int .i64 (d)) := box_kept HB0.out 1; have y02 : w0.cell? ⟨w.heap.size, 2, none⟩ = some (.int .i64 (s)) := box_kept HB0.out 2; have y03 : w0.cell? ⟨w.heap.size, 3, none⟩ = some (.int .i64 (16)) := box_kept HB0.out 3; have y04 : w0.cell? ⟨w.heap.size, 4, none⟩ = some (.int .i64 (i)) := box_kept HB0.out 4; clear hb) | ((go_at_call 49; with_reducible refine (C1.out _).mono ?_); rintro e w1 ⟨rfl, hb⟩; have HB1 := Lib.hid ((below_hop HB0.out hb)); have y10 : w1.cell? ⟨w.heap.size, 0, none⟩ = some (.int .i64 (o)) := box_kept HB1.out 0; have y11 : w1.cell? ⟨w.heap.size, 1, none⟩ = some (.int .i64 (d)) := box_kept HB1.out 1; have y12 : w1.cell? ⟨w.heap.size, 2, none⟩ = some (.int .i64 (s)) := box_kept HB1.out 2; have y13 : w1.cell? ⟨w.heap.size, 3, none⟩ = some (.int .i64 (16)) := box_kept HB1.out 3; have y14 : w1.cell? ⟨w.heap.size, 4, none⟩ = some (.int .i64 (i)) := box_kept HB1.out 4; clear hb) | ((go_at_call 50; with_reducible refine (C2.out _).mono ?_); rintro e w2 ⟨rfl, hb⟩; have HB2 := Lib.hid ((below_hop HB1.out hb)); have y20 : w2.cell? ⟨w.heap.size, 0, none⟩ = some (.int .i64 (o)) := box_kept HB2.out 0; have y21 : w2.cell? ⟨w.heap.size, 1, none⟩ = some (.int .i64 (d)) := box_kept HB2.out 1; have y22 : w2.cell? ⟨w.heap.size, 2, none⟩ = some (.int .i64 (s)) := box_kept HB2.out 2; have y23 : w2.cell? ⟨w.heap.size, 3, none⟩ = some (.int .i64 (16)) := box_kept HB2.out 3; have y24 : w2.cell? ⟨w.heap.size, 4, none⟩ = some (.int .i64 (i)) := box_kept HB2.out 4; clear hb))
  go_ret2
  exact ⟨rfl, below_box HB2.out⟩
set_option maxRecDepth 100000 in
set_option maxHeartbeats 4000000 in
theorem en_16_1_t (o d s i : Int) (w : World) (hi : I64 i) (h0 : 7 ≤ o) (h1 : o ≤ 27) (hok : okI ⟨o, d, s, 16, i⟩ = true) : Calls Try.prog 29 #[.agg #[.int .i64 o, .int .i64 d, .int .i64 s, .int .i64 16, .int .i64 i]] w fun e w' => ∃ v, e = .returned (.tuple #[v, .bool true]) ∧ RowI w' w.heap.size 5 .u8 v (encI ⟨o, d, s, 16, i⟩) ∧ Below w.heap.size w w' := by
  have C0 := Lib.hid (fun w => moves_no o d s 16 i w (by omega))
  have C1 : Hid (∀ w, Calls Try.prog 49 #[.agg #[.int .i64 o, .int .i64 d, .int .i64 s, .int .i64 16, .int .i64 i]] w fun e w' => ∃ v, e = .returned (.tuple #[v, .bool true]) ∧ RowI w' w.heap.size 5 .u8 v (bodyI ⟨o, d, s, 16, i⟩) ∧ Below w.heap.size w w') := fun w => (counts_is o d s 16 i w hi h0 h1 (by decide)).mono fun e w' ⟨v, ok, e1, e2, e3, e4⟩ => ⟨v, by rw [e1, e2, hok], e3 hok, e4⟩
  have hlen := body_len hok
  have HE : Hid (encI ⟨o, d, s, 16, i⟩ = 102 :: bodyI ⟨o, d, s, 16, i⟩) := rfl
  rw [HE.out]
  clear HE
  generalize bodyI ⟨o, d, s, 16, i⟩ = ys at *
  have HPOS : Hid (0 < ys.length) := hlen.1
  have HLEN : Hid (([(102 : Int)]).length + ys.length ≤ 100000) := by show _ ≤ _; simp; omega
  have HY5 : Hid (ys.length ≤ 140737488351232) := by show _ ≤ _; omega
  clear hlen
  clear h0 h1 hok
  go_enter Try.func29, Try.ntmps29
  go_wp2_with (first | ((go_at_call 48; with_reducible refine (C0.out _).mono ?_); rintro e w0 ⟨rfl, hb⟩; have HB0 := Lib.hid (hb); have y00 : w0.cell? ⟨w.heap.size, 0, none⟩ = some (.int .i64 (o)) := box_kept HB0.out 0; have y01 : w0.cell? ⟨w.heap.size, 1, none⟩ = some (.int .i64 (d)) := box_kept HB0.out 1; have y02 : w0.cell? ⟨w.heap.size, 2, none⟩ = some (.int .i64 (s)) := box_kept HB0.out 2; have y03 : w0.cell? ⟨w.heap.size, 3, none⟩ = some (.int .i64 (16)) := box_kept HB0.out 3; have y04 : w0.cell? ⟨w.heap.size, 4, none⟩ = some (.int .i64 (i)) := box_kept HB0.out 4; clear hb) | ((go_at_call 49; with_reducible refine (C1.out _).mono ?_); rintro e w1 ⟨v1, rfl, hr, hb⟩; have HB1 := Lib.hid ((below_hop HB0.out hb)); have y10 : w1.cell? ⟨w.heap.size, 0, none⟩ = some (.int .i64 (o)) := box_kept HB1.out 0; have y11 : w1.cell? ⟨w.heap.size, 1, none⟩ = some (.int .i64 (d)) := box_kept HB1.out 1; have y12 : w1.cell? ⟨w.heap.size, 2, none⟩ = some (.int .i64 (s)) := box_kept HB1.out 2; have y13 : w1.cell? ⟨w.heap.size, 3, none⟩ = some (.int .i64 (16)) := box_kept HB1.out 3; have y14 : w1.cell? ⟨w.heap.size, 4, none⟩ = some (.int .i64 (i)) := box_kept HB1.out 4; have HR := Lib.hid (hr.mono (show w.heap.size ≤ _ by first | (simp; done) | (simp; omega) | (have := (below_box HB0.out).size; omega))); clear hr; obtain ⟨ra, rc, rfl⟩ := HR.out.shape; clear hb) | (at_builtin; refine wpList_app_u8 rfl _ _ rfl w.heap.size _ [102] rfl (RowI.lit w1 #[.int .u8 102] [102] .u8 5 w.heap.size 1 (below_box HB1.out).size rfl rfl (by unfold maxLen; simp)) _ ys rfl ((HR.out.below ((Below.refl _ _).alloc (Nat.le_refl _) _)).ints HY5.out) HPOS.out HLEN.out (Nat.le_trans (below_box HB1.out).size (by simp)) ?_; intro v9 w9 hr9 hb9; have HR9 := Lib.hid hr9; have HB9 : Hid (Below w.heap.size w w9) := (bel_lit (below_box HB1.out)).trans hb9; clear hr9 hb9))
  go_ret2
  exact ⟨_, rfl, HR9.out, HB9.out⟩
set_option maxRecDepth 100000 in
set_option maxHeartbeats 4000000 in
theorem en_16_1_f (o d s i : Int) (w : World) (hi : I64 i) (h0 : 7 ≤ o) (h1 : o ≤ 27) (hok : okI ⟨o, d, s, 16, i⟩ = false) : Calls Try.prog 29 #[.agg #[.int .i64 o, .int .i64 d, .int .i64 s, .int .i64 16, .int .i64 i]] w fun e w' => e = .returned (.tuple #[.slice none 0 0, .bool false]) ∧ Below w.heap.size w w' := by
  have C0 := Lib.hid (fun w => moves_no o d s 16 i w (by omega))
  have C1 : Hid (∀ w, Calls Try.prog 49 #[.agg #[.int .i64 o, .int .i64 d, .int .i64 s, .int .i64 16, .int .i64 i]] w fun e w' => ∃ v, e = .returned (.tuple #[v, .bool false]) ∧ Below w.heap.size w w') := fun w => (counts_is o d s 16 i w hi h0 h1 (by decide)).mono fun e w' ⟨v, ok, e1, e2, e3, e4⟩ => ⟨v, by rw [e1, e2, hok], e4⟩
  have C2 := Lib.hid (fun w => others_no o d s 16 i w (by omega))
  clear h0 h1 hok
  go_enter Try.func29, Try.ntmps29
  go_wp2_with (first | ((go_at_call 48; with_reducible refine (C0.out _).mono ?_); rintro e w0 ⟨rfl, hb⟩; have HB0 := Lib.hid (hb); have y00 : w0.cell? ⟨w.heap.size, 0, none⟩ = some (.int .i64 (o)) := box_kept HB0.out 0; have y01 : w0.cell? ⟨w.heap.size, 1, none⟩ = some (.int .i64 (d)) := box_kept HB0.out 1; have y02 : w0.cell? ⟨w.heap.size, 2, none⟩ = some (.int .i64 (s)) := box_kept HB0.out 2; have y03 : w0.cell? ⟨w.heap.size, 3, none⟩ = some (.int .i64 (16)) := box_kept HB0.out 3; have y04 : w0.cell? ⟨w.heap.size, 4, none⟩ = some (.int .i64 (i)) := box_kept HB0.out 4; clear hb) | ((go_at_call 49; with_reducible refine (C1.out _).mono ?_); rintro e w1 ⟨v1, rfl, hb⟩; have HB1 := Lib.hid ((below_hop HB0.out hb)); have y10 : w1.cell? ⟨w.heap.size, 0, none⟩ = some (.int .i64 (o)) := box_kept HB1.out 0; have y11 : w1.cell? ⟨w.heap.size, 1, none⟩ = some (.int .i64 (d)) := box_kept HB1.out 1; have y12 : w1.cell? ⟨w.heap.size, 2, none⟩ = some (.int .i64 (s)) := box_kept HB1.out 2; have y13 : w1.cell? ⟨w.heap.size, 3, none⟩ = some (.int .i64 (16)) := box_kept HB1.out 3; have y14 : w1.cell? ⟨w.heap.size, 4, none⟩ = some (.int .i64 (i)) := box_kept HB1.out 4; clear hb) | ((go_at_call 50; with_reducible refine (C2.out _).mono ?_); rintro e w2 ⟨rfl, hb⟩; have HB2 := Lib.hid ((below_hop HB1.out hb)); have y20 : w2.cell? ⟨w.heap.size, 0, none⟩ = some (.int .i64 (o)) := box_kept HB2.out 0; have y21 : w2.cell? ⟨w.heap.size, 1, none⟩ = some (.int .i64 (d)) := box_kept HB2.out 1; have y22 : w2.cell? ⟨w.heap.size, 2, none⟩ = some (.int .i64 (s)) := box_kept HB2.out 2; have y23 : w2.cell? ⟨w.heap.size, 3, none⟩ = some (.int .i64 (16)) := box_kept HB2.out 3; have y24 : w2.cell? ⟨w.heap.size, 4, none⟩ = some (.int .i64 (i)) := box_kept HB2.out 4; clear hb))
  go_ret2
  exact ⟨rfl, below_box HB2.out⟩
set_option maxRecDepth 100000 in
set_option maxHeartbeats 4000000 in
theorem en_16_2_t (o d s i : Int) (w : World) (hi : I64 i) (h0 : 28 ≤ o) (h1 : o ≤ 36) (hok : okI ⟨o, d, s, 16, i⟩ = true) : Calls Try.prog 29 #[.agg #[.int .i64 o, .int .i64 d, .int .i64 s, .int .i64 16, .int .i64 i]] w fun e w' => ∃ v, e = .returned (.tuple #[v, .bool true]) ∧ RowI w' w.heap.size 5 .u8 v (encI ⟨o, d, s, 16, i⟩) ∧ Below w.heap.size w w' := by
  have C0 := Lib.hid (fun w => moves_no o d s 16 i w (by omega))
  have C1 := Lib.hid (fun w => counts_no o d s 16 i w (by omega))
  have C2 : Hid (∀ w, Calls Try.prog 50 #[.agg #[.int .i64 o, .int .i64 d, .int .i64 s, .int .i64 16, .int .i64 i]] w fun e w' => ∃ v, e = .returned (.tuple #[v, .bool true]) ∧ RowI w' w.heap.size 5 .u8 v (bodyI ⟨o, d, s, 16, i⟩) ∧ Below w.heap.size w w') := fun w => (others_is o d s 16 i w hi h0 h1 (by decide)).mono fun e w' ⟨v, ok, e1, e2, e3, e4⟩ => ⟨v, by rw [e1, e2, hok], e3 hok, e4⟩
  have hlen := body_len hok
  have HE : Hid (encI ⟨o, d, s, 16, i⟩ = 102 :: bodyI ⟨o, d, s, 16, i⟩) := rfl
  rw [HE.out]
  clear HE
  generalize bodyI ⟨o, d, s, 16, i⟩ = ys at *
  have HPOS : Hid (0 < ys.length) := hlen.1
  have HLEN : Hid (([(102 : Int)]).length + ys.length ≤ 100000) := by show _ ≤ _; simp; omega
  have HY5 : Hid (ys.length ≤ 140737488351232) := by show _ ≤ _; omega
  clear hlen
  clear h0 h1 hok
  go_enter Try.func29, Try.ntmps29
  go_wp2_with (first | ((go_at_call 48; with_reducible refine (C0.out _).mono ?_); rintro e w0 ⟨rfl, hb⟩; have HB0 := Lib.hid (hb); have y00 : w0.cell? ⟨w.heap.size, 0, none⟩ = some (.int .i64 (o)) := box_kept HB0.out 0; have y01 : w0.cell? ⟨w.heap.size, 1, none⟩ = some (.int .i64 (d)) := box_kept HB0.out 1; have y02 : w0.cell? ⟨w.heap.size, 2, none⟩ = some (.int .i64 (s)) := box_kept HB0.out 2; have y03 : w0.cell? ⟨w.heap.size, 3, none⟩ = some (.int .i64 (16)) := box_kept HB0.out 3; have y04 : w0.cell? ⟨w.heap.size, 4, none⟩ = some (.int .i64 (i)) := box_kept HB0.out 4; clear hb) | ((go_at_call 49; with_reducible refine (C1.out _).mono ?_); rintro e w1 ⟨rfl, hb⟩; have HB1 := Lib.hid ((below_hop HB0.out hb)); have y10 : w1.cell? ⟨w.heap.size, 0, none⟩ = some (.int .i64 (o)) := box_kept HB1.out 0; have y11 : w1.cell? ⟨w.heap.size, 1, none⟩ = some (.int .i64 (d)) := box_kept HB1.out 1; have y12 : w1.cell? ⟨w.heap.size, 2, none⟩ = some (.int .i64 (s)) := box_kept HB1.out 2; have y13 : w1.cell? ⟨w.heap.size, 3, none⟩ = some (.int .i64 (16)) := box_kept HB1.out 3; have y14 : w1.cell? ⟨w.heap.size, 4, none⟩ = some (.int .i64 (i)) := box_kept HB1.out 4; clear hb) | ((go_at_call 50; with_reducible refine (C2.out _).mono ?_); rintro e w2 ⟨v2, rfl, hr, hb⟩; have HB2 := Lib.hid ((below_hop HB1.out hb)); have y20 : w2.cell? ⟨w.heap.size, 0, none⟩ = some (.int .i64 (o)) := box_kept HB2.out 0; have y21 : w2.cell? ⟨w.heap.size, 1, none⟩ = some (.int .i64 (d)) := box_kept HB2.out 1; have y22 : w2.cell? ⟨w.heap.size, 2, none⟩ = some (.int .i64 (s)) := box_kept HB2.out 2; have y23 : w2.cell? ⟨w.heap.size, 3, none⟩ = some (.int .i64 (16)) := box_kept HB2.out 3; have y24 : w2.cell? ⟨w.heap.size, 4, none⟩ = some (.int .i64 (i)) := box_kept HB2.out 4; have HR := Lib.hid (hr.mono (show w.heap.size ≤ _ by first | (simp; done) | (simp; omega) | (have := (below_box HB1.out).size; omega))); clear hr; obtain ⟨ra, rc, rfl⟩ := HR.out.shape; clear hb) | (at_builtin; refine wpList_app_u8 rfl _ _ rfl w.heap.size _ [102] rfl (RowI.lit w2 #[.int .u8 102] [102] .u8 5 w.heap.size 1 (below_box HB2.out).size rfl rfl (by unfold maxLen; simp)) _ ys rfl ((HR.out.below ((Below.refl _ _).alloc (Nat.le_refl _) _)).ints HY5.out) HPOS.out HLEN.out (Nat.le_trans (below_box HB2.out).size (by simp)) ?_; intro v9 w9 hr9 hb9; have HR9 := Lib.hid hr9; have HB9 : Hid (Below w.heap.size w w9) := (bel_lit (below_box HB2.out)).trans hb9; clear hr9 hb9))
  go_ret2
  exact ⟨_, rfl, HR9.out, HB9.out⟩
set_option maxRecDepth 100000 in
set_option maxHeartbeats 4000000 in
theorem en_16_2_f (o d s i : Int) (w : World) (hi : I64 i) (h0 : 28 ≤ o) (h1 : o ≤ 36) (hok : okI ⟨o, d, s, 16, i⟩ = false) : Calls Try.prog 29 #[.agg #[.int .i64 o, .int .i64 d, .int .i64 s, .int .i64 16, .int .i64 i]] w fun e w' => e = .returned (.tuple #[.slice none 0 0, .bool false]) ∧ Below w.heap.size w w' := by
  have C0 := Lib.hid (fun w => moves_no o d s 16 i w (by omega))
  have C1 := Lib.hid (fun w => counts_no o d s 16 i w (by omega))
  have C2 : Hid (∀ w, Calls Try.prog 50 #[.agg #[.int .i64 o, .int .i64 d, .int .i64 s, .int .i64 16, .int .i64 i]] w fun e w' => ∃ v, e = .returned (.tuple #[v, .bool false]) ∧ Below w.heap.size w w') := fun w => (others_is o d s 16 i w hi h0 h1 (by decide)).mono fun e w' ⟨v, ok, e1, e2, e3, e4⟩ => ⟨v, by rw [e1, e2, hok], e4⟩
  clear h0 h1 hok
  go_enter Try.func29, Try.ntmps29
  go_wp2_with (first | ((go_at_call 48; with_reducible refine (C0.out _).mono ?_); rintro e w0 ⟨rfl, hb⟩; have HB0 := Lib.hid (hb); have y00 : w0.cell? ⟨w.heap.size, 0, none⟩ = some (.int .i64 (o)) := box_kept HB0.out 0; have y01 : w0.cell? ⟨w.heap.size, 1, none⟩ = some (.int .i64 (d)) := box_kept HB0.out 1; have y02 : w0.cell? ⟨w.heap.size, 2, none⟩ = some (.int .i64 (s)) := box_kept HB0.out 2; have y03 : w0.cell? ⟨w.heap.size, 3, none⟩ = some (.int .i64 (16)) := box_kept HB0.out 3; have y04 : w0.cell? ⟨w.heap.size, 4, none⟩ = some (.int .i64 (i)) := box_kept HB0.out 4; clear hb) | ((go_at_call 49; with_reducible refine (C1.out _).mono ?_); rintro e w1 ⟨rfl, hb⟩; have HB1 := Lib.hid ((below_hop HB0.out hb)); have y10 : w1.cell? ⟨w.heap.size, 0, none⟩ = some (.int .i64 (o)) := box_kept HB1.out 0; have y11 : w1.cell? ⟨w.heap.size, 1, none⟩ = some (.int .i64 (d)) := box_kept HB1.out 1; have y12 : w1.cell? ⟨w.heap.size, 2, none⟩ = some (.int .i64 (s)) := box_kept HB1.out 2; have y13 : w1.cell? ⟨w.heap.size, 3, none⟩ = some (.int .i64 (16)) := box_kept HB1.out 3; have y14 : w1.cell? ⟨w.heap.size, 4, none⟩ = some (.int .i64 (i)) := box_kept HB1.out 4; clear hb) | ((go_at_call 50; with_reducible refine (C2.out _).mono ?_); rintro e w2 ⟨v2, rfl, hb⟩; have HB2 := Lib.hid ((below_hop HB1.out hb)); have y20 : w2.cell? ⟨w.heap.size, 0, none⟩ = some (.int .i64 (o)) := box_kept HB2.out 0; have y21 : w2.cell? ⟨w.heap.size, 1, none⟩ = some (.int .i64 (d)) := box_kept HB2.out 1; have y22 : w2.cell? ⟨w.heap.size, 2, none⟩ = some (.int .i64 (s)) := box_kept HB2.out 2; have y23 : w2.cell? ⟨w.heap.size, 3, none⟩ = some (.int .i64 (16)) := box_kept HB2.out 3; have y24 : w2.cell? ⟨w.heap.size, 4, none⟩ = some (.int .i64 (i)) := box_kept HB2.out 4; clear hb))
  go_ret2
  exact ⟨rfl, below_box HB2.out⟩
set_option maxRecDepth 100000 in
set_option maxHeartbeats 4000000 in
theorem en_16_3_f (o d s i : Int) (w : World) (hi : I64 i) (h0 : o < 0 ∨ 36 < o) : Calls Try.prog 29 #[.agg #[.int .i64 o, .int .i64 d, .int .i64 s, .int .i64 16, .int .i64 i]] w fun e w' => e = .returned (.tuple #[.slice none 0 0, .bool false]) ∧ Below w.heap.size w w' := by
  have C0 := Lib.hid (fun w => moves_no o d s 16 i w (by omega))
  have C1 := Lib.hid (fun w => counts_no o d s 16 i w (by omega))
  have C2 := Lib.hid (fun w => others_no o d s 16 i w (by omega))
  clear h0
  go_enter Try.func29, Try.ntmps29
  go_wp2_with (first | ((go_at_call 48; with_reducible refine (C0.out _).mono ?_); rintro e w0 ⟨rfl, hb⟩; have HB0 := Lib.hid (hb); have y00 : w0.cell? ⟨w.heap.size, 0, none⟩ = some (.int .i64 (o)) := box_kept HB0.out 0; have y01 : w0.cell? ⟨w.heap.size, 1, none⟩ = some (.int .i64 (d)) := box_kept HB0.out 1; have y02 : w0.cell? ⟨w.heap.size, 2, none⟩ = some (.int .i64 (s)) := box_kept HB0.out 2; have y03 : w0.cell? ⟨w.heap.size, 3, none⟩ = some (.int .i64 (16)) := box_kept HB0.out 3; have y04 : w0.cell? ⟨w.heap.size, 4, none⟩ = some (.int .i64 (i)) := box_kept HB0.out 4; clear hb) | ((go_at_call 49; with_reducible refine (C1.out _).mono ?_); rintro e w1 ⟨rfl, hb⟩; have HB1 := Lib.hid ((below_hop HB0.out hb)); have y10 : w1.cell? ⟨w.heap.size, 0, none⟩ = some (.int .i64 (o)) := box_kept HB1.out 0; have y11 : w1.cell? ⟨w.heap.size, 1, none⟩ = some (.int .i64 (d)) := box_kept HB1.out 1; have y12 : w1.cell? ⟨w.heap.size, 2, none⟩ = some (.int .i64 (s)) := box_kept HB1.out 2; have y13 : w1.cell? ⟨w.heap.size, 3, none⟩ = some (.int .i64 (16)) := box_kept HB1.out 3; have y14 : w1.cell? ⟨w.heap.size, 4, none⟩ = some (.int .i64 (i)) := box_kept HB1.out 4; clear hb) | ((go_at_call 50; with_reducible refine (C2.out _).mono ?_); rintro e w2 ⟨rfl, hb⟩; have HB2 := Lib.hid ((below_hop HB1.out hb)); have y20 : w2.cell? ⟨w.heap.size, 0, none⟩ = some (.int .i64 (o)) := box_kept HB2.out 0; have y21 : w2.cell? ⟨w.heap.size, 1, none⟩ = some (.int .i64 (d)) := box_kept HB2.out 1; have y22 : w2.cell? ⟨w.heap.size, 2, none⟩ = some (.int .i64 (s)) := box_kept HB2.out 2; have y23 : w2.cell? ⟨w.heap.size, 3, none⟩ = some (.int .i64 (16)) := box_kept HB2.out 3; have y24 : w2.cell? ⟨w.heap.size, 4, none⟩ = some (.int .i64 (i)) := box_kept HB2.out 4; clear hb))
  go_ret2
  exact ⟨rfl, below_box HB2.out⟩
set_option maxRecDepth 100000 in
set_option maxHeartbeats 4000000 in
theorem en_32_0_t (o d s i : Int) (w : World) (hi : I64 i) (h0 : 0 ≤ o) (h1 : o ≤ 6) (hok : okI ⟨o, d, s, 32, i⟩ = true) : Calls Try.prog 29 #[.agg #[.int .i64 o, .int .i64 d, .int .i64 s, .int .i64 32, .int .i64 i]] w fun e w' => ∃ v, e = .returned (.tuple #[v, .bool true]) ∧ RowI w' w.heap.size 5 .u8 v (encI ⟨o, d, s, 32, i⟩) ∧ Below w.heap.size w w' := by
  have C0 : Hid (∀ w, Calls Try.prog 48 #[.agg #[.int .i64 o, .int .i64 d, .int .i64 s, .int .i64 32, .int .i64 i]] w fun e w' => ∃ v, e = .returned (.tuple #[v, .bool true]) ∧ RowI w' w.heap.size 5 .u8 v (bodyI ⟨o, d, s, 32, i⟩) ∧ Below w.heap.size w w') := fun w => (moves_is o d s 32 i w hi h0 h1 (by decide)).mono fun e w' ⟨v, ok, e1, e2, e3, e4⟩ => ⟨v, by rw [e1, e2, hok], e3 hok, e4⟩
  have hlen := body_len hok
  have HE : Hid (encI ⟨o, d, s, 32, i⟩ = bodyI ⟨o, d, s, 32, i⟩) := rfl
  rw [HE.out]
  clear HE
  generalize bodyI ⟨o, d, s, 32, i⟩ = ys at *
  have HPOS : Hid (0 < ys.length) := hlen.1
  have HLEN : Hid (([(102 : Int)]).length + ys.length ≤ 100000) := by show _ ≤ _; simp; omega
  have HY5 : Hid (ys.length ≤ 140737488351232) := by show _ ≤ _; omega
  clear hlen
  clear h0 h1 hok
  go_enter Try.func29, Try.ntmps29
  go_wp2_with (first | ((go_at_call 48; with_reducible refine (C0.out _).mono ?_); rintro e w0 ⟨v0, rfl, hr, hb⟩; have HB0 := Lib.hid (hb); have y00 : w0.cell? ⟨w.heap.size, 0, none⟩ = some (.int .i64 (o)) := box_kept HB0.out 0; have y01 : w0.cell? ⟨w.heap.size, 1, none⟩ = some (.int .i64 (d)) := box_kept HB0.out 1; have y02 : w0.cell? ⟨w.heap.size, 2, none⟩ = some (.int .i64 (s)) := box_kept HB0.out 2; have y03 : w0.cell? ⟨w.heap.size, 3, none⟩ = some (.int .i64 (32)) := box_kept HB0.out 3; have y04 : w0.cell? ⟨w.heap.size, 4, none⟩ = some (.int .i64 (i)) := box_kept HB0.out 4; have HR := Lib.hid (hr.mono (show w.heap.size ≤ _ by first | (simp; done) | (simp; omega) | (have := (below_box HB0.out).size; omega))); clear hr; obtain ⟨ra, rc, rfl⟩ := HR.out.shape; clear hb))
  go_ret2
  exact ⟨_, rfl, HR.out, below_box HB0.out⟩
set_option maxRecDepth 100000 in
set_option maxHeartbeats 4000000 in
theorem en_32_0_f (o d s i : Int) (w : World) (hi : I64 i) (h0 : 0 ≤ o) (h1 : o ≤ 6) (hok : okI ⟨o, d, s, 32, i⟩ = false) : Calls Try.prog 29 #[.agg #[.int .i64 o, .int .i64 d, .int .i64 s, .int .i64 32, .int .i64 i]] w fun e w' => e = .returned (.tuple #[.slice none 0 0, .bool false]) ∧ Below w.heap.size w w' := by
  have C0 : Hid (∀ w, Calls Try.prog 48 #[.agg #[.int .i64 o, .int .i64 d, .int .i64 s, .int .i64 32, .int .i64 i]] w fun e w' => ∃ v, e = .returned (.tuple #[v, .bool false]) ∧ Below w.heap.size w w') := fun w => (moves_is o d s 32 i w hi h0 h1 (by decide)).mono fun e w' ⟨v, ok, e1, e2, e3, e4⟩ => ⟨v, by rw [e1, e2, hok], e4⟩
  have C1 := Lib.hid (fun w => counts_no o d s 32 i w (by omega))
  have C2 := Lib.hid (fun w => others_no o d s 32 i w (by omega))
  clear h0 h1 hok
  go_enter Try.func29, Try.ntmps29
  go_wp2_with (first | ((go_at_call 48; with_reducible refine (C0.out _).mono ?_); rintro e w0 ⟨v0, rfl, hb⟩; have HB0 := Lib.hid (hb); have y00 : w0.cell? ⟨w.heap.size, 0, none⟩ = some (.int .i64 (o)) := box_kept HB0.out 0; have y01 : w0.cell? ⟨w.heap.size, 1, none⟩ = some (.int .i64 (d)) := box_kept HB0.out 1; have y02 : w0.cell? ⟨w.heap.size, 2, none⟩ = some (.int .i64 (s)) := box_kept HB0.out 2; have y03 : w0.cell? ⟨w.heap.size, 3, none⟩ = some (.int .i64 (32)) := box_kept HB0.out 3; have y04 : w0.cell? ⟨w.heap.size, 4, none⟩ = some (.int .i64 (i)) := box_kept HB0.out 4; clear hb) | ((go_at_call 49; with_reducible refine (C1.out _).mono ?_); rintro e w1 ⟨rfl, hb⟩; have HB1 := Lib.hid ((below_hop HB0.out hb)); have y10 : w1.cell? ⟨w.heap.size, 0, none⟩ = some (.int .i64 (o)) := box_kept HB1.out 0; have y11 : w1.cell? ⟨w.heap.size, 1, none⟩ = some (.int .i64 (d)) := box_kept HB1.out 1; have y12 : w1.cell? ⟨w.heap.size, 2, none⟩ = some (.int .i64 (s)) := box_kept HB1.out 2; have y13 : w1.cell? ⟨w.heap.size, 3, none⟩ = some (.int .i64 (32)) := box_kept HB1.out 3; have y14 : w1.cell? ⟨w.heap.size, 4, none⟩ = some (.int .i64 (i)) := box_kept HB1.out 4; clear hb) | ((go_at_call 50; with_reducible refine (C2.out _).mono ?_); rintro e w2 ⟨rfl, hb⟩; have HB2 := Lib.hid ((below_hop HB1.out hb)); have y20 : w2.cell? ⟨w.heap.size, 0, none⟩ = some (.int .i64 (o)) := box_kept HB2.out 0; have y21 : w2.cell? ⟨w.heap.size, 1, none⟩ = some (.int .i64 (d)) := box_kept HB2.out 1; have y22 : w2.cell? ⟨w.heap.size, 2, none⟩ = some (.int .i64 (s)) := box_kept HB2.out 2; have y23 : w2.cell? ⟨w.heap.size, 3, none⟩ = some (.int .i64 (32)) := box_kept HB2.out 3; have y24 : w2.cell? ⟨w.heap.size, 4, none⟩ = some (.int .i64 (i)) := box_kept HB2.out 4; clear hb))
  go_ret2
  exact ⟨rfl, below_box HB2.out⟩
set_option maxRecDepth 100000 in
set_option maxHeartbeats 4000000 in
theorem en_32_1_t (o d s i : Int) (w : World) (hi : I64 i) (h0 : 7 ≤ o) (h1 : o ≤ 27) (hok : okI ⟨o, d, s, 32, i⟩ = true) : Calls Try.prog 29 #[.agg #[.int .i64 o, .int .i64 d, .int .i64 s, .int .i64 32, .int .i64 i]] w fun e w' => ∃ v, e = .returned (.tuple #[v, .bool true]) ∧ RowI w' w.heap.size 5 .u8 v (encI ⟨o, d, s, 32, i⟩) ∧ Below w.heap.size w w' := by
  have C0 := Lib.hid (fun w => moves_no o d s 32 i w (by omega))
  have C1 : Hid (∀ w, Calls Try.prog 49 #[.agg #[.int .i64 o, .int .i64 d, .int .i64 s, .int .i64 32, .int .i64 i]] w fun e w' => ∃ v, e = .returned (.tuple #[v, .bool true]) ∧ RowI w' w.heap.size 5 .u8 v (bodyI ⟨o, d, s, 32, i⟩) ∧ Below w.heap.size w w') := fun w => (counts_is o d s 32 i w hi h0 h1 (by decide)).mono fun e w' ⟨v, ok, e1, e2, e3, e4⟩ => ⟨v, by rw [e1, e2, hok], e3 hok, e4⟩
  have hlen := body_len hok
  have HE : Hid (encI ⟨o, d, s, 32, i⟩ = bodyI ⟨o, d, s, 32, i⟩) := rfl
  rw [HE.out]
  clear HE
  generalize bodyI ⟨o, d, s, 32, i⟩ = ys at *
  have HPOS : Hid (0 < ys.length) := hlen.1
  have HLEN : Hid (([(102 : Int)]).length + ys.length ≤ 100000) := by show _ ≤ _; simp; omega
  have HY5 : Hid (ys.length ≤ 140737488351232) := by show _ ≤ _; omega
  clear hlen
  clear h0 h1 hok
  go_enter Try.func29, Try.ntmps29
  go_wp2_with (first | ((go_at_call 48; with_reducible refine (C0.out _).mono ?_); rintro e w0 ⟨rfl, hb⟩; have HB0 := Lib.hid (hb); have y00 : w0.cell? ⟨w.heap.size, 0, none⟩ = some (.int .i64 (o)) := box_kept HB0.out 0; have y01 : w0.cell? ⟨w.heap.size, 1, none⟩ = some (.int .i64 (d)) := box_kept HB0.out 1; have y02 : w0.cell? ⟨w.heap.size, 2, none⟩ = some (.int .i64 (s)) := box_kept HB0.out 2; have y03 : w0.cell? ⟨w.heap.size, 3, none⟩ = some (.int .i64 (32)) := box_kept HB0.out 3; have y04 : w0.cell? ⟨w.heap.size, 4, none⟩ = some (.int .i64 (i)) := box_kept HB0.out 4; clear hb) | ((go_at_call 49; with_reducible refine (C1.out _).mono ?_); rintro e w1 ⟨v1, rfl, hr, hb⟩; have HB1 := Lib.hid ((below_hop HB0.out hb)); have y10 : w1.cell? ⟨w.heap.size, 0, none⟩ = some (.int .i64 (o)) := box_kept HB1.out 0; have y11 : w1.cell? ⟨w.heap.size, 1, none⟩ = some (.int .i64 (d)) := box_kept HB1.out 1; have y12 : w1.cell? ⟨w.heap.size, 2, none⟩ = some (.int .i64 (s)) := box_kept HB1.out 2; have y13 : w1.cell? ⟨w.heap.size, 3, none⟩ = some (.int .i64 (32)) := box_kept HB1.out 3; have y14 : w1.cell? ⟨w.heap.size, 4, none⟩ = some (.int .i64 (i)) := box_kept HB1.out 4; have HR := Lib.hid (hr.mono (show w.heap.size ≤ _ by first | (simp; done) | (simp; omega) | (have := (below_box HB0.out).size; omega))); clear hr; obtain ⟨ra, rc, rfl⟩ := HR.out.shape; clear hb))
  go_ret2
  exact ⟨_, rfl, HR.out, below_box HB1.out⟩
set_option maxRecDepth 100000 in
set_option maxHeartbeats 4000000 in
theorem en_32_1_f (o d s i : Int) (w : World) (hi : I64 i) (h0 : 7 ≤ o) (h1 : o ≤ 27) (hok : okI ⟨o, d, s, 32, i⟩ = false) : Calls Try.prog 29 #[.agg #[.int .i64 o, .int .i64 d, .int .i64 s, .int .i64 32, .int .i64 i]] w fun e w' => e = .returned (.tuple #[.slice none 0 0, .bool false]) ∧ Below w.heap.size w w' := by
  have C0 := Lib.hid (fun w => moves_no o d s 32 i w (by omega))
  have C1 : Hid (∀ w, Calls Try.prog 49 #[.agg #[.int .i64 o, .int .i64 d, .int .i64 s, .int .i64 32, .int .i64 i]] w fun e w' => ∃ v, e = .returned (.tuple #[v, .bool false]) ∧ Below w.heap.size w w') := fun w => (counts_is o d s 32 i w hi h0 h1 (by decide)).mono fun e w' ⟨v, ok, e1, e2, e3, e4⟩ => ⟨v, by rw [e1, e2, hok], e4⟩
  have C2 := Lib.hid (fun w => others_no o d s 32 i w (by omega))
  clear h0 h1 hok
  go_enter Try.func29, Try.ntmps29
  go_wp2_with (first | ((go_at_call 48; with_reducible refine (C0.out _).mono ?_); rintro e w0 ⟨rfl, hb⟩; have HB0 := Lib.hid (hb); have y00 : w0.cell? ⟨w.heap.size, 0, none⟩ = some (.int .i64 (o)) := box_kept HB0.out 0; have y01 : w0.cell? ⟨w.heap.size, 1, none⟩ = some (.int .i64 (d)) := box_kept HB0.out 1; have y02 : w0.cell? ⟨w.heap.size, 2, none⟩ = some (.int .i64 (s)) := box_kept HB0.out 2; have y03 : w0.cell? ⟨w.heap.size, 3, none⟩ = some (.int .i64 (32)) := box_kept HB0.out 3; have y04 : w0.cell? ⟨w.heap.size, 4, none⟩ = some (.int .i64 (i)) := box_kept HB0.out 4; clear hb) | ((go_at_call 49; with_reducible refine (C1.out _).mono ?_); rintro e w1 ⟨v1, rfl, hb⟩; have HB1 := Lib.hid ((below_hop HB0.out hb)); have y10 : w1.cell? ⟨w.heap.size, 0, none⟩ = some (.int .i64 (o)) := box_kept HB1.out 0; have y11 : w1.cell? ⟨w.heap.size, 1, none⟩ = some (.int .i64 (d)) := box_kept HB1.out 1; have y12 : w1.cell? ⟨w.heap.size, 2, none⟩ = some (.int .i64 (s)) := box_kept HB1.out 2; have y13 : w1.cell? ⟨w.heap.size, 3, none⟩ = some (.int .i64 (32)) := box_kept HB1.out 3; have y14 : w1.cell? ⟨w.heap.size, 4, none⟩ = some (.int .i64 (i)) := box_kept HB1.out 4; clear hb) | ((go_at_call 50; with_reducible refine (C2.out _).mono ?_); rintro e w2 ⟨rfl, hb⟩; have HB2 := Lib.hid ((below_hop HB1.out hb)); have y20 : w2.cell? ⟨w.heap.size, 0, none⟩ = some (.int .i64 (o)) := box_kept HB2.out 0; have y21 : w2.cell? ⟨w.heap.size, 1, none⟩ = some (.int .i64 (d)) := box_kept HB2.out 1; have y22 : w2.cell? ⟨w.heap.size, 2, none⟩ = some (.int .i64 (s)) := box_kept HB2.out 2; have y23 : w2.cell? ⟨w.heap.size, 3, none⟩ = some (.int .i64 (32)) := box_kept HB2.out 3; have y24 : w2.cell? ⟨w.heap.size, 4, none⟩ = some (.int .i64 (i)) := box_kept HB2.out 4; clear hb))
  go_ret2
  exact ⟨rfl, below_box HB2.out⟩
set_option maxRecDepth 100000 in
set_option maxHeartbeats 4000000 in
theorem en_32_2_t (o d s i : Int) (w : World) (hi : I64 i) (h0 : 28 ≤ o) (h1 : o ≤ 36) (hok : okI ⟨o, d, s, 32, i⟩ = true) : Calls Try.prog 29 #[.agg #[.int .i64 o, .int .i64 d, .int .i64 s, .int .i64 32, .int .i64 i]] w fun e w' => ∃ v, e = .returned (.tuple #[v, .bool true]) ∧ RowI w' w.heap.size 5 .u8 v (encI ⟨o, d, s, 32, i⟩) ∧ Below w.heap.size w w' := by
  have C0 := Lib.hid (fun w => moves_no o d s 32 i w (by omega))
  have C1 := Lib.hid (fun w => counts_no o d s 32 i w (by omega))
  have C2 : Hid (∀ w, Calls Try.prog 50 #[.agg #[.int .i64 o, .int .i64 d, .int .i64 s, .int .i64 32, .int .i64 i]] w fun e w' => ∃ v, e = .returned (.tuple #[v, .bool true]) ∧ RowI w' w.heap.size 5 .u8 v (bodyI ⟨o, d, s, 32, i⟩) ∧ Below w.heap.size w w') := fun w => (others_is o d s 32 i w hi h0 h1 (by decide)).mono fun e w' ⟨v, ok, e1, e2, e3, e4⟩ => ⟨v, by rw [e1, e2, hok], e3 hok, e4⟩
  have hlen := body_len hok
  have HE : Hid (encI ⟨o, d, s, 32, i⟩ = bodyI ⟨o, d, s, 32, i⟩) := rfl
  rw [HE.out]
  clear HE
  generalize bodyI ⟨o, d, s, 32, i⟩ = ys at *
  have HPOS : Hid (0 < ys.length) := hlen.1
  have HLEN : Hid (([(102 : Int)]).length + ys.length ≤ 100000) := by show _ ≤ _; simp; omega
  have HY5 : Hid (ys.length ≤ 140737488351232) := by show _ ≤ _; omega
  clear hlen
  clear h0 h1 hok
  go_enter Try.func29, Try.ntmps29
  go_wp2_with (first | ((go_at_call 48; with_reducible refine (C0.out _).mono ?_); rintro e w0 ⟨rfl, hb⟩; have HB0 := Lib.hid (hb); have y00 : w0.cell? ⟨w.heap.size, 0, none⟩ = some (.int .i64 (o)) := box_kept HB0.out 0; have y01 : w0.cell? ⟨w.heap.size, 1, none⟩ = some (.int .i64 (d)) := box_kept HB0.out 1; have y02 : w0.cell? ⟨w.heap.size, 2, none⟩ = some (.int .i64 (s)) := box_kept HB0.out 2; have y03 : w0.cell? ⟨w.heap.size, 3, none⟩ = some (.int .i64 (32)) := box_kept HB0.out 3; have y04 : w0.cell? ⟨w.heap.size, 4, none⟩ = some (.int .i64 (i)) := box_kept HB0.out 4; clear hb) | ((go_at_call 49; with_reducible refine (C1.out _).mono ?_); rintro e w1 ⟨rfl, hb⟩; have HB1 := Lib.hid ((below_hop HB0.out hb)); have y10 : w1.cell? ⟨w.heap.size, 0, none⟩ = some (.int .i64 (o)) := box_kept HB1.out 0; have y11 : w1.cell? ⟨w.heap.size, 1, none⟩ = some (.int .i64 (d)) := box_kept HB1.out 1; have y12 : w1.cell? ⟨w.heap.size, 2, none⟩ = some (.int .i64 (s)) := box_kept HB1.out 2; have y13 : w1.cell? ⟨w.heap.size, 3, none⟩ = some (.int .i64 (32)) := box_kept HB1.out 3; have y14 : w1.cell? ⟨w.heap.size, 4, none⟩ = some (.int .i64 (i)) := box_kept HB1.out 4; clear hb) | ((go_at_call 50; with_reducible refine (C2.out _).mono ?_); rintro e w2 ⟨v2, rfl, hr, hb⟩; have HB2 := Lib.hid ((below_hop HB1.out hb)); have y20 : w2.cell? ⟨w.heap.size, 0, none⟩ = some (.int .i64 (o)) := box_kept HB2.out 0; have y21 : w2.cell? ⟨w.heap.size, 1, none⟩ = some (.int .i64 (d)) := box_kept HB2.out 1; have y22 : w2.cell? ⟨w.heap.size, 2, none⟩ = some (.int .i64 (s)) := box_kept HB2.out 2; have y23 : w2.cell? ⟨w.heap.size, 3, none⟩ = some (.int .i64 (32)) := box_kept HB2.out 3; have y24 : w2.cell? ⟨w.heap.size, 4, none⟩ = some (.int .i64 (i)) := box_kept HB2.out 4; have HR := Lib.hid (hr.mono (show w.heap.size ≤ _ by first | (simp; done) | (simp; omega) | (have := (below_box HB1.out).size; omega))); clear hr; obtain ⟨ra, rc, rfl⟩ := HR.out.shape; clear hb))
  go_ret2
  exact ⟨_, rfl, HR.out, below_box HB2.out⟩
set_option maxRecDepth 100000 in
set_option maxHeartbeats 4000000 in
theorem en_32_2_f (o d s i : Int) (w : World) (hi : I64 i) (h0 : 28 ≤ o) (h1 : o ≤ 36) (hok : okI ⟨o, d, s, 32, i⟩ = false) : Calls Try.prog 29 #[.agg #[.int .i64 o, .int .i64 d, .int .i64 s, .int .i64 32, .int .i64 i]] w fun e w' => e = .returned (.tuple #[.slice none 0 0, .bool false]) ∧ Below w.heap.size w w' := by
  have C0 := Lib.hid (fun w => moves_no o d s 32 i w (by omega))
  have C1 := Lib.hid (fun w => counts_no o d s 32 i w (by omega))
  have C2 : Hid (∀ w, Calls Try.prog 50 #[.agg #[.int .i64 o, .int .i64 d, .int .i64 s, .int .i64 32, .int .i64 i]] w fun e w' => ∃ v, e = .returned (.tuple #[v, .bool false]) ∧ Below w.heap.size w w') := fun w => (others_is o d s 32 i w hi h0 h1 (by decide)).mono fun e w' ⟨v, ok, e1, e2, e3, e4⟩ => ⟨v, by rw [e1, e2, hok], e4⟩
  clear h0 h1 hok
  go_enter Try.func29, Try.ntmps29
  go_wp2_with (first | ((go_at_call 48; with_reducible refine (C0.out _).mono ?_); rintro e w0 ⟨rfl, hb⟩; have HB0 := Lib.hid (hb); have y00 : w0.cell? ⟨w.heap.size, 0, none⟩ = some (.int .i64 (o)) := box_kept HB0.out 0; have y01 : w0.cell? ⟨w.heap.size, 1, none⟩ = some (.int .i64 (d)) := box_kept HB0.out 1; have y02 : w0.cell? ⟨w.heap.size, 2, none⟩ = some (.int .i64 (s)) := box_kept HB0.out 2; have y03 : w0.cell? ⟨w.heap.size, 3, none⟩ = some (.int .i64 (32)) := box_kept HB0.out 3; have y04 : w0.cell? ⟨w.heap.size, 4, none⟩ = some (.int .i64 (i)) := box_kept HB0.out 4; clear hb) | ((go_at_call 49; with_reducible refine (C1.out _).mono ?_); rintro e w1 ⟨rfl, hb⟩; have HB1 := Lib.hid ((below_hop HB0.out hb)); have y10 : w1.cell? ⟨w.heap.size, 0, none⟩ = some (.int .i64 (o)) := box_kept HB1.out 0; have y11 : w1.cell? ⟨w.heap.size, 1, none⟩ = some (.int .i64 (d)) := box_kept HB1.out 1; have y12 : w1.cell? ⟨w.heap.size, 2, none⟩ = some (.int .i64 (s)) := box_kept HB1.out 2; have y13 : w1.cell? ⟨w.heap.size, 3, none⟩ = some (.int .i64 (32)) := box_kept HB1.out 3; have y14 : w1.cell? ⟨w.heap.size, 4, none⟩ = some (.int .i64 (i)) := box_kept HB1.out 4; clear hb) | ((go_at_call 50; with_reducible refine (C2.out _).mono ?_); rintro e w2 ⟨v2, rfl, hb⟩; have HB2 := Lib.hid ((below_hop HB1.out hb)); have y20 : w2.cell? ⟨w.heap.size, 0, none⟩ = some (.int .i64 (o)) := box_kept HB2.out 0; have y21 : w2.cell? ⟨w.heap.size, 1, none⟩ = some (.int .i64 (d)) := box_kept HB2.out 1; have y22 : w2.cell? ⟨w.heap.size, 2, none⟩ = some (.int .i64 (s)) := box_kept HB2.out 2; have y23 : w2.cell? ⟨w.heap.size, 3, none⟩ = some (.int .i64 (32)) := box_kept HB2.out 3; have y24 : w2.cell? ⟨w.heap.size, 4, none⟩ = some (.int .i64 (i)) := box_kept HB2.out 4; clear hb))
  go_ret2
  exact ⟨rfl, below_box HB2.out⟩
set_option maxRecDepth 100000 in
set_option maxHeartbeats 4000000 in
theorem en_32_3_f (o d s i : Int) (w : World) (hi : I64 i) (h0 : o < 0 ∨ 36 < o) : Calls Try.prog 29 #[.agg #[.int .i64 o, .int .i64 d, .int .i64 s, .int .i64 32, .int .i64 i]] w fun e w' => e = .returned (.tuple #[.slice none 0 0, .bool false]) ∧ Below w.heap.size w w' := by
  have C0 := Lib.hid (fun w => moves_no o d s 32 i w (by omega))
  have C1 := Lib.hid (fun w => counts_no o d s 32 i w (by omega))
  have C2 := Lib.hid (fun w => others_no o d s 32 i w (by omega))
  clear h0
  go_enter Try.func29, Try.ntmps29
  go_wp2_with (first | ((go_at_call 48; with_reducible refine (C0.out _).mono ?_); rintro e w0 ⟨rfl, hb⟩; have HB0 := Lib.hid (hb); have y00 : w0.cell? ⟨w.heap.size, 0, none⟩ = some (.int .i64 (o)) := box_kept HB0.out 0; have y01 : w0.cell? ⟨w.heap.size, 1, none⟩ = some (.int .i64 (d)) := box_kept HB0.out 1; have y02 : w0.cell? ⟨w.heap.size, 2, none⟩ = some (.int .i64 (s)) := box_kept HB0.out 2; have y03 : w0.cell? ⟨w.heap.size, 3, none⟩ = some (.int .i64 (32)) := box_kept HB0.out 3; have y04 : w0.cell? ⟨w.heap.size, 4, none⟩ = some (.int .i64 (i)) := box_kept HB0.out 4; clear hb) | ((go_at_call 49; with_reducible refine (C1.out _).mono ?_); rintro e w1 ⟨rfl, hb⟩; have HB1 := Lib.hid ((below_hop HB0.out hb)); have y10 : w1.cell? ⟨w.heap.size, 0, none⟩ = some (.int .i64 (o)) := box_kept HB1.out 0; have y11 : w1.cell? ⟨w.heap.size, 1, none⟩ = some (.int .i64 (d)) := box_kept HB1.out 1; have y12 : w1.cell? ⟨w.heap.size, 2, none⟩ = some (.int .i64 (s)) := box_kept HB1.out 2; have y13 : w1.cell? ⟨w.heap.size, 3, none⟩ = some (.int .i64 (32)) := box_kept HB1.out 3; have y14 : w1.cell? ⟨w.heap.size, 4, none⟩ = some (.int .i64 (i)) := box_kept HB1.out 4; clear hb) | ((go_at_call 50; with_reducible refine (C2.out _).mono ?_); rintro e w2 ⟨rfl, hb⟩; have HB2 := Lib.hid ((below_hop HB1.out hb)); have y20 : w2.cell? ⟨w.heap.size, 0, none⟩ = some (.int .i64 (o)) := box_kept HB2.out 0; have y21 : w2.cell? ⟨w.heap.size, 1, none⟩ = some (.int .i64 (d)) := box_kept HB2.out 1; have y22 : w2.cell? ⟨w.heap.size, 2, none⟩ = some (.int .i64 (s)) := box_kept HB2.out 2; have y23 : w2.cell? ⟨w.heap.size, 3, none⟩ = some (.int .i64 (32)) := box_kept HB2.out 3; have y24 : w2.cell? ⟨w.heap.size, 4, none⟩ = some (.int .i64 (i)) := box_kept HB2.out 4; clear hb))
  go_ret2
  exact ⟨rfl, below_box HB2.out⟩
end Go.Proofs.Ytdojafpjipcbjaa
