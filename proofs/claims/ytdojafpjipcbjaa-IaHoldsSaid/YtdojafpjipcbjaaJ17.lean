/- The law's own known, and strings of bytes. -/
import Derived.Laws.BytesArg
import Derived.Laws.StructEq
import Derived.Deep.CutRange
import Derived.Test.YtdojafpjipcbjaaJ16
namespace Go.Proofs.Ytdojafpjipcbjaa
open Go.RowKit
set_option linter.unusedVariables false
set_option linter.unusedSimpArgs false
/-- The string of a slice of bytes. -/
theorem Ints.str {w : World} {v : Value} {xs : List Int} (h : Ints .u8 w v xs) : (convert 22 9 v).run Try.prog w = .ok (.string (strOfNums xs)) w := by
  obtain ⟨a, c, rfl, h1, h2, h3, h4⟩ := h
  rcases a with _ | ⟨b, o, tg⟩
  · have hl : xs = [] := by
      rcases xs with _ | ⟨x, r⟩
      · rfl
      · obtain ⟨b, o, e, _⟩ := h4 0 (by simp); cases e
    subst hl
    exact run_convert_bytes_nil w _ 5 Try.underlying22 Try.underlying5 _ _ _ Try.underlying9
  · rcases Nat.eq_zero_or_pos xs.length with h0 | h0
    · have hl : xs = [] := List.length_eq_zero_iff.1 h0
      subst hl
      rw [run_convert_bytes_string w _ _ 5 _ _ _ Try.underlying22 Try.underlying5 Try.underlying9]
      have := run_bytesToString (P := Try.prog) w ⟨b, o, tg⟩ 0 c [] (by have := run_loadCells_list (P := Try.prog) w ⟨b, o, tg⟩ [] (by intro j v hj; simp at hj); simpa using this)
      exact this
    · obtain ⟨b', o', e, _⟩ := h4 0 h0
      cases e
      refine run_convert_bytes_arg w _ 5 Try.underlying22 Try.underlying5 b o xs.length c xs rfl (fun i hi => ?_) _ Try.underlying9
      obtain ⟨b2, o2, e2, _, h6⟩ := h4 i hi
      cases e2
      rw [Nat.mul_one] at h6
      exact h6
theorem str1 : strOfNums [131, 192, 255] = ⟨#[131, 192, 255]⟩ := by decide
theorem str2 : strOfNums [102, 131, 192, 255] = ⟨#[102, 131, 192, 255]⟩ := by decide
set_option maxRecDepth 100000 in
set_option maxHeartbeats 1000000 in
theorem known_any (w : World) : Calls Try.prog 8 #[] w fun e w' => e = .returned (.bool true) ∧ Below w.heap.size w w' := by
  have E1 : Hid (∀ wk, Calls Try.prog 11 #[.agg #[.int .i64 14, .int .i64 0, .int .i64 0, .int .i64 32, .int .i64 4294967295]] wk fun e w' => ∃ v, e = .returned (.tuple #[v, .int .i64 0]) ∧ RowI w' wk.heap.size 5 .u8 v [131, 192, 255] ∧ Below wk.heap.size wk w') := fun wk => encode_ok ⟨14, 0, 0, 32, 4294967295⟩ wk (by decide)
  have E2 : Hid (∀ wk, Calls Try.prog 11 #[.agg #[.int .i64 14, .int .i64 0, .int .i64 0, .int .i64 16, .int .i64 65535]] wk fun e w' => ∃ v, e = .returned (.tuple #[v, .int .i64 0]) ∧ RowI w' wk.heap.size 5 .u8 v [102, 131, 192, 255] ∧ Below wk.heap.size wk w') := fun wk => encode_ok ⟨14, 0, 0, 16, 65535⟩ wk (by decide)
  have hd : decI [139, 131, 16, 0, 0, 0] = some (⟨2, 0, 3, 32, 16⟩, 6) := by decide
  have D1 : Hid (∀ wk : World, Calls Try.prog 9 #[.slice (some ⟨wk.heap.size, 0, none⟩) 6 6] (wk.alloc (.cells #[.int .u8 139, .int .u8 131, .int .u8 16, .int .u8 0, .int .u8 0, .int .u8 0] 5)) fun e w' => e = .returned (.tuple #[.agg #[.int .i64 2, .int .i64 0, .int .i64 3, .int .i64 32, .int .i64 16], .int .i64 6, .bool true]) ∧ Since (wk.alloc (.cells #[.int .u8 139, .int .u8 131, .int .u8 16, .int .u8 0, .int .u8 0, .int .u8 0] 5)) w') := fun wk => by
    have h := decode_any [139, 131, 16, 0, 0, 0] (.slice (some ⟨wk.heap.size, 0, none⟩) 6 6) _ ((RowI.lit wk #[.int .u8 139, .int .u8 131, .int .u8 16, .int .u8 0, .int .u8 0, .int .u8 0] [139, 131, 16, 0, 0, 0] .u8 5 wk.heap.size 6 (Nat.le_refl _) rfl rfl (by unfold maxLen; simp)).ints (by simp)) (by
      intro i
      rcases i with _ | _ | _ | _ | _ | _ | i <;> simp)
    rw [(dec_some hd).1, (dec_some hd).2.1, (dec_some hd).2.2] at h
    exact h
  clear hd
  go_enter Try.func8, Try.ntmps8
  go_upto_region 4 with (first | ((go_at_call 11; with_reducible refine (E1.out _).mono ?_); rintro e w1 ⟨v1, rfl, hr1, hb1⟩; obtain ⟨a1, c1, rfl⟩ := hr1.shape; have HR1 := Lib.hid hr1; have HB1 := Lib.hid hb1; clear hr1 hb1) | ((go_at_call 11; with_reducible refine (E2.out _).mono ?_); rintro e w2 ⟨v2, rfl, hr2, hb2⟩; obtain ⟨a2, c2, rfl⟩ := hr2.shape; have HR2 := Lib.hid hr2; have HB2 := Lib.hid hb2; clear hr2 hb2) | ((go_at_call 9; with_reducible refine (D1.out _).mono ?_); rintro e w3 ⟨rfl, hs3⟩))
  obtain ⟨W4, hW4⟩ : ∃ W, w3.alloc (.cells #[.int .i64 2, .int .i64 0, .int .i64 3, .int .i64 32, .int .i64 16] 25) = W := ⟨_, rfl⟩
  have hb4 : Below w3.heap.size w3 W4 := by rw [← hW4]; exact (Below.refl _ _).alloc (Nat.le_refl _) _
  have hx4 : Box5 W4 w3.heap.size 2 0 3 32 16 := by rw [← hW4]; exact Box5.new w3 2 0 3 32 16
  obtain ⟨⟨q0, q1, q2, q3, q4⟩, _⟩ := hx4.cells
  have s23 : Below w2.heap.size w2 w3 := below_hop ((Below.refl _ _).alloc (Nat.le_refl _) _) hs3
  have s24 : Below w2.heap.size w2 W4 := below_hop s23 hb4
  have s14 : Below w1.heap.size w1 W4 := below_hop HB2.out s24
  have HF := Lib.hid (below_hop HB1.out s14)
  have t1 := ((HR1.out.below s14).ints (by simp)).str
  have t2 := ((HR2.out.below s24).ints (by simp)).str
  rw [str1] at t1
  rw [str2] at t2
  change (convert 22 9 (.slice a1 3 c1)).run Try.prog W4 = _ at t1
  change (convert 22 9 (.slice a2 4 c2)).run Try.prog W4 = _ at t2
  rw [hW4]
  clear hW4 hb4 s23 s24 s14 hs3 hx4
  go_wp2_with fail
  go_ret
  exact ⟨rfl, HF.out⟩
end Go.Proofs.Ytdojafpjipcbjaa
namespace Go.Proofs.Ytdojafpjipcbjaa
open Go.RowKit
set_option linter.unusedVariables false
set_option linter.unusedSimpArgs false
theorem rdB_dr (l : List Int) (m k : Nat) : rdB (l.drop m) (k + 1) = l.getD m 0 + 256 * rdB (l.drop (m + 1)) k := by
  have e : (l.drop m).tail = l.drop (m + 1) := by rw [List.tail_drop]
  have g : (l.drop m).getD 0 0 = l.getD m 0 := by rw [getD_dr, Nat.add_zero]
  rw [← e, ← g]
  cases l.drop m with
  | nil => simp [rdB]; cases k <;> rfl
  | cons b r => rfl
theorem rdB_bdk {l : List Int} (h : Byt l) (m t : Nat) (ht : t ≤ 3) : 0 ≤ rdB (l.drop m) t ∧ rdB (l.drop m) t < 16777216 := by
  have := rdJ_bd (rdN_byt h m t) t
  rw [show rdJ (rdN l m t) t = rdB (l.drop m) t by rw [← rdN_rdB l m t, rdN_length]] at this
  refine ⟨this.1, Int.lt_of_lt_of_le this.2 ?_⟩
  rcases (show t = 0 ∨ t = 1 ∨ t = 2 ∨ t = 3 by omega) with rfl | rfl | rfl | rfl <;> decide
theorem nmR_dr (l : List Int) (a n k : Nat) (h : a ≤ l.length) : nmR (l.drop a) n k = nmR l (a + n) k := by
  unfold nmR
  rw [drop_dr, List.length_drop]
  by_cases c : n + k ≤ l.length - a
  · rw [if_pos c, if_pos (by omega)]
  · rw [if_neg c, if_neg (by omega)]
theorem ret_nb {a b : Int} {x : Bool} (h : a = b) : Ending.returned (.tuple #[.int .i64 a, .bool x]) = .returned (.tuple #[.int .i64 b, .bool x]) := by rw [h]
theorem rdB_z (l : List Int) : rdB l 0 = 0 := by cases l <;> rfl
theorem wrap_nn {n j m : Nat} (h : n + j < m) (hm : m ≤ 140737488351232) : wrap64 ((n : Int) + j) = ((n + j : Nat) : Int) := IntWalk.wrap64_in _ (by omega)
set_option maxRecDepth 100000 in
set_option maxHeartbeats 400000 in
theorem number_in (l : List Int) (v : Value) (n k : Nat) (w : World) (hv : Ints .u8 w v l) (hb : Byt l) (hk : k ≤ 4) (h : n + k ≤ l.length) : Calls Try.prog 59 #[v, .int .i64 n, .int .i64 k] w fun e w' => e = .returned (.tuple #[.int .i64 (rdB (l.drop n) k), .bool true]) ∧ w = w' := by
  have HV := Lib.hid hv
  have HB := Lib.hid hb
  obtain ⟨a, c, rfl, h1, h2⟩ := hv.shape
  clear hv hb
  have hn : decide ((n : Int) < 0) = false := decide_eq_false (by omega)
  have hg : decide (l.length < n + k) = false := decide_eq_false (by omega)
  have hw : wrap64 ((n : Int) + k) = (n : Int) + k := IntWalk.wrap64_in _ (by omega)
  go_enter Try.func59, Try.ntmps59
  go_wp2_with fail
  go_loopw [8, 9] (fun s i wr => ∃ (j : Nat) (q : Int), j ≤ k ∧ i = .int .i64 q ∧ q = (j : Int) - 1 ∧ s = .int .i64 (rdB (l.drop (n + j)) (k - j)) ∧ w = wr) (fun _ i _ => (intOf i + 1).toNat)
  case atStart => exact ⟨k, (k : Int) - 1, Nat.le_refl _, by go_num, rfl, by rw [Nat.sub_self, rdB_z], rfl⟩
  case round =>
    obtain ⟨j, q, hj, rfl, hq, rfl, rfl⟩ := hrel
    rcases j with _ | j
    · have : q = -1 := by omega
      subst this
      clear hq
      rw [Nat.add_zero, Nat.sub_zero]
      generalize hr : rdB (l.drop n) k = r
      have HR := Lib.hid hr
      clear hr
      go_wp2_with fail
      go_ret2
      exact ⟨ret_nb HR.out.symm, rfl⟩
    · have : q = (j : Int) := by omega
      subst this
      clear hq
      have hlt : n + j < l.length := by omega
      obtain ⟨b, p, c', e', _, _, d0⟩ := HV.out.at hlt
      cases e'
      have HX : Hid (256 * rdB (l.drop (n + (j + 1))) (k - (j + 1)) + l.getD (n + j) 0 = rdB (l.drop (n + j)) (k - j)) := Lib.hid (by
        rw [show k - j = (k - (j + 1)) + 1 by omega, rdB_dr, Nat.add_assoc]; omega)
      have hxb := rdB_bdk HB.out (n + (j + 1)) (k - (j + 1)) (by omega)
      have hyb := HB.out (n + j)
      generalize rdB (l.drop (n + (j + 1))) (k - (j + 1)) = x at *
      generalize l.getD (n + j) 0 = y at *
      have hlt' : (n : Int) + j < l.length := show ((n + j : Nat) : Int) < _ from Int.ofNat_lt.2 hlt
      go_wp2_with fail
      go_roundw
      case rel => exact ⟨j, (j : Int) - 1, by omega, by go_num, rfl, by rw [← HX.out], by first | rfl | trivial⟩
      case measure => simp [intOf]
set_option maxRecDepth 100000 in
set_option maxHeartbeats 1000000 in
theorem number_out (l : List Int) (v : Value) (n k : Nat) (w : World) (hv : Ints .u8 w v l) (hk : k ≤ 4) (hn : n ≤ 100) (h : l.length < n + k) : Calls Try.prog 59 #[v, .int .i64 n, .int .i64 k] w fun e w' => e = .returned (.tuple #[.int .i64 0, .bool false]) ∧ w = w' := by
  obtain ⟨a, c, rfl, h1, h2⟩ := hv.shape
  clear hv
  have hn : decide ((n : Int) < 0) = false := decide_eq_false (by omega)
  have hg : decide (l.length < n + k) = true := decide_eq_true (by omega)
  have hw : wrap64 ((n : Int) + k) = (n : Int) + k := IntWalk.wrap64_in _ (by omega)
  go_enter Try.func59, Try.ntmps59
  go_wp2_with fail
  go_ret2
  exact ⟨rfl, rfl⟩
/-- What the reference's number gives, whether the bytes are there or not. -/
def nuB (l : List Int) (n k : Nat) : Bool := decide (n + k ≤ l.length)
theorem numR_any (l : List Int) (v : Value) (n k : Nat) (w : World) (hv : Ints .u8 w v l) (hb : Byt l) (hk : k ≤ 4) (hn : n ≤ 100) : Calls Try.prog 59 #[v, .int .i64 n, .int .i64 k] w fun e w' => e = .returned (.tuple #[.int .i64 (nmR l n k), .bool (nuB l n k)]) ∧ w = w' := by
  unfold nmR nuB
  by_cases c : n + k ≤ l.length
  · rw [if_pos c, decide_eq_true c]; exact number_in l v n k w hv hb hk c
  · rw [if_neg c, decide_eq_false c]; exact number_out l v n k w hv hk hn (by omega)
theorem twoR_hit (j : Int) (h : 7 ≤ j ∧ j ≤ 13) : twoR (ariI j) = j := by
  have : j = 7 ∨ j = 8 ∨ j = 9 ∨ j = 10 ∨ j = 11 ∨ j = 12 ∨ j = 13 := by omega
  rcases this with rfl | rfl | rfl | rfl | rfl | rfl | rfl <;> decide
theorem twoR_no (c : Int) (h : ∀ j : Int, 7 ≤ j → j < 14 → ariI j ≠ c) : twoR c = if c = 137 then 0 else -1 := by
  have h7 : c ≠ 1 := fun e => h 7 (by decide) (by decide) e.symm
  have h8 : c ≠ 9 := fun e => h 8 (by decide) (by decide) e.symm
  have h9 : c ≠ 33 := fun e => h 9 (by decide) (by decide) e.symm
  have h10 : c ≠ 41 := fun e => h 10 (by decide) (by decide) e.symm
  have h11 : c ≠ 49 := fun e => h 11 (by decide) (by decide) e.symm
  have h12 : c ≠ 57 := fun e => h 12 (by decide) (by decide) e.symm
  have h13 : c ≠ 133 := fun e => h 13 (by decide) (by decide) e.symm
  simp [twoR, h7, h8, h9, h10, h11, h12, h13]
theorem ariI_u8 (o : Int) : 0 ≤ ariI o ∧ ariI o < 256 := by unfold ariI; repeat' split
                                                            all_goals omega
set_option maxRecDepth 100000 in
set_option maxHeartbeats 1000000 in
theorem byTwo_any (c : Int) (w : World) : Calls Try.prog 62 #[.int .i64 c] w fun e w' => e = .returned (.int .i64 (twoR c)) ∧ w = w' := by
  go_enter Try.func62, Try.ntmps62
  go_wp2_with fail
  go_loopw [3] (fun i wr => ∃ j : Int, 7 ≤ j ∧ j ≤ 14 ∧ i = .int .i64 j ∧ Hid (∀ o : Int, 7 ≤ o → o < j → ariI o ≠ c) ∧ w = wr) (fun i _ => (14 - intOf i).toNat)
  case atStart => exact ⟨7, by decide, by decide, rfl, Lib.hid (fun o h1 h2 => absurd h1 (by omega)), rfl⟩
  case round =>
    obtain ⟨j, h1, h2, rfl, hno, rfl⟩ := hrel
    by_cases hj : j ≤ 13
    · have hd : decide (j ≤ 13) = true := decide_eq_true hj
      have CA := Lib.hid (arith_any j w (by omega))
      have hu := ariI_u8 j
      have HT : Hid (twoR (ariI j) = j) := Lib.hid (twoR_hit j ⟨h1, hj⟩)
      cases hc : (ariI j == c)
      · have HN : Hid (∀ o : Int, 7 ≤ o → o < j + 1 → ariI o ≠ c) := Lib.hid (fun o a b => by
          by_cases e : o = j
          · subst e; simpa using hc
          · exact hno.out o a (by omega))
        generalize ariI j = x at *
        go_wp2_with ((go_at_call 72; with_reducible refine (CA.out).mono ?_); rintro e w' ⟨rfl, rfl⟩)
        go_roundw
        case rel => exact ⟨j + 1, by omega, by omega, by go_num, HN, by first | rfl | trivial⟩
        case measure => simp [intOf]; omega
      · have HC : Hid (twoR c = j) := by
          have e : ariI j = c := by simpa using hc
          show _ = _
          rw [← e]; exact HT.out
        generalize ariI j = x at *
        go_wp2_with ((go_at_call 72; with_reducible refine (CA.out).mono ?_); rintro e w' ⟨rfl, rfl⟩)
        go_ret
        exact ⟨ret_i HC.out.symm, rfl⟩
    · obtain rfl : j = 14 := by omega
      have HV := Lib.hid (twoR_no c (fun o a b => hno.out o a b))
      cases hc : (c == 137)
      · have HE : Hid (twoR c = -1) := by show _ = _; rw [HV.out, if_neg (by simpa using hc)]
        go_wp2_with fail
        go_ret
        exact ⟨ret_i HE.out.symm, rfl⟩
      · have HE : Hid (twoR c = 0) := by show _ = _; rw [HV.out, if_pos (by simpa using hc)]
        go_wp2_with fail
        go_ret
        exact ⟨ret_i HE.out.symm, rfl⟩
/-- The three ranges of operations that byDigit is asked for. -/
def DigR (f t g : Int) : Prop := (f = 14 ∧ t = 19 ∧ (g = 129 ∨ g = 131)) ∨ (f = 21 ∧ t = 23 ∧ g = 211) ∨ (f = 24 ∧ t = 27 ∧ g = 247)
theorem DigR.hit {f t g : Int} (h : DigR f t g) (j : Int) (h1 : f ≤ j) (h2 : j ≤ t) : grpI g (digI j) = j := by
  rcases h with ⟨rfl, rfl, rfl | rfl⟩ | ⟨rfl, rfl, rfl⟩ | ⟨rfl, rfl, rfl⟩
  · rcases (show j = 14 ∨ j = 15 ∨ j = 16 ∨ j = 17 ∨ j = 18 ∨ j = 19 by omega) with rfl | rfl | rfl | rfl | rfl | rfl <;> decide
  · rcases (show j = 14 ∨ j = 15 ∨ j = 16 ∨ j = 17 ∨ j = 18 ∨ j = 19 by omega) with rfl | rfl | rfl | rfl | rfl | rfl <;> decide
  · rcases (show j = 21 ∨ j = 22 ∨ j = 23 by omega) with rfl | rfl | rfl <;> decide
  · rcases (show j = 24 ∨ j = 25 ∨ j = 26 ∨ j = 27 by omega) with rfl | rfl | rfl | rfl <;> decide
theorem DigR.no {f t g : Int} (h : DigR f t g) (n : Int) (hn : ∀ j : Int, f ≤ j → j < t + 1 → digI j ≠ n) : grpI g n = -1 := by
  rcases h with ⟨rfl, rfl, rfl | rfl⟩ | ⟨rfl, rfl, rfl⟩ | ⟨rfl, rfl, rfl⟩
  · have a0 : n ≠ 0 := fun e => hn 14 (by decide) (by decide) e.symm
    have a1 : n ≠ 1 := fun e => hn 15 (by decide) (by decide) e.symm
    have a4 : n ≠ 4 := fun e => hn 16 (by decide) (by decide) e.symm
    have a5 : n ≠ 5 := fun e => hn 17 (by decide) (by decide) e.symm
    have a6 : n ≠ 6 := fun e => hn 18 (by decide) (by decide) e.symm
    have a7 : n ≠ 7 := fun e => hn 19 (by decide) (by decide) e.symm
    simp [grpI, a0, a1, a4, a5, a6, a7]
  · have a0 : n ≠ 0 := fun e => hn 14 (by decide) (by decide) e.symm
    have a1 : n ≠ 1 := fun e => hn 15 (by decide) (by decide) e.symm
    have a4 : n ≠ 4 := fun e => hn 16 (by decide) (by decide) e.symm
    have a5 : n ≠ 5 := fun e => hn 17 (by decide) (by decide) e.symm
    have a6 : n ≠ 6 := fun e => hn 18 (by decide) (by decide) e.symm
    have a7 : n ≠ 7 := fun e => hn 19 (by decide) (by decide) e.symm
    simp [grpI, a0, a1, a4, a5, a6, a7]
  · have a4 : n ≠ 4 := fun e => hn 21 (by decide) (by decide) e.symm
    have a5 : n ≠ 5 := fun e => hn 22 (by decide) (by decide) e.symm
    have a7 : n ≠ 7 := fun e => hn 23 (by decide) (by decide) e.symm
    simp [grpI, a4, a5, a7]
  · have a2 : n ≠ 2 := fun e => hn 24 (by decide) (by decide) e.symm
    have a3 : n ≠ 3 := fun e => hn 25 (by decide) (by decide) e.symm
    have a6 : n ≠ 6 := fun e => hn 26 (by decide) (by decide) e.symm
    have a7 : n ≠ 7 := fun e => hn 27 (by decide) (by decide) e.symm
    simp [grpI, a2, a3, a6, a7]
theorem DigR.bd {f t g : Int} (h : DigR f t g) : 14 ≤ f ∧ f ≤ t ∧ t ≤ 27 := by
  rcases h with ⟨rfl, rfl, _⟩ | ⟨rfl, rfl, rfl⟩ | ⟨rfl, rfl, rfl⟩ <;> decide
set_option maxRecDepth 100000 in
set_option maxHeartbeats 1000000 in
theorem byDigit_any (f t g n : Int) (w : World) (hd : DigR f t g) : Calls Try.prog 63 #[.int .i64 f, .int .i64 t, .int .i64 n] w fun e w' => e = .returned (.int .i64 (grpI g n)) ∧ w = w' := by
  obtain ⟨b1, b2, b3⟩ := hd.bd
  have HD := Lib.hid hd
  clear hd
  go_enter Try.func63, Try.ntmps63
  go_wp2_with fail
  go_loopw [7] (fun i wr => ∃ j : Int, f ≤ j ∧ j ≤ t + 1 ∧ i = .int .i64 j ∧ Hid (∀ o : Int, f ≤ o → o < j → digI o ≠ n) ∧ w = wr) (fun i _ => (t + 1 - intOf i).toNat)
  case atStart => exact ⟨f, Int.le_refl _, by omega, rfl, Lib.hid (fun o h1 h2 => absurd h1 (by omega)), rfl⟩
  case round =>
    obtain ⟨j, h1, h2, rfl, hno, rfl⟩ := hrel
    by_cases hj : j ≤ t
    · have hd : decide (j ≤ t) = true := decide_eq_true hj
      have CA := Lib.hid (digit_any j w (by omega))
      have HT : Hid (grpI g (digI j) = j) := Lib.hid (HD.out.hit j h1 hj)
      cases hc : (digI j == n)
      · have HN : Hid (∀ o : Int, f ≤ o → o < j + 1 → digI o ≠ n) := Lib.hid (fun o a b => by
          by_cases e : o = j
          · subst e; simpa using hc
          · exact hno.out o a (by omega))
        generalize digI j = x at *
        go_wp2_with ((go_at_call 71; with_reducible refine (CA.out).mono ?_); rintro e w' ⟨rfl, rfl⟩)
        go_roundw
        case rel => exact ⟨j + 1, by omega, by omega, by go_num, HN, by first | rfl | trivial⟩
        case measure => simp [intOf]; omega
      · have HC : Hid (grpI g n = j) := by
          have e : digI j = n := by simpa using hc
          show _ = _
          rw [← e]; exact HT.out
        generalize digI j = x at *
        go_wp2_with ((go_at_call 71; with_reducible refine (CA.out).mono ?_); rintro e w' ⟨rfl, rfl⟩)
        go_ret
        exact ⟨ret_i HC.out.symm, rfl⟩
    · obtain rfl : j = t + 1 := by omega
      have hd : decide (t + 1 ≤ t) = false := decide_eq_false (by omega)
      have HE : Hid (grpI g n = -1) := Lib.hid (HD.out.no n (fun o a b => hno.out o a b))
      go_wp2_with fail
      go_ret
      exact ⟨ret_i HE.out.symm, rfl⟩
end Go.Proofs.Ytdojafpjipcbjaa
namespace Go.Proofs.Ytdojafpjipcbjaa
open Go.RowKit
set_option linter.unusedVariables false
set_option linter.unusedSimpArgs false
theorem nmR_bd {l : List Int} (h : Byt l) (n k : Nat) (hk : k ≤ 4) : 0 ≤ nmR l n k ∧ nmR l n k < 4294967296 := by
  unfold nmR; split
  · exact rdB_bd2 h n k hk
  · decide
theorem nmR_bd1 {l : List Int} (h : Byt l) (n : Nat) : 0 ≤ nmR l n 1 ∧ nmR l n 1 < 256 := by
  unfold nmR; split
  · have := h n
    rw [show (1 : Nat) = 0 + 1 from rfl, rdB_dr, rdB_z]
    omega
  · decide
theorem sg32_is (n : Int) : sgB n 32 = sg32 n := rfl
theorem sg8_is (n : Int) : sgB n 8 = sg8 n := rfl
theorem eqT {a b : Int} (h : a = b) : (a == b) = true := by subst h; exact beq_self_eq_true a
set_option maxRecDepth 100000 in
set_option maxHeartbeats 4000000 in
theorem secondR_any (l : List Int) (v : Value) (a : Nat) (w : World) (hv : Ints .u8 w v l) (hby : Byt l) (ha : a ≤ 1) (hal : a ≤ l.length) : Calls Try.prog 61 #[v, .int .i64 a] w fun e w' => e = .returned (InsV (secR (l.drop a))) ∧ Below w.heap.size w w' := by
  obtain ⟨W0, hW0⟩ : ∃ W, w.alloc (.cells #[.int .i64 0, .int .i64 0, .int .i64 0, .int .i64 0, .int .i64 0] 25) = W := ⟨_, rfl⟩
  have hb0 : Below w.heap.size w W0 := by rw [← hW0]; exact (Below.refl _ _).alloc (Nat.le_refl _) _
  have hbx : Box5 W0 w.heap.size 0 0 0 0 0 := by rw [← hW0]; exact Box5.new w 0 0 0 0 0
  have hv0 := hv.stays hb0
  have C1 : Hid (Calls Try.prog 59 #[v, .int .i64 ((a : Int) + 1), .int .i64 1] W0 fun e w' => e = .returned (.tuple #[.int .i64 (nmR l ((a + 1)) 1), .bool (nuB l ((a + 1)) 1)]) ∧ W0 = w') := Lib.hid (numR_any l v ((a + 1)) 1 W0 hv0 hby (by decide) (by omega))
  have C2 : Hid (Calls Try.prog 59 #[v, .int .i64 ((a : Int) + 2), .int .i64 1] W0 fun e w' => e = .returned (.tuple #[.int .i64 (nmR l ((a + 2)) 1), .bool (nuB l ((a + 2)) 1)]) ∧ W0 = w') := Lib.hid (numR_any l v ((a + 2)) 1 W0 hv0 hby (by decide) (by omega))
  have C3 : Hid (Calls Try.prog 59 #[v, .int .i64 ((a : Int) + 3), .int .i64 4] W0 fun e w' => e = .returned (.tuple #[.int .i64 (nmR l ((a + 3)) 4), .bool (nuB l ((a + 3)) 4)]) ∧ W0 = w') := Lib.hid (numR_any l v ((a + 3)) 4 W0 hv0 hby (by decide) (by omega))
  have C4 : Hid (Calls Try.prog 59 #[v, .int .i64 ((a : Int) + 2), .int .i64 4] W0 fun e w' => e = .returned (.tuple #[.int .i64 (nmR l ((a + 2)) 4), .bool (nuB l ((a + 2)) 4)]) ∧ W0 = w') := Lib.hid (numR_any l v ((a + 2)) 4 W0 hv0 hby (by decide) (by omega))
  have k1 := nmR_bd1 hby (a + 1)
  have k2 := nmR_bd1 hby (a + 2)
  have k3 := nmR_bd hby (a + 3) 4 (by decide)
  have k4 := nmR_bd hby (a + 2) 4 (by decide)
  have S1 := Lib.hid (signed_ref (nmR l (a + 3) 4) 32 W0 (by unfold I64; omega) (by omega) (by decide))
  have S2 := Lib.hid (signed_ref (nmR l (a + 2) 4) 32 W0 (by unfold I64; omega) (by omega) (by decide))
  obtain ⟨X, hX⟩ : ∃ X, secR (l.drop a) = X := ⟨_, rfl⟩
  rw [hX]
  have hE := hX.symm
  unfold secR at hE
  simp only [nmR_dr _ _ _ _ hal, ← sg32_is] at hE
  generalize nmR l (a + 1) 1 = c at *
  generalize nmR l (a + 2) 1 = m at *
  generalize nmR l (a + 3) 4 = f at *
  generalize nmR l (a + 2) 4 = g at *
  generalize nuB l (a + 1) 1 = b1 at *
  generalize nuB l (a + 2) 1 = b2 at *
  generalize nuB l (a + 3) 4 = b3 at *
  generalize nuB l (a + 2) 4 = b4 at *
  generalize sgB f 32 = f2 at *
  generalize sgB g 32 = g2 at *
  have HE := Lib.hid hE
  have HB0 := Lib.hid hb0
  have HBX := Lib.hid hbx
  have hw1 : wrap64 ((a : Int) + 1) = (a : Int) + 1 := IntWalk.wrap64_in _ (by omega)
  have hw2 : wrap64 ((a : Int) + 2) = (a : Int) + 2 := IntWalk.wrap64_in _ (by omega)
  have hw3 : wrap64 ((a : Int) + 3) = (a : Int) + 3 := IntWalk.wrap64_in _ (by omega)
  obtain ⟨⟨q0, q1, q2, q3, q4⟩, qf⟩ := hbx.cells
  have g0 := qf 0
  have g1 := qf 1
  have g2' := qf 2
  have g3 := qf 3
  have g4 := qf 4
  clear hX hE hb0 hbx hv0 hv hby qf
  go_enter Try.func61, Try.ntmps61
  go_upto_region 7 with (first | ((go_at_call 59; first | with_reducible refine (C1.out).mono ?_ | with_reducible refine (C2.out).mono ?_ | with_reducible refine (C3.out).mono ?_ | with_reducible refine (C4.out).mono ?_); rintro e w' ⟨rfl, rfl⟩) | ((go_at_call 60; first | with_reducible refine (S1.out).mono ?_ | with_reducible refine (S2.out).mono ?_); rintro e w' ⟨rfl, rfl⟩))
  by_cases h0 : c = 11
  · have e11 : (c == 11) = true := eqT (by omega)
    have e175 : (c == 175) = false := beqF (by omega)
    have e182 : (c == 182) = false := beqF (by omega)
    have e183 : (c == 183) = false := beqF (by omega)
    have HX : Hid (X = ⟨35, 0, 0, 32, 0⟩) := Lib.hid (by rw [HE.out, if_pos (by omega)])
    go_wp2_with (first | ((go_at_call 59; first | with_reducible refine (C1.out).mono ?_ | with_reducible refine (C2.out).mono ?_ | with_reducible refine (C3.out).mono ?_ | with_reducible refine (C4.out).mono ?_); rintro e w' ⟨rfl, rfl⟩) | ((go_at_call 60; first | with_reducible refine (S1.out).mono ?_ | with_reducible refine (S2.out).mono ?_); rintro e w' ⟨rfl, rfl⟩))
    refine bodyPost_ret (v := InsV ⟨35, 0, 0, 32, 0⟩) (by simp [results, Try.results61, go_sem, InsV, rF, mF, q0, q1, q2, q3, q4]) rfl ⟨by rw [HX.out], ?_⟩
    exact below_set5 HB0.out (Nat.le_refl _) _ _ _ _ _
  by_cases h1 : c = 175
  · have e11 : (c == 11) = false := beqF (by omega)
    have e175 : (c == 175) = true := eqT (by omega)
    have e182 : (c == 182) = false := beqF (by omega)
    have e183 : (c == 183) = false := beqF (by omega)
    have HX : Hid (X = ⟨20, rF m, mF m, 32, 0⟩) := Lib.hid (by rw [HE.out, if_neg (by omega), if_pos (by omega)])
    go_wp2_with (first | ((go_at_call 59; first | with_reducible refine (C1.out).mono ?_ | with_reducible refine (C2.out).mono ?_ | with_reducible refine (C3.out).mono ?_ | with_reducible refine (C4.out).mono ?_); rintro e w' ⟨rfl, rfl⟩) | ((go_at_call 60; first | with_reducible refine (S1.out).mono ?_ | with_reducible refine (S2.out).mono ?_); rintro e w' ⟨rfl, rfl⟩))
    refine bodyPost_ret (v := InsV ⟨20, rF m, mF m, 32, 0⟩) (by simp [results, Try.results61, go_sem, InsV, rF, mF, q0, q1, q2, q3, q4]) rfl ⟨by rw [HX.out], ?_⟩
    exact below_set5 HB0.out (Nat.le_refl _) _ _ _ _ _
  by_cases h2 : c = 182 ∧ 192 ≤ m
  · have e11 : (c == 11) = false := beqF (by omega)
    have e175 : (c == 175) = false := beqF (by omega)
    have e182 : (c == 182) = true := eqT (by omega)
    have e183 : (c == 183) = false := beqF (by omega)
    have d0 : decide (192 ≤ m) = true := decide_eq_true (by omega)
    have HX : Hid (X = ⟨30, rF m, mF m, 32, 0⟩) := Lib.hid (by rw [HE.out, if_neg (by omega), if_neg (by omega), if_pos (by omega)])
    go_wp2_with (first | ((go_at_call 59; first | with_reducible refine (C1.out).mono ?_ | with_reducible refine (C2.out).mono ?_ | with_reducible refine (C3.out).mono ?_ | with_reducible refine (C4.out).mono ?_); rintro e w' ⟨rfl, rfl⟩) | ((go_at_call 60; first | with_reducible refine (S1.out).mono ?_ | with_reducible refine (S2.out).mono ?_); rintro e w' ⟨rfl, rfl⟩))
    refine bodyPost_ret (v := InsV ⟨30, rF m, mF m, 32, 0⟩) (by simp [results, Try.results61, go_sem, InsV, rF, mF, q0, q1, q2, q3, q4]) rfl ⟨by rw [HX.out], ?_⟩
    exact below_set5 HB0.out (Nat.le_refl _) _ _ _ _ _
  by_cases h3 : c = 182
  · have e11 : (c == 11) = false := beqF (by omega)
    have e175 : (c == 175) = false := beqF (by omega)
    have e182 : (c == 182) = true := eqT (by omega)
    have e183 : (c == 183) = false := beqF (by omega)
    have d0 : decide (192 ≤ m) = false := decide_eq_false (by omega)
    have HX : Hid (X = ⟨4, rF m, mF m, 32, f2⟩) := Lib.hid (by rw [HE.out, if_neg (by omega), if_neg (by omega), if_neg (by omega), if_pos (by omega)])
    go_wp2_with (first | ((go_at_call 59; first | with_reducible refine (C1.out).mono ?_ | with_reducible refine (C2.out).mono ?_ | with_reducible refine (C3.out).mono ?_ | with_reducible refine (C4.out).mono ?_); rintro e w' ⟨rfl, rfl⟩) | ((go_at_call 60; first | with_reducible refine (S1.out).mono ?_ | with_reducible refine (S2.out).mono ?_); rintro e w' ⟨rfl, rfl⟩))
    refine bodyPost_ret (v := InsV ⟨4, rF m, mF m, 32, f2⟩) (by simp [results, Try.results61, go_sem, InsV, rF, mF, q0, q1, q2, q3, q4]) rfl ⟨by rw [HX.out], ?_⟩
    exact below_set5 HB0.out (Nat.le_refl _) _ _ _ _ _
  by_cases h4 : c = 183
  · have e11 : (c == 11) = false := beqF (by omega)
    have e175 : (c == 175) = false := beqF (by omega)
    have e182 : (c == 182) = false := beqF (by omega)
    have e183 : (c == 183) = true := eqT (by omega)
    have HX : Hid (X = ⟨5, rF m, mF m, 32, f2⟩) := Lib.hid (by rw [HE.out, if_neg (by omega), if_neg (by omega), if_neg (by omega), if_neg (by omega), if_pos (by omega)])
    go_wp2_with (first | ((go_at_call 59; first | with_reducible refine (C1.out).mono ?_ | with_reducible refine (C2.out).mono ?_ | with_reducible refine (C3.out).mono ?_ | with_reducible refine (C4.out).mono ?_); rintro e w' ⟨rfl, rfl⟩) | ((go_at_call 60; first | with_reducible refine (S1.out).mono ?_ | with_reducible refine (S2.out).mono ?_); rintro e w' ⟨rfl, rfl⟩))
    refine bodyPost_ret (v := InsV ⟨5, rF m, mF m, 32, f2⟩) (by simp [results, Try.results61, go_sem, InsV, rF, mF, q0, q1, q2, q3, q4]) rfl ⟨by rw [HX.out], ?_⟩
    exact below_set5 HB0.out (Nat.le_refl _) _ _ _ _ _
  by_cases h5 : 144 ≤ c ∧ c ≤ 159
  · have e11 : (c == 11) = false := beqF (by omega)
    have e175 : (c == 175) = false := beqF (by omega)
    have e182 : (c == 182) = false := beqF (by omega)
    have e183 : (c == 183) = false := beqF (by omega)
    have d0 : decide (144 ≤ c) = true := decide_eq_true (by omega)
    have d1 : decide (c ≤ 159) = true := decide_eq_true (by omega)
    have HX : Hid (X = ⟨29, mF m, c - 144, 32, 0⟩) := Lib.hid (by rw [HE.out, if_neg (by omega), if_neg (by omega), if_neg (by omega), if_neg (by omega), if_neg (by omega), if_pos (by omega)])
    go_wp2_with (first | ((go_at_call 59; first | with_reducible refine (C1.out).mono ?_ | with_reducible refine (C2.out).mono ?_ | with_reducible refine (C3.out).mono ?_ | with_reducible refine (C4.out).mono ?_); rintro e w' ⟨rfl, rfl⟩) | ((go_at_call 60; first | with_reducible refine (S1.out).mono ?_ | with_reducible refine (S2.out).mono ?_); rintro e w' ⟨rfl, rfl⟩))
    refine bodyPost_ret (v := InsV ⟨29, mF m, c - 144, 32, 0⟩) (by simp [results, Try.results61, go_sem, InsV, rF, mF, q0, q1, q2, q3, q4]) rfl ⟨by rw [HX.out], ?_⟩
    exact below_set5 HB0.out (Nat.le_refl _) _ _ _ _ _
  by_cases h6 : 64 ≤ c ∧ c ≤ 79
  · have e11 : (c == 11) = false := beqF (by omega)
    have e175 : (c == 175) = false := beqF (by omega)
    have e182 : (c == 182) = false := beqF (by omega)
    have e183 : (c == 183) = false := beqF (by omega)
    have d0 : decide (144 ≤ c) = false := decide_eq_false (by omega)
    have d1 : decide (64 ≤ c) = true := decide_eq_true (by omega)
    have d2 : decide (c ≤ 79) = true := decide_eq_true (by omega)
    have HX : Hid (X = ⟨31, rF m, mF m, 32, c - 64⟩) := Lib.hid (by rw [HE.out, if_neg (by omega), if_neg (by omega), if_neg (by omega), if_neg (by omega), if_neg (by omega), if_neg (by omega), if_pos (by omega)])
    go_wp2_with (first | ((go_at_call 59; first | with_reducible refine (C1.out).mono ?_ | with_reducible refine (C2.out).mono ?_ | with_reducible refine (C3.out).mono ?_ | with_reducible refine (C4.out).mono ?_); rintro e w' ⟨rfl, rfl⟩) | ((go_at_call 60; first | with_reducible refine (S1.out).mono ?_ | with_reducible refine (S2.out).mono ?_); rintro e w' ⟨rfl, rfl⟩))
    refine bodyPost_ret (v := InsV ⟨31, rF m, mF m, 32, c - 64⟩) (by simp [results, Try.results61, go_sem, InsV, rF, mF, q0, q1, q2, q3, q4]) rfl ⟨by rw [HX.out], ?_⟩
    exact below_set5 HB0.out (Nat.le_refl _) _ _ _ _ _
  by_cases h7 : 128 ≤ c ∧ c ≤ 143
  · have e11 : (c == 11) = false := beqF (by omega)
    have e175 : (c == 175) = false := beqF (by omega)
    have e182 : (c == 182) = false := beqF (by omega)
    have e183 : (c == 183) = false := beqF (by omega)
    have d0 : decide (144 ≤ c) = false := decide_eq_false (by omega)
    have d1 : decide (64 ≤ c) = true := decide_eq_true (by omega)
    have d2 : decide (c ≤ 79) = false := decide_eq_false (by omega)
    have d3 : decide (128 ≤ c) = true := decide_eq_true (by omega)
    have d4 : decide (c ≤ 143) = true := decide_eq_true (by omega)
    have HX : Hid (X = ⟨32, 0, c - 128, 32, g2⟩) := Lib.hid (by rw [HE.out, if_neg (by omega), if_neg (by omega), if_neg (by omega), if_neg (by omega), if_neg (by omega), if_neg (by omega), if_neg (by omega), if_pos (by omega)])
    go_wp2_with (first | ((go_at_call 59; first | with_reducible refine (C1.out).mono ?_ | with_reducible refine (C2.out).mono ?_ | with_reducible refine (C3.out).mono ?_ | with_reducible refine (C4.out).mono ?_); rintro e w' ⟨rfl, rfl⟩) | ((go_at_call 60; first | with_reducible refine (S1.out).mono ?_ | with_reducible refine (S2.out).mono ?_); rintro e w' ⟨rfl, rfl⟩))
    refine bodyPost_ret (v := InsV ⟨32, 0, c - 128, 32, g2⟩) (by simp [results, Try.results61, go_sem, InsV, rF, mF, q0, q1, q2, q3, q4]) rfl ⟨by rw [HX.out], ?_⟩
    exact below_set5 HB0.out (Nat.le_refl _) _ _ _ _ _
  by_cases y0 : c < 64
  · have e11 : (c == 11) = false := beqF (by omega)
    have e175 : (c == 175) = false := beqF (by omega)
    have e182 : (c == 182) = false := beqF (by omega)
    have e183 : (c == 183) = false := beqF (by omega)
    have d0 : decide (144 ≤ c) = false := decide_eq_false (by omega)
    have d1 : decide (64 ≤ c) = false := decide_eq_false (by omega)
    have d2 : decide (128 ≤ c) = false := decide_eq_false (by omega)
    have HX : Hid (X = ⟨-1, 0, 0, 0, 0⟩) := Lib.hid (by rw [HE.out, if_neg (by omega), if_neg (by omega), if_neg (by omega), if_neg (by omega), if_neg (by omega), if_neg (by omega), if_neg (by omega), if_neg (by omega)])
    go_wp2_with (first | ((go_at_call 59; first | with_reducible refine (C1.out).mono ?_ | with_reducible refine (C2.out).mono ?_ | with_reducible refine (C3.out).mono ?_ | with_reducible refine (C4.out).mono ?_); rintro e w' ⟨rfl, rfl⟩) | ((go_at_call 60; first | with_reducible refine (S1.out).mono ?_ | with_reducible refine (S2.out).mono ?_); rintro e w' ⟨rfl, rfl⟩))
    refine bodyPost_ret (v := InsV ⟨-1, 0, 0, 0, 0⟩) (by simp [results, Try.results61, go_sem, InsV, rF, mF, q0, q1, q2, q3, q4]) rfl ⟨by rw [HX.out], ?_⟩
    exact below_set5 HB0.out (Nat.le_refl _) _ _ _ _ _
  by_cases y1 : c < 128
  · have e11 : (c == 11) = false := beqF (by omega)
    have e175 : (c == 175) = false := beqF (by omega)
    have e182 : (c == 182) = false := beqF (by omega)
    have e183 : (c == 183) = false := beqF (by omega)
    have d0 : decide (144 ≤ c) = false := decide_eq_false (by omega)
    have d1 : decide (64 ≤ c) = true := decide_eq_true (by omega)
    have d2 : decide (c ≤ 79) = false := decide_eq_false (by omega)
    have d3 : decide (128 ≤ c) = false := decide_eq_false (by omega)
    have HX : Hid (X = ⟨-1, 0, 0, 0, 0⟩) := Lib.hid (by rw [HE.out, if_neg (by omega), if_neg (by omega), if_neg (by omega), if_neg (by omega), if_neg (by omega), if_neg (by omega), if_neg (by omega), if_neg (by omega)])
    go_wp2_with (first | ((go_at_call 59; first | with_reducible refine (C1.out).mono ?_ | with_reducible refine (C2.out).mono ?_ | with_reducible refine (C3.out).mono ?_ | with_reducible refine (C4.out).mono ?_); rintro e w' ⟨rfl, rfl⟩) | ((go_at_call 60; first | with_reducible refine (S1.out).mono ?_ | with_reducible refine (S2.out).mono ?_); rintro e w' ⟨rfl, rfl⟩))
    refine bodyPost_ret (v := InsV ⟨-1, 0, 0, 0, 0⟩) (by simp [results, Try.results61, go_sem, InsV, rF, mF, q0, q1, q2, q3, q4]) rfl ⟨by rw [HX.out], ?_⟩
    exact below_set5 HB0.out (Nat.le_refl _) _ _ _ _ _
  have e11 : (c == 11) = false := beqF (by omega)
  have e175 : (c == 175) = false := beqF (by omega)
  have e182 : (c == 182) = false := beqF (by omega)
  have e183 : (c == 183) = false := beqF (by omega)
  have d0 : decide (144 ≤ c) = true := decide_eq_true (by omega)
  have d1 : decide (c ≤ 159) = false := decide_eq_false (by omega)
  have d2 : decide (64 ≤ c) = true := decide_eq_true (by omega)
  have d3 : decide (c ≤ 79) = false := decide_eq_false (by omega)
  have d4 : decide (128 ≤ c) = true := decide_eq_true (by omega)
  have d5 : decide (c ≤ 143) = false := decide_eq_false (by omega)
  have HX : Hid (X = ⟨-1, 0, 0, 0, 0⟩) := Lib.hid (by rw [HE.out, if_neg (by omega), if_neg (by omega), if_neg (by omega), if_neg (by omega), if_neg (by omega), if_neg (by omega), if_neg (by omega), if_neg (by omega)])
  go_wp2_with (first | ((go_at_call 59; first | with_reducible refine (C1.out).mono ?_ | with_reducible refine (C2.out).mono ?_ | with_reducible refine (C3.out).mono ?_ | with_reducible refine (C4.out).mono ?_); rintro e w' ⟨rfl, rfl⟩) | ((go_at_call 60; first | with_reducible refine (S1.out).mono ?_ | with_reducible refine (S2.out).mono ?_); rintro e w' ⟨rfl, rfl⟩))
  refine bodyPost_ret (v := InsV ⟨-1, 0, 0, 0, 0⟩) (by simp [results, Try.results61, go_sem, InsV, rF, mF, q0, q1, q2, q3, q4]) rfl ⟨by rw [HX.out], ?_⟩
  exact below_set5 HB0.out (Nat.le_refl _) _ _ _ _ _
end Go.Proofs.Ytdojafpjipcbjaa
