/- Walks of what makes bytes of numbers, in the second instruction set and in its reference. -/
import Derived.Laws.AppendOwn
import Derived.Maps.AppendAt
import Derived.Laws.Bits128
import Derived.Test.YtdojafpjipcbjaaF1
namespace Go.Proofs.Ytdojafpjipcbjaa
open Go.RowKit
set_option linter.unusedVariables false
set_option linter.unusedSimpArgs false
theorem i64_and (n c : Int) (k : Nat) (hk : k ≤ 62) (hc : c = 2 ^ k - 1) : bits .and .i64 n c = n % 2 ^ k := by
  have hp : (2 : Nat) ^ k ≤ 2 ^ 62 := Nat.pow_le_pow_right (by decide) hk
  have hp0 : 0 < (2 : Nat) ^ k := Nat.two_pow_pos k
  have e : ((2 : Int) ^ k) = ((2 ^ k : Nat) : Int) := by simp
  rw [e] at hc ⊢
  have hm : (BitVec.ofInt 64 c).toNat = 2 ^ k - 1 := by
    rw [BitVec.toNat_ofInt, hc]
    generalize (2 : Nat) ^ k = p at *
    have : ((p : Int) - 1) % ((2 ^ 64 : Nat) : Int) = (p : Int) - 1 := Int.emod_eq_of_lt (by omega) (by omega)
    rw [this]; omega
  have key : (BitVec.ofInt 64 n &&& BitVec.ofInt 64 c).toNat = (n % ((2 ^ 64 : Nat) : Int)).toNat % 2 ^ k := by
    rw [BitVec.toNat_and, BitVec.toNat_ofInt, hm, Nat.and_two_pow_sub_one_eq_mod]
  show IntKind.i64.wrap ((BitVec.ofInt 64 n &&& BitVec.ofInt 64 c).toNat : Nat) = _
  rw [key, IntKind.wrap_i64]
  have hd : (2 : Nat) ^ k ∣ 2 ^ 64 := Nat.pow_dvd_pow 2 (by omega)
  have h1 := Nat.mod_lt (n % ((2 ^ 64 : Nat) : Int)).toNat hp0
  have h2 : ((((n % ((2 ^ 64 : Nat) : Int)).toNat % 2 ^ k : Nat)) : Int) = n % ((2 ^ k : Nat) : Int) := by
    rw [Int.natCast_emod, Int.toNat_of_nonneg (Int.emod_nonneg _ (by decide)), Int.emod_emod_of_dvd _ (Int.natCast_dvd_natCast.2 hd)]
  rw [← h2]
  generalize (n % ((2 ^ 64 : Nat) : Int)).toNat % 2 ^ k = t at *
  omega
theorem info_u8 : (Try.prog.info? 5).map (fun i => (i.zero, i.size, i.bytes)) = some (some (.int .u8 0), 1, 1) := by kernel_rfl
/-- n / 256^j. -/
def shB (n : Int) : Nat → Int
  | 0 => n
  | j + 1 => shB n j / 256
theorem leB_snoc (n : Int) (j : Nat) : leB n (j + 1) = leB n j ++ [shB n j % 256] := by
  have e : ∀ (j : Nat) (n : Int), shB (n / 256) j = shB n (j + 1) := by
    intro j
    induction j with
    | zero => intro n; rfl
    | succ j ih => intro n; show shB (n / 256) j / 256 = shB n (j + 1) / 256; rw [ih]
  induction j generalizing n with
  | zero => rfl
  | succ j ih =>
    show n % 256 :: leB (n / 256) (j + 1) = n % 256 :: (leB (n / 256) j ++ [shB n (j + 1) % 256])
    rw [ih, e]
theorem shB_i64 {n : Int} (h : I64 n) (j : Nat) : I64 (shB n j) := by
  unfold I64 at *
  induction j with
  | zero => exact h
  | succ j ih => show _ ≤ shB n j / 256 ∧ shB n j / 256 ≤ _; omega
set_option maxHeartbeats 1000000 in
theorem number_any (n : Int) (k : Nat) (w : World) (hn : I64 n) (hk : k ≤ 8) : Calls Try.prog 78 #[.int .i64 n, .int .i64 (k : Int)] w fun e w' => ∃ v, e = .returned v ∧ RowI w' w.heap.size 5 .u8 v (leB n k) ∧ Below w.heap.size w w' := by
  obtain ⟨i0, hi0, hz0, hz1, hz2⟩ := info_parts info_u8
  have HN := Lib.hid hn
  clear hn
  go_enter Try.func78, Try.ntmps78
  go_wp2_with fail
  go_loopw [0, 5, 7] (fun m v i wr => ∃ j : Nat, j ≤ k ∧ m = .int .i64 (shB n j) ∧ i = .int .i64 j ∧ RowI wr w.heap.size 5 .u8 v (leB n j) ∧ Below w.heap.size w wr) (fun _ _ i _ => k - (intOf i).toNat)
  case atStart => exact ⟨0, Nat.zero_le _, rfl, rfl, RowI.nil _ _ _ _, Below.refl _ _⟩
  case round =>
    obtain ⟨j, hj, rfl, rfl, hrow, hb⟩ := hrel
    have hsz := hb.size
    have HB := Lib.hid hb
    clear hb
    by_cases hlt : j < k
    · have HS := Lib.hid (leB_snoc n j)
      have HT : Hid (shB n (j + 1) = shB n j / 256) := rfl
      have hq := shB_i64 HN.out j
      unfold I64 at hq
      have htl := leB_length n j
      generalize shB n j = m at *
      generalize leB n j = l at *
      obtain ⟨va, vc, rfl⟩ := hrow.shape
      unfold RowI at hrow
      rw [htl] at hrow ⊢
      have HO0 := Lib.hid hrow
      have HTL := Lib.hid htl
      obtain ⟨q1, q2⟩ := hq
      clear htl hrow
      go_wp2_with (at_builtin; refine wpList_append_own _ rfl _ _ 22 rfl w.heap.size 5 i0 (.int .u8 0) 1 1 Try.underlying22 hi0 hz0 hz1 hz2 rfl (by decide) _ _ _ rfl (HO0.out.alloc _) ⟨wr.heap.size, 0, none⟩ 1 1 [.int .u8 (m % 256)] rfl rfl ?c1 ?c2 ?c3 ?c4 ?c5 ?_)
      case c1 =>
        intro i u h
        rcases i with _ | i
        · cases h; simp [go_sem, Addr.add]
        · cases h
      case c2 => simp [Value.oneCell']
      case c3 => unfold maxLen; omega
      case c4 => omega
      case c5 => simp; omega
      intro v' w1 hown' hgrow _
      have HO := Lib.hid hown'
      have HG := Lib.hid hgrow
      clear hown' hgrow
      go_wp2_with fail
      go_roundw
      case rel => exact ⟨j + 1, by omega, by rw [HT.out], by go_num, RowI.app1 HO.out HTL.out HS.out, (HB.out.alloc (by omega) _).grown HG.out (by simp; omega) (own_ge HO0.out)⟩
      case measure => simp [intOf]; omega
    · obtain rfl : j = k := by omega
      go_wp2_with fail
      go_ret
      exact ⟨_, rfl, hrow, HB.out⟩
end Go.Proofs.Ytdojafpjipcbjaa
namespace Go.Proofs.Ytdojafpjipcbjaa
open Go.RowKit
set_option linter.unusedVariables false
set_option linter.unusedSimpArgs false
theorem RowI.lit (w : World) (cs : Array Value) (xs : List Int) (k : IntKind) (e : TypeId) (base n : Nat) (hb : base ≤ w.heap.size) (hc : cs.toList = xs.map (Value.int k)) (hn : n = xs.length) (hm : xs.length ≤ maxLen) :
    RowI (w.alloc (.cells cs e)) base e k (.slice (some ⟨w.heap.size, 0, none⟩) n n) xs := by
  subst hn
  have h := World.ownsRow_lit (base := base) (e := e) (size := 1) w cs xs.length hb hm (by rw [← Array.length_toList, hc, List.length_map, Nat.mul_one])
  unfold RowI
  rw [← hc]
  exact h
set_option maxHeartbeats 1000000 in
theorem mm_any (r m i : Int) (w : World) (hi : I64 i) : Calls Try.prog 118 #[.int .i64 r, .int .i64 m, .int .i64 i] w fun e w' => ∃ v, e = .returned v ∧ RowI w' w.heap.size 5 .u8 v (mmB r m i) ∧ Below w.heap.size w w' := by
  obtain ⟨i0, hi0, hz0, hz1, hz2⟩ := info_parts info_u8
  have HI := Lib.hid hi
  clear hi
  have HR0 : Hid (∀ x, RowI (w.alloc (.cells #[.int .u8 x] 5)) w.heap.size 5 .u8 (.slice (some ⟨w.heap.size, 0, none⟩) 1 1) [x]) := fun x => RowI.lit w #[.int .u8 x] [x] .u8 5 w.heap.size 1 (Nat.le_refl _) rfl rfl (by unfold maxLen; simp)
  have C4 : Hid (∀ w, Calls Try.prog 78 #[.int .i64 i, .int .i64 4] w fun e w' => ∃ v, e = .returned v ∧ RowI w' w.heap.size 5 .u8 v (leB i 4) ∧ Below w.heap.size w w') := fun w => number_any i 4 w HI.out (by decide)
  go_enter Try.func118, Try.ntmps118
  go_wp2_with fail
  refine (C4.out _).mono ?_
  rintro e w2 ⟨v2, rfl, hr2, hb2⟩
  have HR1 := Lib.hid (RowI.below (HR0.out _) hb2)
  clear HR0
  obtain ⟨a2, c2, rfl⟩ := hr2.shape
  have hi2 := hr2.ints (by rw [leB_length]; decide)
  have hl2 := leB_length i 4
  have HL2 := Lib.hid hl2
  have hsz : w.heap.size + 1 ≤ w2.heap.size := by have := hb2.size; simpa using this
  have HB2 := Lib.hid (below_box hb2)
  obtain ⟨b2, q2, ea, _⟩ := hi2.row (by rw [hl2]; decide)
  subst ea
  rw [hl2] at hi2
  have HN2 := Lib.hid hi2.newsK
  clear hr2 hi2 hl2 hb2
  rw [HL2.out]
  go_wp2_with (at_builtin; refine wpList_append_own_at _ rfl _ _ 22 rfl w.heap.size 5 i0 (.int .u8 0) 1 1 Try.underlying22 hi0 hz0 hz1 hz2 rfl (by decide) _ 1 _ rfl HR1.out ⟨b2, q2, none⟩ 4 c2 ((leB i 4).map (Value.int .u8)) rfl ?c0 HN2.out ?c2 ?c3 ?c4 ?c5 ?_)
  case c0 => rw [List.length_map, HL2.out]
  case c2 => intro u hu; obtain ⟨x, _, rfl⟩ := List.mem_map.1 hu; rfl
  case c3 => unfold maxLen; decide
  case c4 => decide
  case c5 => omega
  intro v' w3 hown' hgrow _ _
  have HO := Lib.hid hown'
  have HG := Lib.hid hgrow
  clear hown' hgrow
  go_wp2_with fail
  go_ret
  refine ⟨_, rfl, RowI.app (xs := [_]) (ys := leB i 4) HO.out (by rw [HL2.out]; rfl) (by unfold mmB; simp only [List.cons_append, List.nil_append, List.cons.injEq, and_true]; unfold wrap64; omega), (HB2.out).grown HG.out (by omega) (own_ge HR1.out)⟩
end Go.Proofs.Ytdojafpjipcbjaa
namespace Go.Proofs.Ytdojafpjipcbjaa
open Go.RowKit
set_option linter.unusedVariables false
set_option linter.unusedSimpArgs false
/-- An instruction as a value. -/
def InsV (x : Ins) : Value := .agg #[.int .i64 x.o, .int .i64 x.d, .int .i64 x.s, .int .i64 x.z, .int .i64 x.i]
theorem fit_pair (o d s z i : Int) (w : World) : Calls Try.prog 111 #[.agg #[.int .i64 o, .int .i64 d, .int .i64 s, .int .i64 z, .int .i64 i]] w fun e w' => e = .returned (.bool ((isR d) && ((isR s) && (i == 0)))) ∧ Below w.heap.size w w' := by
  have HB := Lib.hid ((Below.refl w.heap.size w).alloc (Nat.le_refl _) (.cells #[.int .i64 o, .int .i64 d, .int .i64 s, .int .i64 z, .int .i64 i] 25))
  have C0 := Lib.hid (fun w => isReg_any d w)
  have C1 := Lib.hid (fun w => isReg_any s w)
  cases h0 : (isR d)
  · rw [h0] at C0
    clear h0
    go_enter Try.func111, Try.ntmps111
    go_wp2_with (first | ((go_at_call 75; first | (with_reducible refine (C0.out _).mono ?_) | (with_reducible refine (C1.out _).mono ?_)); rintro e w' ⟨rfl, rfl⟩))
    go_ret
    exact ⟨rfl, HB.out⟩
  · rw [h0] at C0
    clear h0
    cases h1 : (isR s)
    · rw [h1] at C1
      clear h1
      go_enter Try.func111, Try.ntmps111
      go_wp2_with (first | ((go_at_call 75; first | (with_reducible refine (C0.out _).mono ?_) | (with_reducible refine (C1.out _).mono ?_)); rintro e w' ⟨rfl, rfl⟩))
      go_ret
      exact ⟨rfl, HB.out⟩
    · rw [h1] at C1
      clear h1
      go_enter Try.func111, Try.ntmps111
      go_wp2_with (first | ((go_at_call 75; first | (with_reducible refine (C0.out _).mono ?_) | (with_reducible refine (C1.out _).mono ?_)); rintro e w' ⟨rfl, rfl⟩))
      go_ret
      exact ⟨rfl, HB.out⟩
theorem fit_mul (o d s z i : Int) (w : World) : Calls Try.prog 84 #[.agg #[.int .i64 o, .int .i64 d, .int .i64 s, .int .i64 z, .int .i64 i]] w fun e w' => e = .returned (.bool ((isR d) && ((isR s) && (i == 0)))) ∧ Below w.heap.size w w' := by
  have HB := Lib.hid ((Below.refl w.heap.size w).alloc (Nat.le_refl _) (.cells #[.int .i64 o, .int .i64 d, .int .i64 s, .int .i64 z, .int .i64 i] 25))
  have C0 := Lib.hid (fun w => isReg_any d w)
  have C1 := Lib.hid (fun w => isReg_any s w)
  cases h0 : (isR d)
  · rw [h0] at C0
    clear h0
    go_enter Try.func84, Try.ntmps84
    go_wp2_with (first | ((go_at_call 75; first | (with_reducible refine (C0.out _).mono ?_) | (with_reducible refine (C1.out _).mono ?_)); rintro e w' ⟨rfl, rfl⟩))
    go_ret
    exact ⟨rfl, HB.out⟩
  · rw [h0] at C0
    clear h0
    cases h1 : (isR s)
    · rw [h1] at C1
      clear h1
      go_enter Try.func84, Try.ntmps84
      go_wp2_with (first | ((go_at_call 75; first | (with_reducible refine (C0.out _).mono ?_) | (with_reducible refine (C1.out _).mono ?_)); rintro e w' ⟨rfl, rfl⟩))
      go_ret
      exact ⟨rfl, HB.out⟩
    · rw [h1] at C1
      clear h1
      go_enter Try.func84, Try.ntmps84
      go_wp2_with (first | ((go_at_call 75; first | (with_reducible refine (C0.out _).mono ?_) | (with_reducible refine (C1.out _).mono ?_)); rintro e w' ⟨rfl, rfl⟩))
      go_ret
      exact ⟨rfl, HB.out⟩
theorem fit_load (o d s z i : Int) (w : World) : Calls Try.prog 113 #[.agg #[.int .i64 o, .int .i64 d, .int .i64 s, .int .i64 z, .int .i64 i]] w fun e w' => e = .returned (.bool ((isR d) && ((isM s) && (isW4 i)))) ∧ Below w.heap.size w w' := by
  have HB := Lib.hid ((Below.refl w.heap.size w).alloc (Nat.le_refl _) (.cells #[.int .i64 o, .int .i64 d, .int .i64 s, .int .i64 z, .int .i64 i] 25))
  have C0 := Lib.hid (fun w => isReg_any d w)
  have C1 := Lib.hid (fun w => isMemory_any s w)
  have C2 := Lib.hid (fun w => isWide_any i w)
  cases h0 : (isR d)
  · rw [h0] at C0
    clear h0
    go_enter Try.func113, Try.ntmps113
    go_wp2_with (first | ((go_at_call 75; (with_reducible refine (C0.out _).mono ?_)); rintro e w' ⟨rfl, rfl⟩) | ((go_at_call 114; (with_reducible refine (C1.out _).mono ?_)); rintro e w' ⟨rfl, rfl⟩) | ((go_at_call 115; (with_reducible refine (C2.out _).mono ?_)); rintro e w' ⟨rfl, rfl⟩))
    go_ret
    exact ⟨rfl, HB.out⟩
  · rw [h0] at C0
    clear h0
    cases h1 : (isM s)
    · rw [h1] at C1
      clear h1
      go_enter Try.func113, Try.ntmps113
      go_wp2_with (first | ((go_at_call 75; (with_reducible refine (C0.out _).mono ?_)); rintro e w' ⟨rfl, rfl⟩) | ((go_at_call 114; (with_reducible refine (C1.out _).mono ?_)); rintro e w' ⟨rfl, rfl⟩) | ((go_at_call 115; (with_reducible refine (C2.out _).mono ?_)); rintro e w' ⟨rfl, rfl⟩))
      go_ret
      exact ⟨rfl, HB.out⟩
    · rw [h1] at C1
      clear h1
      go_enter Try.func113, Try.ntmps113
      go_wp2_with (first | ((go_at_call 75; (with_reducible refine (C0.out _).mono ?_)); rintro e w' ⟨rfl, rfl⟩) | ((go_at_call 114; (with_reducible refine (C1.out _).mono ?_)); rintro e w' ⟨rfl, rfl⟩) | ((go_at_call 115; (with_reducible refine (C2.out _).mono ?_)); rintro e w' ⟨rfl, rfl⟩))
      go_ret
      exact ⟨rfl, HB.out⟩
theorem fit_single (o d s z i : Int) (w : World) : Calls Try.prog 124 #[.agg #[.int .i64 o, .int .i64 d, .int .i64 s, .int .i64 z, .int .i64 i]] w fun e w' => e = .returned (.bool ((isR d) && ((s == 0) && (i == 0)))) ∧ Below w.heap.size w w' := by
  have HB := Lib.hid ((Below.refl w.heap.size w).alloc (Nat.le_refl _) (.cells #[.int .i64 o, .int .i64 d, .int .i64 s, .int .i64 z, .int .i64 i] 25))
  have C0 := Lib.hid (fun w => isReg_any d w)
  cases h0 : (isR d)
  · rw [h0] at C0
    clear h0
    go_enter Try.func124, Try.ntmps124
    go_wp2_with (first | ((go_at_call 75; (with_reducible refine (C0.out _).mono ?_)); rintro e w' ⟨rfl, rfl⟩))
    go_ret
    exact ⟨rfl, HB.out⟩
  · rw [h0] at C0
    clear h0
    cases h1 : (s == 0)
    · skip
      go_enter Try.func124, Try.ntmps124
      go_wp2_with (first | ((go_at_call 75; (with_reducible refine (C0.out _).mono ?_)); rintro e w' ⟨rfl, rfl⟩))
      go_ret
      exact ⟨rfl, HB.out⟩
    · skip
      go_enter Try.func124, Try.ntmps124
      go_wp2_with (first | ((go_at_call 75; (with_reducible refine (C0.out _).mono ?_)); rintro e w' ⟨rfl, rfl⟩))
      go_ret
      exact ⟨rfl, HB.out⟩
theorem fit_bare (o d s z i : Int) (w : World) : Calls Try.prog 126 #[.agg #[.int .i64 o, .int .i64 d, .int .i64 s, .int .i64 z, .int .i64 i]] w fun e w' => e = .returned (.bool ((d == 0) && ((s == 0) && (i == 0)))) ∧ Below w.heap.size w w' := by
  have HB := Lib.hid ((Below.refl w.heap.size w).alloc (Nat.le_refl _) (.cells #[.int .i64 o, .int .i64 d, .int .i64 s, .int .i64 z, .int .i64 i] 25))
  cases h0 : (d == 0)
  · skip
    go_enter Try.func126, Try.ntmps126
    go_wp2_with fail
    go_ret
    exact ⟨rfl, HB.out⟩
  · skip
    cases h1 : (s == 0)
    · skip
      go_enter Try.func126, Try.ntmps126
      go_wp2_with fail
      go_ret
      exact ⟨rfl, HB.out⟩
    · skip
      go_enter Try.func126, Try.ntmps126
      go_wp2_with fail
      go_ret
      exact ⟨rfl, HB.out⟩
theorem fit_set (o d s z i : Int) (w : World) : Calls Try.prog 89 #[.agg #[.int .i64 o, .int .i64 d, .int .i64 s, .int .i64 z, .int .i64 i]] w fun e w' => e = .returned (.bool ((isL d) && ((isC s) && (i == 0)))) ∧ Below w.heap.size w w' := by
  have HB := Lib.hid ((Below.refl w.heap.size w).alloc (Nat.le_refl _) (.cells #[.int .i64 o, .int .i64 d, .int .i64 s, .int .i64 z, .int .i64 i] 25))
  have C0 := Lib.hid (fun w => isLow_any d w)
  have C1 := Lib.hid (fun w => isCond_any s w)
  cases h0 : (isL d)
  · rw [h0] at C0
    clear h0
    go_enter Try.func89, Try.ntmps89
    go_wp2_with (first | ((go_at_call 82; (with_reducible refine (C0.out _).mono ?_)); rintro e w' ⟨rfl, rfl⟩) | ((go_at_call 32; (with_reducible refine (C1.out _).mono ?_)); rintro e w' ⟨rfl, rfl⟩))
    go_ret
    exact ⟨rfl, HB.out⟩
  · rw [h0] at C0
    clear h0
    cases h1 : (isC s)
    · rw [h1] at C1
      clear h1
      go_enter Try.func89, Try.ntmps89
      go_wp2_with (first | ((go_at_call 82; (with_reducible refine (C0.out _).mono ?_)); rintro e w' ⟨rfl, rfl⟩) | ((go_at_call 32; (with_reducible refine (C1.out _).mono ?_)); rintro e w' ⟨rfl, rfl⟩))
      go_ret
      exact ⟨rfl, HB.out⟩
    · rw [h1] at C1
      clear h1
      go_enter Try.func89, Try.ntmps89
      go_wp2_with (first | ((go_at_call 82; (with_reducible refine (C0.out _).mono ?_)); rintro e w' ⟨rfl, rfl⟩) | ((go_at_call 32; (with_reducible refine (C1.out _).mono ?_)); rintro e w' ⟨rfl, rfl⟩))
      go_ret
      exact ⟨rfl, HB.out⟩
theorem fit_zero (o d s z i : Int) (w : World) : Calls Try.prog 91 #[.agg #[.int .i64 o, .int .i64 d, .int .i64 s, .int .i64 z, .int .i64 i]] w fun e w' => e = .returned (.bool ((isR d) && ((isL s) && (i == 0)))) ∧ Below w.heap.size w w' := by
  have HB := Lib.hid ((Below.refl w.heap.size w).alloc (Nat.le_refl _) (.cells #[.int .i64 o, .int .i64 d, .int .i64 s, .int .i64 z, .int .i64 i] 25))
  have C0 := Lib.hid (fun w => isReg_any d w)
  have C1 := Lib.hid (fun w => isLow_any s w)
  cases h0 : (isR d)
  · rw [h0] at C0
    clear h0
    go_enter Try.func91, Try.ntmps91
    go_wp2_with (first | ((go_at_call 75; (with_reducible refine (C0.out _).mono ?_)); rintro e w' ⟨rfl, rfl⟩) | ((go_at_call 82; (with_reducible refine (C1.out _).mono ?_)); rintro e w' ⟨rfl, rfl⟩))
    go_ret
    exact ⟨rfl, HB.out⟩
  · rw [h0] at C0
    clear h0
    cases h1 : (isL s)
    · rw [h1] at C1
      clear h1
      go_enter Try.func91, Try.ntmps91
      go_wp2_with (first | ((go_at_call 75; (with_reducible refine (C0.out _).mono ?_)); rintro e w' ⟨rfl, rfl⟩) | ((go_at_call 82; (with_reducible refine (C1.out _).mono ?_)); rintro e w' ⟨rfl, rfl⟩))
      go_ret
      exact ⟨rfl, HB.out⟩
    · rw [h1] at C1
      clear h1
      go_enter Try.func91, Try.ntmps91
      go_wp2_with (first | ((go_at_call 75; (with_reducible refine (C0.out _).mono ?_)); rintro e w' ⟨rfl, rfl⟩) | ((go_at_call 82; (with_reducible refine (C1.out _).mono ?_)); rintro e w' ⟨rfl, rfl⟩))
      go_ret
      exact ⟨rfl, HB.out⟩
theorem fit_cmov (o d s z i : Int) (w : World) : Calls Try.prog 93 #[.agg #[.int .i64 o, .int .i64 d, .int .i64 s, .int .i64 z, .int .i64 i]] w fun e w' => e = .returned (.bool ((isR d) && ((isR s) && (isC i)))) ∧ Below w.heap.size w w' := by
  have HB := Lib.hid ((Below.refl w.heap.size w).alloc (Nat.le_refl _) (.cells #[.int .i64 o, .int .i64 d, .int .i64 s, .int .i64 z, .int .i64 i] 25))
  have C0 := Lib.hid (fun w => isReg_any d w)
  have C1 := Lib.hid (fun w => isReg_any s w)
  have C2 := Lib.hid (fun w => isCond_any i w)
  cases h0 : (isR d)
  · rw [h0] at C0
    clear h0
    go_enter Try.func93, Try.ntmps93
    go_wp2_with (first | ((go_at_call 75; first | (with_reducible refine (C0.out _).mono ?_) | (with_reducible refine (C1.out _).mono ?_)); rintro e w' ⟨rfl, rfl⟩) | ((go_at_call 32; (with_reducible refine (C2.out _).mono ?_)); rintro e w' ⟨rfl, rfl⟩))
    go_ret
    exact ⟨rfl, HB.out⟩
  · rw [h0] at C0
    clear h0
    cases h1 : (isR s)
    · rw [h1] at C1
      clear h1
      go_enter Try.func93, Try.ntmps93
      go_wp2_with (first | ((go_at_call 75; first | (with_reducible refine (C0.out _).mono ?_) | (with_reducible refine (C1.out _).mono ?_)); rintro e w' ⟨rfl, rfl⟩) | ((go_at_call 32; (with_reducible refine (C2.out _).mono ?_)); rintro e w' ⟨rfl, rfl⟩))
      go_ret
      exact ⟨rfl, HB.out⟩
    · rw [h1] at C1
      clear h1
      go_enter Try.func93, Try.ntmps93
      go_wp2_with (first | ((go_at_call 75; first | (with_reducible refine (C0.out _).mono ?_) | (with_reducible refine (C1.out _).mono ?_)); rintro e w' ⟨rfl, rfl⟩) | ((go_at_call 32; (with_reducible refine (C2.out _).mono ?_)); rintro e w' ⟨rfl, rfl⟩))
      go_ret
      exact ⟨rfl, HB.out⟩
theorem fit_jcc (o d s z i : Int) (w : World) : Calls Try.prog 98 #[.agg #[.int .i64 o, .int .i64 d, .int .i64 s, .int .i64 z, .int .i64 i]] w fun e w' => e = .returned (.bool (isC s)) ∧ Below w.heap.size w w' := by
  have HB := Lib.hid ((Below.refl w.heap.size w).alloc (Nat.le_refl _) (.cells #[.int .i64 o, .int .i64 d, .int .i64 s, .int .i64 z, .int .i64 i] 25))
  have C0 := Lib.hid (fun w => isCond_any s w)
  go_enter Try.func98, Try.ntmps98
  go_wp2_with (first | ((go_at_call 32; (with_reducible refine (C0.out _).mono ?_)); rintro e w' ⟨rfl, rfl⟩))
  go_ret
  exact ⟨rfl, HB.out⟩
theorem fit_jmp (o d s z i : Int) (w : World) : Calls Try.prog 101 #[.agg #[.int .i64 o, .int .i64 d, .int .i64 s, .int .i64 z, .int .i64 i]] w fun e w' => e = .returned (.bool (s == 0)) ∧ Below w.heap.size w w' := by
  have HB := Lib.hid ((Below.refl w.heap.size w).alloc (Nat.le_refl _) (.cells #[.int .i64 o, .int .i64 d, .int .i64 s, .int .i64 z, .int .i64 i] 25))
  go_enter Try.func101, Try.ntmps101
  go_wp2_with fail
  go_ret
  exact ⟨rfl, HB.out⟩
theorem fit_storeR (o d s z i : Int) (b : Nat) (w : World) (hc : w.cell? ⟨b, 0, none⟩ = some (.func (.func 75) #[] #[])) : Calls Try.prog 119 #[.agg #[.int .i64 o, .int .i64 d, .int .i64 s, .int .i64 z, .int .i64 i], .pointer (some ⟨b, 0, none⟩)] w fun e w' => e = .returned (.bool ((isM d) && ((isR s) && (isW4 i)))) ∧ Below w.heap.size w w' := by
  have HB := Lib.hid ((Below.refl w.heap.size w).alloc (Nat.le_refl _) (.cells #[.int .i64 o, .int .i64 d, .int .i64 s, .int .i64 z, .int .i64 i] 25))
  have C0 := Lib.hid (fun w => isMemory_any d w)
  have C1 := Lib.hid (fun w => isReg_any s w)
  have C2 := Lib.hid (fun w => isWide_any i w)
  have hl := cell_lt hc
  have hn : ¬ b = w.heap.size := by omega
  cases h0 : (isM d)
  · rw [h0] at C0
    clear h0
    go_enter Try.func119, Try.ntmps119
    go_wp2_with (first | ((go_at_call 114; (with_reducible refine (C0.out _).mono ?_)); rintro e w' ⟨rfl, rfl⟩) | ((go_at_call 75; (with_reducible refine (C1.out _).mono ?_)); rintro e w' ⟨rfl, rfl⟩) | ((go_at_call 115; (with_reducible refine (C2.out _).mono ?_)); rintro e w' ⟨rfl, rfl⟩))
    go_ret
    exact ⟨rfl, HB.out⟩
  · rw [h0] at C0
    clear h0
    cases h1 : (isR s)
    · rw [h1] at C1
      clear h1
      go_enter Try.func119, Try.ntmps119
      go_wp2_with (first | ((go_at_call 114; (with_reducible refine (C0.out _).mono ?_)); rintro e w' ⟨rfl, rfl⟩) | ((go_at_call 75; (with_reducible refine (C1.out _).mono ?_)); rintro e w' ⟨rfl, rfl⟩) | ((go_at_call 115; (with_reducible refine (C2.out _).mono ?_)); rintro e w' ⟨rfl, rfl⟩))
      go_ret
      exact ⟨rfl, HB.out⟩
    · rw [h1] at C1
      clear h1
      go_enter Try.func119, Try.ntmps119
      go_wp2_with (first | ((go_at_call 114; (with_reducible refine (C0.out _).mono ?_)); rintro e w' ⟨rfl, rfl⟩) | ((go_at_call 75; (with_reducible refine (C1.out _).mono ?_)); rintro e w' ⟨rfl, rfl⟩) | ((go_at_call 115; (with_reducible refine (C2.out _).mono ?_)); rintro e w' ⟨rfl, rfl⟩))
      go_ret
      exact ⟨rfl, HB.out⟩
theorem fit_storeL (o d s z i : Int) (b : Nat) (w : World) (hc : w.cell? ⟨b, 0, none⟩ = some (.func (.func 82) #[] #[])) : Calls Try.prog 119 #[.agg #[.int .i64 o, .int .i64 d, .int .i64 s, .int .i64 z, .int .i64 i], .pointer (some ⟨b, 0, none⟩)] w fun e w' => e = .returned (.bool ((isM d) && ((isL s) && (isW4 i)))) ∧ Below w.heap.size w w' := by
  have HB := Lib.hid ((Below.refl w.heap.size w).alloc (Nat.le_refl _) (.cells #[.int .i64 o, .int .i64 d, .int .i64 s, .int .i64 z, .int .i64 i] 25))
  have C0 := Lib.hid (fun w => isMemory_any d w)
  have C1 := Lib.hid (fun w => isLow_any s w)
  have C2 := Lib.hid (fun w => isWide_any i w)
  have hl := cell_lt hc
  have hn : ¬ b = w.heap.size := by omega
  cases h0 : (isM d)
  · rw [h0] at C0
    clear h0
    go_enter Try.func119, Try.ntmps119
    go_wp2_with (first | ((go_at_call 114; (with_reducible refine (C0.out _).mono ?_)); rintro e w' ⟨rfl, rfl⟩) | ((go_at_call 82; (with_reducible refine (C1.out _).mono ?_)); rintro e w' ⟨rfl, rfl⟩) | ((go_at_call 115; (with_reducible refine (C2.out _).mono ?_)); rintro e w' ⟨rfl, rfl⟩))
    go_ret
    exact ⟨rfl, HB.out⟩
  · rw [h0] at C0
    clear h0
    cases h1 : (isL s)
    · rw [h1] at C1
      clear h1
      go_enter Try.func119, Try.ntmps119
      go_wp2_with (first | ((go_at_call 114; (with_reducible refine (C0.out _).mono ?_)); rintro e w' ⟨rfl, rfl⟩) | ((go_at_call 82; (with_reducible refine (C1.out _).mono ?_)); rintro e w' ⟨rfl, rfl⟩) | ((go_at_call 115; (with_reducible refine (C2.out _).mono ?_)); rintro e w' ⟨rfl, rfl⟩))
      go_ret
      exact ⟨rfl, HB.out⟩
    · rw [h1] at C1
      clear h1
      go_enter Try.func119, Try.ntmps119
      go_wp2_with (first | ((go_at_call 114; (with_reducible refine (C0.out _).mono ?_)); rintro e w' ⟨rfl, rfl⟩) | ((go_at_call 82; (with_reducible refine (C1.out _).mono ?_)); rintro e w' ⟨rfl, rfl⟩) | ((go_at_call 115; (with_reducible refine (C2.out _).mono ?_)); rintro e w' ⟨rfl, rfl⟩))
      go_ret
      exact ⟨rfl, HB.out⟩
theorem fit_num_32 (o d s i : Int) (w : World) : Calls Try.prog 121 #[.agg #[.int .i64 o, .int .i64 d, .int .i64 s, .int .i64 32, .int .i64 i]] w fun e w' => e = .returned (.bool (isR d && ((s == 0) && inZ i 32))) ∧ Below w.heap.size w w' := by
  have HB := Lib.hid ((Below.refl w.heap.size w).alloc (Nat.le_refl _) (.cells #[.int .i64 o, .int .i64 d, .int .i64 s, .int .i64 32, .int .i64 i] 25))
  have C0 := Lib.hid (fun w => isReg_any d w)
  have C1 : Hid (∀ w, Calls Try.prog 76 #[.int .i64 i, .int .i64 0, .int .i64 4294967295] w fun e w' => e = .returned (.bool (inZ i 32)) ∧ w = w') := fun w => within_ia i 0 4294967295 w
  generalize inZ i 32 = q at *
  cases h0 : isR d
  · rw [h0] at C0
    clear h0
    go_enter Try.func121, Try.ntmps121
    go_wp2_with fail
    go_quiet ((first | (go_at_call 75; exact quiet_same (C0.out _)) | (go_at_call 76; exact quiet_same (C1.out _))))
    go_wp2_with fail
    go_ret
    exact ⟨rfl, below_drewN HB.out _⟩
  · rw [h0] at C0
    clear h0
    cases h1 : (s == 0)
    · go_enter Try.func121, Try.ntmps121
      go_wp2_with fail
      go_quiet ((first | (go_at_call 75; exact quiet_same (C0.out _)) | (go_at_call 76; exact quiet_same (C1.out _))))
      go_wp2_with fail
      go_ret
      exact ⟨rfl, below_drewN HB.out _⟩
    · go_enter Try.func121, Try.ntmps121
      go_wp2_with fail
      go_quiet ((first | (go_at_call 75; exact quiet_same (C0.out _)) | (go_at_call 76; exact quiet_same (C1.out _))))
      go_wp2_with fail
      go_ret
      exact ⟨rfl, below_drewN HB.out _⟩
theorem fit_num_16 (o d s i : Int) (w : World) : Calls Try.prog 121 #[.agg #[.int .i64 o, .int .i64 d, .int .i64 s, .int .i64 16, .int .i64 i]] w fun e w' => e = .returned (.bool (isR d && ((s == 0) && inZ i 16))) ∧ Below w.heap.size w w' := by
  have HB := Lib.hid ((Below.refl w.heap.size w).alloc (Nat.le_refl _) (.cells #[.int .i64 o, .int .i64 d, .int .i64 s, .int .i64 16, .int .i64 i] 25))
  have C0 := Lib.hid (fun w => isReg_any d w)
  have C1 : Hid (∀ w, Calls Try.prog 76 #[.int .i64 i, .int .i64 0, .int .i64 65535] w fun e w' => e = .returned (.bool (inZ i 16)) ∧ w = w') := fun w => within_ia i 0 65535 w
  generalize inZ i 16 = q at *
  cases h0 : isR d
  · rw [h0] at C0
    clear h0
    go_enter Try.func121, Try.ntmps121
    go_wp2_with fail
    go_quiet ((first | (go_at_call 75; exact quiet_same (C0.out _)) | (go_at_call 76; exact quiet_same (C1.out _))))
    go_wp2_with fail
    go_ret
    exact ⟨rfl, below_drewN HB.out _⟩
  · rw [h0] at C0
    clear h0
    cases h1 : (s == 0)
    · go_enter Try.func121, Try.ntmps121
      go_wp2_with fail
      go_quiet ((first | (go_at_call 75; exact quiet_same (C0.out _)) | (go_at_call 76; exact quiet_same (C1.out _))))
      go_wp2_with fail
      go_ret
      exact ⟨rfl, below_drewN HB.out _⟩
    · go_enter Try.func121, Try.ntmps121
      go_wp2_with fail
      go_quiet ((first | (go_at_call 75; exact quiet_same (C0.out _)) | (go_at_call 76; exact quiet_same (C1.out _))))
      go_wp2_with fail
      go_ret
      exact ⟨rfl, below_drewN HB.out _⟩
theorem fit_movi_32 (o d s i : Int) (w : World) : Calls Try.prog 74 #[.agg #[.int .i64 o, .int .i64 d, .int .i64 s, .int .i64 32, .int .i64 i]] w fun e w' => e = .returned (.bool (isR d && ((s == 0) && inZ i 32))) ∧ Below w.heap.size w w' := by
  have HB := Lib.hid ((Below.refl w.heap.size w).alloc (Nat.le_refl _) (.cells #[.int .i64 o, .int .i64 d, .int .i64 s, .int .i64 32, .int .i64 i] 25))
  have C0 := Lib.hid (fun w => isReg_any d w)
  have C1 : Hid (∀ w, Calls Try.prog 76 #[.int .i64 i, .int .i64 0, .int .i64 4294967295] w fun e w' => e = .returned (.bool (inZ i 32)) ∧ w = w') := fun w => within_ia i 0 4294967295 w
  generalize inZ i 32 = q at *
  cases h0 : isR d
  · rw [h0] at C0
    clear h0
    go_enter Try.func74, Try.ntmps74
    go_wp2_with fail
    go_quiet ((first | (go_at_call 75; exact quiet_same (C0.out _)) | (go_at_call 76; exact quiet_same (C1.out _))))
    go_wp2_with fail
    go_ret
    exact ⟨rfl, below_drewN HB.out _⟩
  · rw [h0] at C0
    clear h0
    cases h1 : (s == 0)
    · go_enter Try.func74, Try.ntmps74
      go_wp2_with fail
      go_quiet ((first | (go_at_call 75; exact quiet_same (C0.out _)) | (go_at_call 76; exact quiet_same (C1.out _))))
      go_wp2_with fail
      go_ret
      exact ⟨rfl, below_drewN HB.out _⟩
    · go_enter Try.func74, Try.ntmps74
      go_wp2_with fail
      go_quiet ((first | (go_at_call 75; exact quiet_same (C0.out _)) | (go_at_call 76; exact quiet_same (C1.out _))))
      go_wp2_with fail
      go_ret
      exact ⟨rfl, below_drewN HB.out _⟩
theorem fit_movi_16 (o d s i : Int) (w : World) : Calls Try.prog 74 #[.agg #[.int .i64 o, .int .i64 d, .int .i64 s, .int .i64 16, .int .i64 i]] w fun e w' => e = .returned (.bool (isR d && ((s == 0) && inZ i 16))) ∧ Below w.heap.size w w' := by
  have HB := Lib.hid ((Below.refl w.heap.size w).alloc (Nat.le_refl _) (.cells #[.int .i64 o, .int .i64 d, .int .i64 s, .int .i64 16, .int .i64 i] 25))
  have C0 := Lib.hid (fun w => isReg_any d w)
  have C1 : Hid (∀ w, Calls Try.prog 76 #[.int .i64 i, .int .i64 0, .int .i64 65535] w fun e w' => e = .returned (.bool (inZ i 16)) ∧ w = w') := fun w => within_ia i 0 65535 w
  generalize inZ i 16 = q at *
  cases h0 : isR d
  · rw [h0] at C0
    clear h0
    go_enter Try.func74, Try.ntmps74
    go_wp2_with fail
    go_quiet ((first | (go_at_call 75; exact quiet_same (C0.out _)) | (go_at_call 76; exact quiet_same (C1.out _))))
    go_wp2_with fail
    go_ret
    exact ⟨rfl, below_drewN HB.out _⟩
  · rw [h0] at C0
    clear h0
    cases h1 : (s == 0)
    · go_enter Try.func74, Try.ntmps74
      go_wp2_with fail
      go_quiet ((first | (go_at_call 75; exact quiet_same (C0.out _)) | (go_at_call 76; exact quiet_same (C1.out _))))
      go_wp2_with fail
      go_ret
      exact ⟨rfl, below_drewN HB.out _⟩
    · go_enter Try.func74, Try.ntmps74
      go_wp2_with fail
      go_quiet ((first | (go_at_call 75; exact quiet_same (C0.out _)) | (go_at_call 76; exact quiet_same (C1.out _))))
      go_wp2_with fail
      go_ret
      exact ⟨rfl, below_drewN HB.out _⟩
theorem fit_jumpC_8 (o d s i : Int) (b : Nat) (w : World) (hc : w.cell? ⟨b, 0, none⟩ = some (.func (.func 98) #[] #[])) : Calls Try.prog 128 #[.agg #[.int .i64 o, .int .i64 d, .int .i64 s, .int .i64 8, .int .i64 i], .pointer (some ⟨b, 0, none⟩)] w fun e w' => e = .returned (.bool ((d == 0) && ((isC s) && isB i))) ∧ Below w.heap.size w w' := by
  have hl := cell_lt hc
  have hn : ¬ b = w.heap.size := by omega
  have HB := Lib.hid ((Below.refl w.heap.size w).alloc (Nat.le_refl _) (.cells #[.int .i64 o, .int .i64 d, .int .i64 s, .int .i64 8, .int .i64 i] 25))
  have C0 := Lib.hid (fun w => fit_jcc o d s 8 i w)
  have C1 : Hid (∀ w, Calls Try.prog 76 #[.int .i64 i, .int .i64 (-128), .int .i64 127] w fun e w' => e = .returned (.bool (isB i)) ∧ w = w') := fun w => within_ia i (-128) 127 w
  have C2 := Lib.hid (fun w => isWide_any i w)
  cases h0 : (d == 0)
  · go_enter Try.func128, Try.ntmps128
    go_wp2_with (first | ((go_at_call 98; with_reducible refine (C0.out _).mono ?_); rintro e w1 ⟨rfl, hb⟩; have q3 : w1.cell? ⟨w.heap.size, 3, none⟩ = some (.int .i64 8) := box_kept hb 3; have q4 : w1.cell? ⟨w.heap.size, 4, none⟩ = some (.int .i64 i) := box_kept hb 4) | ((go_at_call 76; with_reducible refine (C1.out _).mono ?_); rintro e w' ⟨rfl, rfl⟩) | ((go_at_call 115; with_reducible refine (C2.out _).mono ?_); rintro e w' ⟨rfl, rfl⟩))
    go_ret
    exact ⟨rfl, HB.out⟩
  · cases h1 : (isC s)
    · rw [h1] at C0
      clear h1
      go_enter Try.func128, Try.ntmps128
      go_wp2_with (first | ((go_at_call 98; with_reducible refine (C0.out _).mono ?_); rintro e w1 ⟨rfl, hb⟩; have q3 : w1.cell? ⟨w.heap.size, 3, none⟩ = some (.int .i64 8) := box_kept hb 3; have q4 : w1.cell? ⟨w.heap.size, 4, none⟩ = some (.int .i64 i) := box_kept hb 4) | ((go_at_call 76; with_reducible refine (C1.out _).mono ?_); rintro e w' ⟨rfl, rfl⟩) | ((go_at_call 115; with_reducible refine (C2.out _).mono ?_); rintro e w' ⟨rfl, rfl⟩))
      go_ret
      exact ⟨rfl, HB.out.trans (hb.mono (by simp))⟩
    · rw [h1] at C0
      clear h1
      cases h2 : isB i
      · rw [h2] at C1
        clear h2
        go_enter Try.func128, Try.ntmps128
        go_wp2_with (first | ((go_at_call 98; with_reducible refine (C0.out _).mono ?_); rintro e w1 ⟨rfl, hb⟩; have q3 : w1.cell? ⟨w.heap.size, 3, none⟩ = some (.int .i64 8) := box_kept hb 3; have q4 : w1.cell? ⟨w.heap.size, 4, none⟩ = some (.int .i64 i) := box_kept hb 4) | ((go_at_call 76; with_reducible refine (C1.out _).mono ?_); rintro e w' ⟨rfl, rfl⟩) | ((go_at_call 115; with_reducible refine (C2.out _).mono ?_); rintro e w' ⟨rfl, rfl⟩))
        go_ret
        exact ⟨rfl, HB.out.trans (hb.mono (by simp))⟩
      · rw [h2] at C1
        clear h2
        go_enter Try.func128, Try.ntmps128
        go_wp2_with (first | ((go_at_call 98; with_reducible refine (C0.out _).mono ?_); rintro e w1 ⟨rfl, hb⟩; have q3 : w1.cell? ⟨w.heap.size, 3, none⟩ = some (.int .i64 8) := box_kept hb 3; have q4 : w1.cell? ⟨w.heap.size, 4, none⟩ = some (.int .i64 i) := box_kept hb 4) | ((go_at_call 76; with_reducible refine (C1.out _).mono ?_); rintro e w' ⟨rfl, rfl⟩) | ((go_at_call 115; with_reducible refine (C2.out _).mono ?_); rintro e w' ⟨rfl, rfl⟩))
        go_ret
        exact ⟨rfl, HB.out.trans (hb.mono (by simp))⟩
theorem fit_jumpC_32 (o d s i : Int) (b : Nat) (w : World) (hc : w.cell? ⟨b, 0, none⟩ = some (.func (.func 98) #[] #[])) : Calls Try.prog 128 #[.agg #[.int .i64 o, .int .i64 d, .int .i64 s, .int .i64 32, .int .i64 i], .pointer (some ⟨b, 0, none⟩)] w fun e w' => e = .returned (.bool ((d == 0) && ((isC s) && isW4 i))) ∧ Below w.heap.size w w' := by
  have hl := cell_lt hc
  have hn : ¬ b = w.heap.size := by omega
  have HB := Lib.hid ((Below.refl w.heap.size w).alloc (Nat.le_refl _) (.cells #[.int .i64 o, .int .i64 d, .int .i64 s, .int .i64 32, .int .i64 i] 25))
  have C0 := Lib.hid (fun w => fit_jcc o d s 32 i w)
  have C1 : Hid (∀ w, Calls Try.prog 76 #[.int .i64 i, .int .i64 (-128), .int .i64 127] w fun e w' => e = .returned (.bool (isB i)) ∧ w = w') := fun w => within_ia i (-128) 127 w
  have C2 := Lib.hid (fun w => isWide_any i w)
  cases h0 : (d == 0)
  · go_enter Try.func128, Try.ntmps128
    go_wp2_with (first | ((go_at_call 98; with_reducible refine (C0.out _).mono ?_); rintro e w1 ⟨rfl, hb⟩; have q3 : w1.cell? ⟨w.heap.size, 3, none⟩ = some (.int .i64 32) := box_kept hb 3; have q4 : w1.cell? ⟨w.heap.size, 4, none⟩ = some (.int .i64 i) := box_kept hb 4) | ((go_at_call 76; with_reducible refine (C1.out _).mono ?_); rintro e w' ⟨rfl, rfl⟩) | ((go_at_call 115; with_reducible refine (C2.out _).mono ?_); rintro e w' ⟨rfl, rfl⟩))
    go_ret
    exact ⟨rfl, HB.out⟩
  · cases h1 : (isC s)
    · rw [h1] at C0
      clear h1
      go_enter Try.func128, Try.ntmps128
      go_wp2_with (first | ((go_at_call 98; with_reducible refine (C0.out _).mono ?_); rintro e w1 ⟨rfl, hb⟩; have q3 : w1.cell? ⟨w.heap.size, 3, none⟩ = some (.int .i64 32) := box_kept hb 3; have q4 : w1.cell? ⟨w.heap.size, 4, none⟩ = some (.int .i64 i) := box_kept hb 4) | ((go_at_call 76; with_reducible refine (C1.out _).mono ?_); rintro e w' ⟨rfl, rfl⟩) | ((go_at_call 115; with_reducible refine (C2.out _).mono ?_); rintro e w' ⟨rfl, rfl⟩))
      go_ret
      exact ⟨rfl, HB.out.trans (hb.mono (by simp))⟩
    · rw [h1] at C0
      clear h1
      go_enter Try.func128, Try.ntmps128
      go_wp2_with (first | ((go_at_call 98; with_reducible refine (C0.out _).mono ?_); rintro e w1 ⟨rfl, hb⟩; have q3 : w1.cell? ⟨w.heap.size, 3, none⟩ = some (.int .i64 32) := box_kept hb 3; have q4 : w1.cell? ⟨w.heap.size, 4, none⟩ = some (.int .i64 i) := box_kept hb 4) | ((go_at_call 76; with_reducible refine (C1.out _).mono ?_); rintro e w' ⟨rfl, rfl⟩) | ((go_at_call 115; with_reducible refine (C2.out _).mono ?_); rintro e w' ⟨rfl, rfl⟩))
      go_ret
      exact ⟨rfl, HB.out.trans (hb.mono (by simp))⟩
theorem fit_jumpJ_8 (o d s i : Int) (b : Nat) (w : World) (hc : w.cell? ⟨b, 0, none⟩ = some (.func (.func 101) #[] #[])) : Calls Try.prog 128 #[.agg #[.int .i64 o, .int .i64 d, .int .i64 s, .int .i64 8, .int .i64 i], .pointer (some ⟨b, 0, none⟩)] w fun e w' => e = .returned (.bool ((d == 0) && ((s == 0) && isB i))) ∧ Below w.heap.size w w' := by
  have hl := cell_lt hc
  have hn : ¬ b = w.heap.size := by omega
  have HB := Lib.hid ((Below.refl w.heap.size w).alloc (Nat.le_refl _) (.cells #[.int .i64 o, .int .i64 d, .int .i64 s, .int .i64 8, .int .i64 i] 25))
  have C0 := Lib.hid (fun w => fit_jmp o d s 8 i w)
  have C1 : Hid (∀ w, Calls Try.prog 76 #[.int .i64 i, .int .i64 (-128), .int .i64 127] w fun e w' => e = .returned (.bool (isB i)) ∧ w = w') := fun w => within_ia i (-128) 127 w
  have C2 := Lib.hid (fun w => isWide_any i w)
  cases h0 : (d == 0)
  · go_enter Try.func128, Try.ntmps128
    go_wp2_with (first | ((go_at_call 101; with_reducible refine (C0.out _).mono ?_); rintro e w1 ⟨rfl, hb⟩; have q3 : w1.cell? ⟨w.heap.size, 3, none⟩ = some (.int .i64 8) := box_kept hb 3; have q4 : w1.cell? ⟨w.heap.size, 4, none⟩ = some (.int .i64 i) := box_kept hb 4) | ((go_at_call 76; with_reducible refine (C1.out _).mono ?_); rintro e w' ⟨rfl, rfl⟩) | ((go_at_call 115; with_reducible refine (C2.out _).mono ?_); rintro e w' ⟨rfl, rfl⟩))
    go_ret
    exact ⟨rfl, HB.out⟩
  · cases h1 : (s == 0)
    · rw [h1] at C0
      clear h1
      go_enter Try.func128, Try.ntmps128
      go_wp2_with (first | ((go_at_call 101; with_reducible refine (C0.out _).mono ?_); rintro e w1 ⟨rfl, hb⟩; have q3 : w1.cell? ⟨w.heap.size, 3, none⟩ = some (.int .i64 8) := box_kept hb 3; have q4 : w1.cell? ⟨w.heap.size, 4, none⟩ = some (.int .i64 i) := box_kept hb 4) | ((go_at_call 76; with_reducible refine (C1.out _).mono ?_); rintro e w' ⟨rfl, rfl⟩) | ((go_at_call 115; with_reducible refine (C2.out _).mono ?_); rintro e w' ⟨rfl, rfl⟩))
      go_ret
      exact ⟨rfl, HB.out.trans (hb.mono (by simp))⟩
    · rw [h1] at C0
      clear h1
      cases h2 : isB i
      · rw [h2] at C1
        clear h2
        go_enter Try.func128, Try.ntmps128
        go_wp2_with (first | ((go_at_call 101; with_reducible refine (C0.out _).mono ?_); rintro e w1 ⟨rfl, hb⟩; have q3 : w1.cell? ⟨w.heap.size, 3, none⟩ = some (.int .i64 8) := box_kept hb 3; have q4 : w1.cell? ⟨w.heap.size, 4, none⟩ = some (.int .i64 i) := box_kept hb 4) | ((go_at_call 76; with_reducible refine (C1.out _).mono ?_); rintro e w' ⟨rfl, rfl⟩) | ((go_at_call 115; with_reducible refine (C2.out _).mono ?_); rintro e w' ⟨rfl, rfl⟩))
        go_ret
        exact ⟨rfl, HB.out.trans (hb.mono (by simp))⟩
      · rw [h2] at C1
        clear h2
        go_enter Try.func128, Try.ntmps128
        go_wp2_with (first | ((go_at_call 101; with_reducible refine (C0.out _).mono ?_); rintro e w1 ⟨rfl, hb⟩; have q3 : w1.cell? ⟨w.heap.size, 3, none⟩ = some (.int .i64 8) := box_kept hb 3; have q4 : w1.cell? ⟨w.heap.size, 4, none⟩ = some (.int .i64 i) := box_kept hb 4) | ((go_at_call 76; with_reducible refine (C1.out _).mono ?_); rintro e w' ⟨rfl, rfl⟩) | ((go_at_call 115; with_reducible refine (C2.out _).mono ?_); rintro e w' ⟨rfl, rfl⟩))
        go_ret
        exact ⟨rfl, HB.out.trans (hb.mono (by simp))⟩
theorem fit_jumpJ_32 (o d s i : Int) (b : Nat) (w : World) (hc : w.cell? ⟨b, 0, none⟩ = some (.func (.func 101) #[] #[])) : Calls Try.prog 128 #[.agg #[.int .i64 o, .int .i64 d, .int .i64 s, .int .i64 32, .int .i64 i], .pointer (some ⟨b, 0, none⟩)] w fun e w' => e = .returned (.bool ((d == 0) && ((s == 0) && isW4 i))) ∧ Below w.heap.size w w' := by
  have hl := cell_lt hc
  have hn : ¬ b = w.heap.size := by omega
  have HB := Lib.hid ((Below.refl w.heap.size w).alloc (Nat.le_refl _) (.cells #[.int .i64 o, .int .i64 d, .int .i64 s, .int .i64 32, .int .i64 i] 25))
  have C0 := Lib.hid (fun w => fit_jmp o d s 32 i w)
  have C1 : Hid (∀ w, Calls Try.prog 76 #[.int .i64 i, .int .i64 (-128), .int .i64 127] w fun e w' => e = .returned (.bool (isB i)) ∧ w = w') := fun w => within_ia i (-128) 127 w
  have C2 := Lib.hid (fun w => isWide_any i w)
  cases h0 : (d == 0)
  · go_enter Try.func128, Try.ntmps128
    go_wp2_with (first | ((go_at_call 101; with_reducible refine (C0.out _).mono ?_); rintro e w1 ⟨rfl, hb⟩; have q3 : w1.cell? ⟨w.heap.size, 3, none⟩ = some (.int .i64 32) := box_kept hb 3; have q4 : w1.cell? ⟨w.heap.size, 4, none⟩ = some (.int .i64 i) := box_kept hb 4) | ((go_at_call 76; with_reducible refine (C1.out _).mono ?_); rintro e w' ⟨rfl, rfl⟩) | ((go_at_call 115; with_reducible refine (C2.out _).mono ?_); rintro e w' ⟨rfl, rfl⟩))
    go_ret
    exact ⟨rfl, HB.out⟩
  · cases h1 : (s == 0)
    · rw [h1] at C0
      clear h1
      go_enter Try.func128, Try.ntmps128
      go_wp2_with (first | ((go_at_call 101; with_reducible refine (C0.out _).mono ?_); rintro e w1 ⟨rfl, hb⟩; have q3 : w1.cell? ⟨w.heap.size, 3, none⟩ = some (.int .i64 32) := box_kept hb 3; have q4 : w1.cell? ⟨w.heap.size, 4, none⟩ = some (.int .i64 i) := box_kept hb 4) | ((go_at_call 76; with_reducible refine (C1.out _).mono ?_); rintro e w' ⟨rfl, rfl⟩) | ((go_at_call 115; with_reducible refine (C2.out _).mono ?_); rintro e w' ⟨rfl, rfl⟩))
      go_ret
      exact ⟨rfl, HB.out.trans (hb.mono (by simp))⟩
    · rw [h1] at C0
      clear h1
      go_enter Try.func128, Try.ntmps128
      go_wp2_with (first | ((go_at_call 101; with_reducible refine (C0.out _).mono ?_); rintro e w1 ⟨rfl, hb⟩; have q3 : w1.cell? ⟨w.heap.size, 3, none⟩ = some (.int .i64 32) := box_kept hb 3; have q4 : w1.cell? ⟨w.heap.size, 4, none⟩ = some (.int .i64 i) := box_kept hb 4) | ((go_at_call 76; with_reducible refine (C1.out _).mono ?_); rintro e w' ⟨rfl, rfl⟩) | ((go_at_call 115; with_reducible refine (C2.out _).mono ?_); rintro e w' ⟨rfl, rfl⟩))
      go_ret
      exact ⟨rfl, HB.out.trans (hb.mono (by simp))⟩
end Go.Proofs.Ytdojafpjipcbjaa
