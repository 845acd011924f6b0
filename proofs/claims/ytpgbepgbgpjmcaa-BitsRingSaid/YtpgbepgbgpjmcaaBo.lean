/- The walk of the statement BitsRing. -/
import Derived.Test.YtpgbepgbgpjmcaaBj
import Derived.Test.YtpgbepgbgpjmcaaRing
import Derived.Deep.QuietTactic
namespace Go.Proofs.Ytpgbepgbgpjmcaa
open Go.RowKit Wd
set_option linter.unusedVariables false
set_option linter.unusedSimpArgs false
theorem doX_bd (op n a b : Int) (h3 : 0 ≤ a) (h5 : 0 ≤ b) : 0 ≤ doX op n a b ∧ doX op n a b ≤ 4294967295 := by
  unfold doX
  by_cases g : good op n a b = true
  · rw [if_pos g]
    split
    · exact ⟨tot_lo g h3 h5, tot_32 g h3 h5⟩
    · omega
  · rw [if_neg g]; omega
section
variable {n a b c : Int} (g : 1 ≤ n ∧ n ≤ 32) (ha : Word n a) (hb : Word n b) (hc : Word n c)
include g ha hb
theorem good_w (op : Int) (h1 : 1 ≤ op) (h2 : op ≤ 13) : good op n a b = true := (good_iff _ _ _ _).2 ⟨h1, h2, g.1, g.2, ha.2, hb.2⟩
theorem doX_tot (op : Int) (h1 : 1 ≤ op) (h2 : op ≤ 13) (h : has op n a b = true) : doX op n a b = tot op n a b := by
  simp [doX, good_w g ha hb op h1 h2, h]
theorem doX_word (op : Int) (h1 : 1 ≤ op) (h2 : op ≤ 13) (h : has op n a b = true) : Word n (doX op n a b) := by
  rw [doX_tot g ha hb op h1 h2 h]; exact tot_word (good_w g ha hb op h1 h2) ha.1 hb.1
theorem doE_w (op : Int) (h1 : 1 ≤ op) (h2 : op ≤ 13) : doE op n a b = 0 := by simp [doE, good_w g ha hb op h1 h2]
theorem doY_w (op : Int) (h1 : 1 ≤ op) (h2 : op ≤ 13) : doY op n a b = has op n a b := by simp [doY, good_w g ha hb op h1 h2]
end
section
variable {n a b : Int} (g : 1 ≤ n ∧ n ≤ 32)
include g
theorem X1 (ha : Word n a) (hb : Word n b) : doX 1 n a b = tot 1 n a b := doX_tot g ha hb 1 (by omega) (by omega) rfl
theorem X2 (ha : Word n a) (hb : Word n b) : doX 2 n a b = tot 2 n a b := doX_tot g ha hb 2 (by omega) (by omega) rfl
theorem X3 (ha : Word n a) (hb : Word n b) : doX 3 n a b = tot 3 n a b := doX_tot g ha hb 3 (by omega) (by omega) rfl
theorem X8 (ha : Word n a) (hb : Word n b) : doX 8 n a b = tot 8 n a b := doX_tot g ha hb 8 (by omega) (by omega) rfl
theorem X9 (ha : Word n a) (hb : Word n b) : doX 9 n a b = tot 9 n a b := doX_tot g ha hb 9 (by omega) (by omega) rfl
theorem X10 (ha : Word n a) (hb : Word n b) : doX 10 n a b = tot 10 n a b := doX_tot g ha hb 10 (by omega) (by omega) rfl
end

theorem ldo (op n a b : Int) (w : World) (h3 : 0 ≤ a) (h4 : a ≤ 4294967295) (h5 : 0 ≤ b) (h6 : b ≤ 4294967295) : Calls Try.prog 19 #[.int .i64 op, .int .i64 n, .int .u32 a, .int .u32 b] w fun e w' => e = .returned (.int .u32 (doX op n a b)) ∧ Below w.heap.size w w' := by
  have h00 := Since.refl w
  go_enter Try.func19, Try.ntmps19
  go_wp2_with (first | (go_at_call 11; refine (acc_p (pDo _ _ _ _ _ (by omega) (by omega) (by omega) (by omega)) (by assumption)).mono ?_; rintro e w' ⟨rfl, hb⟩))
  go_ret
  exact ⟨rfl, ‹_›⟩
set_option maxRecDepth 100000 in
set_option maxHeartbeats 4000000 in
theorem wRing (n a b c : Int) (w : World) (h3 : 0 ≤ a) (h4 : a ≤ 4294967295) (h5 : 0 ≤ b) (h6 : b ≤ 4294967295) (h7 : 0 ≤ c) (h8 : c ≤ 4294967295) : Calls Try.prog 6 #[.int .i64 n, .agg #[.int .u32 a, .int .u32 b], .int .u32 c] w fun e w' => e = .returned (.bool true) ∧ Below w.heap.size w w' := by
  cases hw : isW n
  · go_enter Try.func6, Try.ntmps6
    go_wp2_with fail
    have h00 := Since.refl (w.alloc (.cells #[.int .u32 a, .int .u32 b] 24))
    have l0 : ∀ wk, Since (w.alloc (.cells #[.int .u32 a, .int .u32 b] 24)) wk → wk.cell? ⟨w.heap.size, 0, none⟩ = some (.int .u32 a) := fun wk h => since_box 0 h
    have l1 : ∀ wk, Since (w.alloc (.cells #[.int .u32 a, .int .u32 b] 24)) wk → wk.cell? ⟨w.heap.size, 1, none⟩ = some (.int .u32 b) := fun wk h => since_box 1 h
    go_wp2_with (first | (go_at_call 19; refine (acc_p (ldo _ _ _ _ _ (by omega) (by omega) (by omega) (by omega)) (by assumption)).mono ?_; rintro e w' ⟨rfl, hb⟩) | (go_at_call 11; refine (acc_p (pDo _ _ _ _ _ (by omega) (by omega) (by omega) (by omega)) (by assumption)).mono ?_; rintro e w' ⟨rfl, hb⟩) | (go_at_call 13; refine (acc_p (known_any _) (by assumption)).mono ?_; rintro e w' ⟨rfl, hb⟩) | (go_at_call 18; refine (rIsWord_any _ _ _ (by omega) (by omega)).mono ?_; rintro e w' ⟨rfl, rfl⟩))
    go_ret
    exact ⟨rfl, below_box ‹_›⟩
  · cases fa : fit n a
    · go_enter Try.func6, Try.ntmps6
      go_wp2_with fail
      have h00 := Since.refl (w.alloc (.cells #[.int .u32 a, .int .u32 b] 24))
      have l0 : ∀ wk, Since (w.alloc (.cells #[.int .u32 a, .int .u32 b] 24)) wk → wk.cell? ⟨w.heap.size, 0, none⟩ = some (.int .u32 a) := fun wk h => since_box 0 h
      have l1 : ∀ wk, Since (w.alloc (.cells #[.int .u32 a, .int .u32 b] 24)) wk → wk.cell? ⟨w.heap.size, 1, none⟩ = some (.int .u32 b) := fun wk h => since_box 1 h
      go_wp2_with (first | (go_at_call 19; refine (acc_p (ldo _ _ _ _ _ (by omega) (by omega) (by omega) (by omega)) (by assumption)).mono ?_; rintro e w' ⟨rfl, hb⟩) | (go_at_call 11; refine (acc_p (pDo _ _ _ _ _ (by omega) (by omega) (by omega) (by omega)) (by assumption)).mono ?_; rintro e w' ⟨rfl, hb⟩) | (go_at_call 13; refine (acc_p (known_any _) (by assumption)).mono ?_; rintro e w' ⟨rfl, hb⟩) | (go_at_call 18; refine (rIsWord_any _ _ _ (by omega) (by omega)).mono ?_; rintro e w' ⟨rfl, rfl⟩))
      go_ret
      exact ⟨rfl, below_box ‹_›⟩
    · cases fb : fit n b
      · go_enter Try.func6, Try.ntmps6
        go_wp2_with fail
        have h00 := Since.refl (w.alloc (.cells #[.int .u32 a, .int .u32 b] 24))
        have l0 : ∀ wk, Since (w.alloc (.cells #[.int .u32 a, .int .u32 b] 24)) wk → wk.cell? ⟨w.heap.size, 0, none⟩ = some (.int .u32 a) := fun wk h => since_box 0 h
        have l1 : ∀ wk, Since (w.alloc (.cells #[.int .u32 a, .int .u32 b] 24)) wk → wk.cell? ⟨w.heap.size, 1, none⟩ = some (.int .u32 b) := fun wk h => since_box 1 h
        go_wp2_with (first | (go_at_call 19; refine (acc_p (ldo _ _ _ _ _ (by omega) (by omega) (by omega) (by omega)) (by assumption)).mono ?_; rintro e w' ⟨rfl, hb⟩) | (go_at_call 11; refine (acc_p (pDo _ _ _ _ _ (by omega) (by omega) (by omega) (by omega)) (by assumption)).mono ?_; rintro e w' ⟨rfl, hb⟩) | (go_at_call 13; refine (acc_p (known_any _) (by assumption)).mono ?_; rintro e w' ⟨rfl, hb⟩) | (go_at_call 18; refine (rIsWord_any _ _ _ (by omega) (by omega)).mono ?_; rintro e w' ⟨rfl, rfl⟩))
        go_ret
        exact ⟨rfl, below_box ‹_›⟩
      · cases fc : fit n c
        · go_enter Try.func6, Try.ntmps6
          go_wp2_with fail
          have h00 := Since.refl (w.alloc (.cells #[.int .u32 a, .int .u32 b] 24))
          have l0 : ∀ wk, Since (w.alloc (.cells #[.int .u32 a, .int .u32 b] 24)) wk → wk.cell? ⟨w.heap.size, 0, none⟩ = some (.int .u32 a) := fun wk h => since_box 0 h
          have l1 : ∀ wk, Since (w.alloc (.cells #[.int .u32 a, .int .u32 b] 24)) wk → wk.cell? ⟨w.heap.size, 1, none⟩ = some (.int .u32 b) := fun wk h => since_box 1 h
          go_wp2_with (first | (go_at_call 19; refine (acc_p (ldo _ _ _ _ _ (by omega) (by omega) (by omega) (by omega)) (by assumption)).mono ?_; rintro e w' ⟨rfl, hb⟩) | (go_at_call 11; refine (acc_p (pDo _ _ _ _ _ (by omega) (by omega) (by omega) (by omega)) (by assumption)).mono ?_; rintro e w' ⟨rfl, hb⟩) | (go_at_call 13; refine (acc_p (known_any _) (by assumption)).mono ?_; rintro e w' ⟨rfl, hb⟩) | (go_at_call 18; refine (rIsWord_any _ _ _ (by omega) (by omega)).mono ?_; rintro e w' ⟨rfl, rfl⟩))
          go_ret
          exact ⟨rfl, below_box ‹_›⟩
        · have g : 1 ≤ n ∧ n ≤ 32 := by simpa [isW] using hw
          have wa : Word n a := ⟨h3, by simpa [fit] using fa⟩
          have wb : Word n b := ⟨h5, by simpa [fit] using fb⟩
          have wc : Word n c := ⟨h7, by simpa [fit] using fc⟩
          have ws := doX_word g wa wb 1 (by omega) (by omega) rfl
          have wm := doX_word g wa wb 3 (by omega) (by omega) rfl
          have wt := doX_word g wb wc 1 (by omega) (by omega) rfl
          have wv := doX_word g wa wc 3 (by omega) (by omega) rfl
          have wd := doX_word g wa wb 8 (by omega) (by omega) rfl
          have wo := doX_word g wa wb 9 (by omega) (by omega) rfl
          have wx := doX_word g wa wb 10 (by omega) (by omega) rfl
          have F1 : doX 2 n (doX 1 n a b) b = a := by rw [X2 g ws wb, X1 g wa wb, ring_sub wa]
          have F2 : doX 1 n b a = doX 1 n a b := by rw [X1 g wb wa, X1 g wa wb, ring_add]
          have F3 : doX 3 n b a = doX 3 n a b := by rw [X3 g wb wa, X3 g wa wb, ring_mul]
          have F4 : doX 1 n (doX 3 n a b) (doX 3 n a c) = doX 3 n a (doX 1 n b c) := by rw [X1 g wm wv, X3 g wa wt, X3 g wa wb, X3 g wa wc, X1 g wb wc, ring_dist]
          have F5 : doX 1 n (doX 8 n a b) (doX 9 n a b) = doX 1 n a b := by rw [X1 g wd wo, X1 g wa wb, X8 g wa wb, X9 g wa wb, ring_andor wa wb]
          have F6 : doX 10 n (doX 10 n a b) b = a := by rw [X10 g wx wb, X10 g wa wb, ring_xor wa]
          have b5 := doX_bd 3 n a (doX 1 n b c) h3 wt.1
          have E4 := doE_w g wa wb 4 (by omega) (by omega)
          have E6 := doE_w g wa wb 6 (by omega) (by omega)
          have Y4 := doY_w g wa wb 4 (by omega) (by omega)
          have Y6 := doY_w g wa wb 6 (by omega) (by omega)
          have p32 := pw_le32 g.2
          by_cases hb0 : b = 0
          · have y4 : doY 4 n a b = false := by rw [Y4]; simp [has, hb0]
            have y6 : doY 6 n a b = false := by rw [Y6]; simp [has, hb0]
            have hb1 : (b != 0) = false := by simpa using hb0
            have q4 := doX_bd 4 n a b h3 h5
            have q6 := doX_bd 6 n a b h3 h5
            clear Y4 Y6 hb0
            generalize hs : doX 1 n a b = s at *
            generalize hm : doX 3 n a b = m at *
            generalize ht : doX 1 n b c = t at *
            generalize hv : doX 3 n a c = v at *
            generalize hd : doX 8 n a b = d at *
            generalize ho : doX 9 n a b = o at *
            generalize hx : doX 10 n a b = x at *
            generalize hu : doX 3 n a t = u at *
            obtain ⟨ws1, ws2⟩ := ws
            obtain ⟨wm1, wm2⟩ := wm
            obtain ⟨wt1, wt2⟩ := wt
            obtain ⟨wv1, wv2⟩ := wv
            obtain ⟨wd1, wd2⟩ := wd
            obtain ⟨wo1, wo2⟩ := wo
            obtain ⟨wx1, wx2⟩ := wx
            obtain ⟨b51, b52⟩ := b5
            obtain ⟨q41, q42⟩ := q4
            obtain ⟨q61, q62⟩ := q6
            have hw1 := wa.2
            have hw2 := wb.2
            have hw3 := wc.2
            clear wa wb wc g
            go_enter Try.func6, Try.ntmps6
            go_wp2_with fail
            have h00 := Since.refl (w.alloc (.cells #[.int .u32 a, .int .u32 b] 24))
            have l0 : ∀ wk, Since (w.alloc (.cells #[.int .u32 a, .int .u32 b] 24)) wk → wk.cell? ⟨w.heap.size, 0, none⟩ = some (.int .u32 a) := fun wk h => since_box 0 h
            have l1 : ∀ wk, Since (w.alloc (.cells #[.int .u32 a, .int .u32 b] 24)) wk → wk.cell? ⟨w.heap.size, 1, none⟩ = some (.int .u32 b) := fun wk h => since_box 1 h
            go_wp2_with (first | (go_at_call 13; refine (acc_p (known_any _) (by assumption)).mono ?_; rintro e w' ⟨rfl, hb⟩) | (go_at_call 18; refine (rIsWord_any _ _ _ (by omega) (by omega)).mono ?_; rintro e w' ⟨rfl, rfl⟩))
            go_quiet (fail)
            have hbq := h00.drewN nq
            go_wp2_with (first | (go_at_call 19; refine (acc_p (ldo _ _ _ _ _ (by omega) (by omega) (by omega) (by omega)) (by assumption)).mono ?_; rintro e w' ⟨rfl, hb⟩) | (go_at_call 11; refine (acc_p (pDo _ _ _ _ _ (by omega) (by omega) (by omega) (by omega)) (by assumption)).mono ?_; rintro e w' ⟨rfl, hb⟩) | (go_at_call 13; refine (acc_p (known_any _) (by assumption)).mono ?_; rintro e w' ⟨rfl, hb⟩) | (go_at_call 18; refine (rIsWord_any _ _ _ (by omega) (by omega)).mono ?_; rintro e w' ⟨rfl, rfl⟩))
            go_ret
            exact ⟨rfl, below_box ‹_›⟩
          · have hh4 : has 4 n a b = true := by simp [has, hb0]
            have y4 : doY 4 n a b = true := by rw [Y4, hh4]
            have hb1 : (b != 0) = true := by simpa using hb0
            have wq := doX_word g wa wb 4 (by omega) (by omega) hh4
            have wr5 := doX_word g wa wb 5 (by omega) (by omega) hh4
            have wk := doX_word g wq wb 3 (by omega) (by omega) rfl
            have F7 : doX 1 n (doX 3 n (doX 4 n a b) b) (doX 5 n a b) = a := by rw [X1 g wk wr5, X3 g wq wb, doX_tot g wa wb 4 (by omega) (by omega) hh4, doX_tot g wa wb 5 (by omega) (by omega) hh4, ring_udiv wa hb0]
            cases hh6 : has 6 n a b
            · have q6 := doX_bd 6 n a b h3 h5
              have y6 : doY 6 n a b = false := by rw [Y6, hh6]
              clear Y4 Y6 hb0 hh4 hh6
              generalize hs : doX 1 n a b = s at *
              generalize hm : doX 3 n a b = m at *
              generalize ht : doX 1 n b c = t at *
              generalize hv : doX 3 n a c = v at *
              generalize hd : doX 8 n a b = d at *
              generalize ho : doX 9 n a b = o at *
              generalize hx : doX 10 n a b = x at *
              generalize hu : doX 3 n a t = u at *
              generalize hq : doX 4 n a b = q at *
              generalize hr5 : doX 5 n a b = r5 at *
              generalize hk : doX 3 n q b = k at *
              obtain ⟨wq1, wq2⟩ := wq
              obtain ⟨wr1, wr2⟩ := wr5
              obtain ⟨wk1, wk2⟩ := wk
              obtain ⟨ws1, ws2⟩ := ws
              obtain ⟨wm1, wm2⟩ := wm
              obtain ⟨wt1, wt2⟩ := wt
              obtain ⟨wv1, wv2⟩ := wv
              obtain ⟨wd1, wd2⟩ := wd
              obtain ⟨wo1, wo2⟩ := wo
              obtain ⟨wx1, wx2⟩ := wx
              obtain ⟨b51, b52⟩ := b5
              obtain ⟨q61, q62⟩ := q6
              have hw1 := wa.2
              have hw2 := wb.2
              have hw3 := wc.2
              clear wa wb wc g
              go_enter Try.func6, Try.ntmps6
              go_wp2_with fail
              have h00 := Since.refl (w.alloc (.cells #[.int .u32 a, .int .u32 b] 24))
              have l0 : ∀ wk, Since (w.alloc (.cells #[.int .u32 a, .int .u32 b] 24)) wk → wk.cell? ⟨w.heap.size, 0, none⟩ = some (.int .u32 a) := fun wk h => since_box 0 h
              have l1 : ∀ wk, Since (w.alloc (.cells #[.int .u32 a, .int .u32 b] 24)) wk → wk.cell? ⟨w.heap.size, 1, none⟩ = some (.int .u32 b) := fun wk h => since_box 1 h
              go_wp2_with (first | (go_at_call 13; refine (acc_p (known_any _) (by assumption)).mono ?_; rintro e w' ⟨rfl, hb⟩) | (go_at_call 18; refine (rIsWord_any _ _ _ (by omega) (by omega)).mono ?_; rintro e w' ⟨rfl, rfl⟩))
              go_quiet (fail)
              have hbq := h00.drewN nq
              go_wp2_with (first | (go_at_call 19; refine (acc_p (ldo _ _ _ _ _ (by omega) (by omega) (by omega) (by omega)) (by assumption)).mono ?_; rintro e w' ⟨rfl, hb⟩) | (go_at_call 11; refine (acc_p (pDo _ _ _ _ _ (by omega) (by omega) (by omega) (by omega)) (by assumption)).mono ?_; rintro e w' ⟨rfl, hb⟩) | (go_at_call 13; refine (acc_p (known_any _) (by assumption)).mono ?_; rintro e w' ⟨rfl, hb⟩) | (go_at_call 18; refine (rIsWord_any _ _ _ (by omega) (by omega)).mono ?_; rintro e w' ⟨rfl, rfl⟩))
              go_ret
              exact ⟨rfl, below_box ‹_›⟩
            · have y6 : doY 6 n a b = true := by rw [Y6, hh6]
              have wq6 := doX_word g wa wb 6 (by omega) (by omega) hh6
              have wr7 := doX_word g wa wb 7 (by omega) (by omega) hh6
              have wk6 := doX_word g wq6 wb 3 (by omega) (by omega) rfl
              have F8 : doX 1 n (doX 3 n (doX 6 n a b) b) (doX 7 n a b) = a := by rw [X1 g wk6 wr7, X3 g wq6 wb, doX_tot g wa wb 6 (by omega) (by omega) hh6, doX_tot g wa wb 7 (by omega) (by omega) hh6, ring_sdiv wa hh6]
              generalize hq6 : doX 6 n a b = q6 at *
              generalize hr7 : doX 7 n a b = r7 at *
              generalize hk6 : doX 3 n q6 b = k6 at *
              obtain ⟨wq61, wq62⟩ := wq6
              obtain ⟨wr71, wr72⟩ := wr7
              obtain ⟨wk61, wk62⟩ := wk6
              clear Y4 Y6 hb0 hh4 hh6
              generalize hs : doX 1 n a b = s at *
              generalize hm : doX 3 n a b = m at *
              generalize ht : doX 1 n b c = t at *
              generalize hv : doX 3 n a c = v at *
              generalize hd : doX 8 n a b = d at *
              generalize ho : doX 9 n a b = o at *
              generalize hx : doX 10 n a b = x at *
              generalize hu : doX 3 n a t = u at *
              generalize hq : doX 4 n a b = q at *
              generalize hr5 : doX 5 n a b = r5 at *
              generalize hk : doX 3 n q b = k at *
              obtain ⟨wq1, wq2⟩ := wq
              obtain ⟨wr1, wr2⟩ := wr5
              obtain ⟨wk1, wk2⟩ := wk
              obtain ⟨ws1, ws2⟩ := ws
              obtain ⟨wm1, wm2⟩ := wm
              obtain ⟨wt1, wt2⟩ := wt
              obtain ⟨wv1, wv2⟩ := wv
              obtain ⟨wd1, wd2⟩ := wd
              obtain ⟨wo1, wo2⟩ := wo
              obtain ⟨wx1, wx2⟩ := wx
              obtain ⟨b51, b52⟩ := b5
              have hw1 := wa.2
              have hw2 := wb.2
              have hw3 := wc.2
              clear wa wb wc g
              go_enter Try.func6, Try.ntmps6
              go_wp2_with fail
              have h00 := Since.refl (w.alloc (.cells #[.int .u32 a, .int .u32 b] 24))
              have l0 : ∀ wk, Since (w.alloc (.cells #[.int .u32 a, .int .u32 b] 24)) wk → wk.cell? ⟨w.heap.size, 0, none⟩ = some (.int .u32 a) := fun wk h => since_box 0 h
              have l1 : ∀ wk, Since (w.alloc (.cells #[.int .u32 a, .int .u32 b] 24)) wk → wk.cell? ⟨w.heap.size, 1, none⟩ = some (.int .u32 b) := fun wk h => since_box 1 h
              go_wp2_with (first | (go_at_call 13; refine (acc_p (known_any _) (by assumption)).mono ?_; rintro e w' ⟨rfl, hb⟩) | (go_at_call 18; refine (rIsWord_any _ _ _ (by omega) (by omega)).mono ?_; rintro e w' ⟨rfl, rfl⟩))
              go_quiet (fail)
              have hbq := h00.drewN nq
              go_wp2_with (first | (go_at_call 19; refine (acc_p (ldo _ _ _ _ _ (by omega) (by omega) (by omega) (by omega)) (by assumption)).mono ?_; rintro e w' ⟨rfl, hb⟩) | (go_at_call 11; refine (acc_p (pDo _ _ _ _ _ (by omega) (by omega) (by omega) (by omega)) (by assumption)).mono ?_; rintro e w' ⟨rfl, hb⟩) | (go_at_call 13; refine (acc_p (known_any _) (by assumption)).mono ?_; rintro e w' ⟨rfl, hb⟩) | (go_at_call 18; refine (rIsWord_any _ _ _ (by omega) (by omega)).mono ?_; rintro e w' ⟨rfl, rfl⟩))
              go_ret
              exact ⟨rfl, below_box ‹_›⟩

end Go.Proofs.Ytpgbepgbgpjmcaa
