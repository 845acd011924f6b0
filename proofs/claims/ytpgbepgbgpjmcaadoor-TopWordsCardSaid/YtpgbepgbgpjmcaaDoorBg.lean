/- Walks of bits.Do and bits.Total. -/
import Derived.Test.YtpgbepgbgpjmcaaDoorBe
import Derived.Test.YtpgbepgbgpjmcaaDoorBf
namespace Go.Proofs.YtpgbepgbgpjmcaaDoor
open Go.RowKit Wd

set_option maxHeartbeats 1000000 in
theorem pDo_1 (n a b : Int) (w : World) (g : good 1 n a b = true) (h3 : 0 ≤ a) (h5 : 0 ≤ b) : Calls Tryd.prog 12 #[.int .i64 1, .int .i64 n, .int .u32 a, .int .u32 b] w fun e w' => e = .returned (doV 1 n a b) ∧ Below w.heap.size w w' := by
  obtain ⟨_, _, g3, g4, g5, g6⟩ := (good_iff _ _ _ _).1 g
  have hw : isW n = true := by simp [isW, g3, g4]
  have fa : fit n a = true := by simp [fit, g5]
  have fb : fit n b = true := by simp [fit, g6]
  have hh : has 1 n a b = true := by simp [has]
  have hv : doV 1 n a b = .tuple #[.int .u32 (tot 1 n a b), .bool true, .int .i64 0] := by simp [doV, g, hh]
  rw [hv]
  clear hv
  go_enter Tryd.func12, Tryd.ntmps12
  go_wp2_with (first | (go_at_call 24; refine (asked_w 1 n a b 0 59 34 (fun h => #[.pointer (some ⟨h + 1, 0, none⟩)]) _ (fun _ => rfl)).mono ?_; rintro e w1 ⟨h, rfl, ⟨m3, m4, c1, c2, c3, c8, c9, c10⟩, hb1⟩) | (go_at_call 59; refine (pdo_1 n a b _ (by assumption) (by assumption) (by assumption) (by assumption) (by assumption) (by assumption) (h + 1) (by have q : h + 1 < w1.heap.size := (by omega); simp [go_sem, *])).mono ?_; rintro e w2 ⟨rfl, hd1⟩))
  go_ret3
  exact ⟨rfl, ((hb1.trans ((Below.refl _ _).alloc hb1.size _)).trans (hd1.below _))⟩

set_option maxHeartbeats 1000000 in
theorem pDo_2 (n a b : Int) (w : World) (g : good 2 n a b = true) (h3 : 0 ≤ a) (h5 : 0 ≤ b) : Calls Tryd.prog 12 #[.int .i64 2, .int .i64 n, .int .u32 a, .int .u32 b] w fun e w' => e = .returned (doV 2 n a b) ∧ Below w.heap.size w w' := by
  obtain ⟨_, _, g3, g4, g5, g6⟩ := (good_iff _ _ _ _).1 g
  have hw : isW n = true := by simp [isW, g3, g4]
  have fa : fit n a = true := by simp [fit, g5]
  have fb : fit n b = true := by simp [fit, g6]
  have hh : has 2 n a b = true := by simp [has]
  have hv : doV 2 n a b = .tuple #[.int .u32 (tot 2 n a b), .bool true, .int .i64 0] := by simp [doV, g, hh]
  rw [hv]
  clear hv
  go_enter Tryd.func12, Tryd.ntmps12
  go_wp2_with (first | (go_at_call 24; refine (asked_w 2 n a b 1 59 36 (fun h => #[.pointer (some ⟨h + 3, 0, none⟩)]) _ (fun _ => rfl)).mono ?_; rintro e w1 ⟨h, rfl, ⟨m3, m4, c1, c2, c3, c8, c9, c10⟩, hb1⟩) | (go_at_call 59; refine (pdo_2 n a b _ (by assumption) (by assumption) (by assumption) (by assumption) (by assumption) (by assumption) (h + 3) (by have q : h + 3 < w1.heap.size := (by omega); simp [go_sem, *])).mono ?_; rintro e w2 ⟨rfl, hd1⟩))
  go_ret3
  exact ⟨rfl, ((hb1.trans ((Below.refl _ _).alloc hb1.size _)).trans (hd1.below _))⟩

set_option maxHeartbeats 1000000 in
theorem pDo_3 (n a b : Int) (w : World) (g : good 3 n a b = true) (h3 : 0 ≤ a) (h5 : 0 ≤ b) : Calls Tryd.prog 12 #[.int .i64 3, .int .i64 n, .int .u32 a, .int .u32 b] w fun e w' => e = .returned (doV 3 n a b) ∧ Below w.heap.size w w' := by
  obtain ⟨_, _, g3, g4, g5, g6⟩ := (good_iff _ _ _ _).1 g
  have hw : isW n = true := by simp [isW, g3, g4]
  have fa : fit n a = true := by simp [fit, g5]
  have fb : fit n b = true := by simp [fit, g6]
  have hh : has 3 n a b = true := by simp [has]
  have hv : doV 3 n a b = .tuple #[.int .u32 (tot 3 n a b), .bool true, .int .i64 0] := by simp [doV, g, hh]
  rw [hv]
  clear hv
  go_enter Tryd.func12, Tryd.ntmps12
  go_wp2_with (first | (go_at_call 24; refine (asked_w 3 n a b 2 59 38 (fun h => #[.pointer (some ⟨h + 5, 0, none⟩)]) _ (fun _ => rfl)).mono ?_; rintro e w1 ⟨h, rfl, ⟨m3, m4, c1, c2, c3, c8, c9, c10⟩, hb1⟩) | (go_at_call 59; refine (pdo_3 n a b _ (by assumption) (by assumption) (by assumption) (by assumption) (by assumption) (by assumption) (h + 5) (by have q : h + 5 < w1.heap.size := (by omega); simp [go_sem, *])).mono ?_; rintro e w2 ⟨rfl, hd1⟩))
  go_ret3
  exact ⟨rfl, ((hb1.trans ((Below.refl _ _).alloc hb1.size _)).trans (hd1.below _))⟩

set_option maxHeartbeats 1000000 in
theorem pDo_4 (n a b : Int) (w : World) (g : good 4 n a b = true) (h3 : 0 ≤ a) (h5 : 0 ≤ b) : Calls Tryd.prog 12 #[.int .i64 4, .int .i64 n, .int .u32 a, .int .u32 b] w fun e w' => e = .returned (doV 4 n a b) ∧ Below w.heap.size w w' := by
  obtain ⟨_, _, g3, g4, g5, g6⟩ := (good_iff _ _ _ _).1 g
  have hw : isW n = true := by simp [isW, g3, g4]
  have fa : fit n a = true := by simp [fit, g5]
  have fb : fit n b = true := by simp [fit, g6]
  by_cases hh : has 4 n a b = true
  · skip
    have hv : doV 4 n a b = .tuple #[.int .u32 (tot 4 n a b), .bool true, .int .i64 0] := by simp [doV, g, hh]
    rw [hv]
    clear hv
    go_enter Tryd.func12, Tryd.ntmps12
    go_wp2_with (first | (go_at_call 24; refine (asked_l 4 n a b 3 41 42 (fun _ => #[]) _ (fun _ => rfl)).mono ?_; rintro e w1 ⟨h, rfl, ⟨m3, m4, c1, c2, c3, c8, c9, c10⟩, hb1⟩) | (go_at_call 41; refine (pdo_4 n a b _ (by assumption) (by assumption) (by assumption) (by assumption) (by assumption) (by assumption)).mono ?_; rintro e w2 ⟨rfl, hd1⟩))
    go_ret3
    exact ⟨rfl, ((hb1.trans ((Below.refl _ _).alloc hb1.size _)).trans (hd1.below _))⟩
  · have hh : has 4 n a b = false := by simpa using hh
    have hv : doV 4 n a b = .tuple #[.int .u32 0, .bool false, .int .i64 0] := by simp [doV, g, hh]
    rw [hv]
    clear hv
    go_enter Tryd.func12, Tryd.ntmps12
    go_wp2_with (first | (go_at_call 24; refine (asked_l 4 n a b 3 41 42 (fun _ => #[]) _ (fun _ => rfl)).mono ?_; rintro e w1 ⟨h, rfl, ⟨m3, m4, c1, c2, c3, c8, c9, c10⟩, hb1⟩) | (go_at_call 41; refine (pdo_4 n a b _ (by assumption) (by assumption) (by assumption) (by assumption) (by assumption) (by assumption)).mono ?_; rintro e w2 ⟨rfl, hd1⟩))
    go_ret3
    exact ⟨rfl, ((hb1.trans ((Below.refl _ _).alloc hb1.size _)).trans (hd1.below _))⟩

set_option maxHeartbeats 1000000 in
theorem pDo_5 (n a b : Int) (w : World) (g : good 5 n a b = true) (h3 : 0 ≤ a) (h5 : 0 ≤ b) : Calls Tryd.prog 12 #[.int .i64 5, .int .i64 n, .int .u32 a, .int .u32 b] w fun e w' => e = .returned (doV 5 n a b) ∧ Below w.heap.size w w' := by
  obtain ⟨_, _, g3, g4, g5, g6⟩ := (good_iff _ _ _ _).1 g
  have hw : isW n = true := by simp [isW, g3, g4]
  have fa : fit n a = true := by simp [fit, g5]
  have fb : fit n b = true := by simp [fit, g6]
  by_cases hh : has 5 n a b = true
  · skip
    have hv : doV 5 n a b = .tuple #[.int .u32 (tot 5 n a b), .bool true, .int .i64 0] := by simp [doV, g, hh]
    rw [hv]
    clear hv
    go_enter Tryd.func12, Tryd.ntmps12
    go_wp2_with (first | (go_at_call 24; refine (asked_n 5 n a b 4 43 (fun _ => #[]) _ (fun _ => rfl)).mono ?_; rintro e w1 ⟨h, rfl, ⟨m3, m4, c1, c2, c3, c8, c9, c10⟩, hb1⟩) | (go_at_call 43; refine (pdo_5 n a b _ (by assumption) (by assumption) (by assumption) (by assumption) (by assumption) (by assumption)).mono ?_; rintro e w2 ⟨rfl, hd1⟩))
    go_ret3
    exact ⟨rfl, ((hb1.trans ((Below.refl _ _).alloc hb1.size _)).trans (hd1.below _))⟩
  · have hh : has 5 n a b = false := by simpa using hh
    have hv : doV 5 n a b = .tuple #[.int .u32 0, .bool false, .int .i64 0] := by simp [doV, g, hh]
    rw [hv]
    clear hv
    go_enter Tryd.func12, Tryd.ntmps12
    go_wp2_with (first | (go_at_call 24; refine (asked_n 5 n a b 4 43 (fun _ => #[]) _ (fun _ => rfl)).mono ?_; rintro e w1 ⟨h, rfl, ⟨m3, m4, c1, c2, c3, c8, c9, c10⟩, hb1⟩) | (go_at_call 43; refine (pdo_5 n a b _ (by assumption) (by assumption) (by assumption) (by assumption) (by assumption) (by assumption)).mono ?_; rintro e w2 ⟨rfl, hd1⟩))
    go_ret3
    exact ⟨rfl, ((hb1.trans ((Below.refl _ _).alloc hb1.size _)).trans (hd1.below _))⟩

set_option maxHeartbeats 1000000 in
theorem pDo_6 (n a b : Int) (w : World) (g : good 6 n a b = true) (h3 : 0 ≤ a) (h5 : 0 ≤ b) : Calls Tryd.prog 12 #[.int .i64 6, .int .i64 n, .int .u32 a, .int .u32 b] w fun e w' => e = .returned (doV 6 n a b) ∧ Below w.heap.size w w' := by
  obtain ⟨_, _, g3, g4, g5, g6⟩ := (good_iff _ _ _ _).1 g
  have hw : isW n = true := by simp [isW, g3, g4]
  have fa : fit n a = true := by simp [fit, g5]
  have fb : fit n b = true := by simp [fit, g6]
  by_cases hh : has 6 n a b = true
  · skip
    have hv : doV 6 n a b = .tuple #[.int .u32 (tot 6 n a b), .bool true, .int .i64 0] := by simp [doV, g, hh]
    rw [hv]
    clear hv
    go_enter Tryd.func12, Tryd.ntmps12
    go_wp2_with (first | (go_at_call 24; refine (asked_l 6 n a b 5 44 46 (fun _ => #[]) _ (fun _ => rfl)).mono ?_; rintro e w1 ⟨h, rfl, ⟨m3, m4, c1, c2, c3, c8, c9, c10⟩, hb1⟩) | (go_at_call 44; refine (pdo_6 n a b _ (by assumption) (by assumption) (by assumption) (by assumption) (by assumption) (by assumption)).mono ?_; rintro e w2 ⟨rfl, hd1⟩))
    go_ret3
    exact ⟨rfl, ((hb1.trans ((Below.refl _ _).alloc hb1.size _)).trans (hd1.below _))⟩
  · have hh : has 6 n a b = false := by simpa using hh
    have hv : doV 6 n a b = .tuple #[.int .u32 0, .bool false, .int .i64 0] := by simp [doV, g, hh]
    rw [hv]
    clear hv
    go_enter Tryd.func12, Tryd.ntmps12
    go_wp2_with (first | (go_at_call 24; refine (asked_l 6 n a b 5 44 46 (fun _ => #[]) _ (fun _ => rfl)).mono ?_; rintro e w1 ⟨h, rfl, ⟨m3, m4, c1, c2, c3, c8, c9, c10⟩, hb1⟩) | (go_at_call 44; refine (pdo_6 n a b _ (by assumption) (by assumption) (by assumption) (by assumption) (by assumption) (by assumption)).mono ?_; rintro e w2 ⟨rfl, hd1⟩))
    go_ret3
    exact ⟨rfl, ((hb1.trans ((Below.refl _ _).alloc hb1.size _)).trans (hd1.below _))⟩

set_option maxHeartbeats 1000000 in
theorem pDo_7 (n a b : Int) (w : World) (g : good 7 n a b = true) (h3 : 0 ≤ a) (h5 : 0 ≤ b) : Calls Tryd.prog 12 #[.int .i64 7, .int .i64 n, .int .u32 a, .int .u32 b] w fun e w' => e = .returned (doV 7 n a b) ∧ Below w.heap.size w w' := by
  obtain ⟨_, _, g3, g4, g5, g6⟩ := (good_iff _ _ _ _).1 g
  have hw : isW n = true := by simp [isW, g3, g4]
  have fa : fit n a = true := by simp [fit, g5]
  have fb : fit n b = true := by simp [fit, g6]
  by_cases hh : has 7 n a b = true
  · skip
    have hv : doV 7 n a b = .tuple #[.int .u32 (tot 7 n a b), .bool true, .int .i64 0] := by simp [doV, g, hh]
    rw [hv]
    clear hv
    go_enter Tryd.func12, Tryd.ntmps12
    go_wp2_with (first | (go_at_call 24; refine (asked_n 7 n a b 6 47 (fun _ => #[]) _ (fun _ => rfl)).mono ?_; rintro e w1 ⟨h, rfl, ⟨m3, m4, c1, c2, c3, c8, c9, c10⟩, hb1⟩) | (go_at_call 47; refine (pdo_7 n a b _ (by assumption) (by assumption) (by assumption) (by assumption) (by assumption) (by assumption)).mono ?_; rintro e w2 ⟨rfl, hd1⟩))
    go_ret3
    exact ⟨rfl, ((hb1.trans ((Below.refl _ _).alloc hb1.size _)).trans (hd1.below _))⟩
  · have hh : has 7 n a b = false := by simpa using hh
    have hv : doV 7 n a b = .tuple #[.int .u32 0, .bool false, .int .i64 0] := by simp [doV, g, hh]
    rw [hv]
    clear hv
    go_enter Tryd.func12, Tryd.ntmps12
    go_wp2_with (first | (go_at_call 24; refine (asked_n 7 n a b 6 47 (fun _ => #[]) _ (fun _ => rfl)).mono ?_; rintro e w1 ⟨h, rfl, ⟨m3, m4, c1, c2, c3, c8, c9, c10⟩, hb1⟩) | (go_at_call 47; refine (pdo_7 n a b _ (by assumption) (by assumption) (by assumption) (by assumption) (by assumption) (by assumption)).mono ?_; rintro e w2 ⟨rfl, hd1⟩))
    go_ret3
    exact ⟨rfl, ((hb1.trans ((Below.refl _ _).alloc hb1.size _)).trans (hd1.below _))⟩

set_option maxHeartbeats 1000000 in
theorem pDo_8 (n a b : Int) (w : World) (g : good 8 n a b = true) (h3 : 0 ≤ a) (h5 : 0 ≤ b) : Calls Tryd.prog 12 #[.int .i64 8, .int .i64 n, .int .u32 a, .int .u32 b] w fun e w' => e = .returned (doV 8 n a b) ∧ Below w.heap.size w w' := by
  obtain ⟨_, _, g3, g4, g5, g6⟩ := (good_iff _ _ _ _).1 g
  have hw : isW n = true := by simp [isW, g3, g4]
  have fa : fit n a = true := by simp [fit, g5]
  have fb : fit n b = true := by simp [fit, g6]
  have hh : has 8 n a b = true := by simp [has]
  have hv : doV 8 n a b = .tuple #[.int .u32 (tot 8 n a b), .bool true, .int .i64 0] := by simp [doV, g, hh]
  rw [hv]
  clear hv
  go_enter Tryd.func12, Tryd.ntmps12
  go_wp2_with (first | (go_at_call 24; refine (asked_n 8 n a b 7 60 (fun h => #[.pointer (some ⟨h + 7, 0, none⟩)]) _ (fun _ => rfl)).mono ?_; rintro e w1 ⟨h, rfl, ⟨m3, m4, c1, c2, c3, c8, c9, c10⟩, hb1⟩) | (go_at_call 60; refine (pdo_8 n a b _ (by assumption) (by assumption) (by assumption) (by assumption) (by assumption) (by assumption) (h + 7) (by have q : h + 7 < w1.heap.size := (by omega); simp [go_sem, *])).mono ?_; rintro e w2 ⟨rfl, hd1⟩))
  go_ret3
  exact ⟨rfl, ((hb1.trans ((Below.refl _ _).alloc hb1.size _)).trans (hd1.below _))⟩

set_option maxHeartbeats 1000000 in
theorem pDo_9 (n a b : Int) (w : World) (g : good 9 n a b = true) (h3 : 0 ≤ a) (h5 : 0 ≤ b) : Calls Tryd.prog 12 #[.int .i64 9, .int .i64 n, .int .u32 a, .int .u32 b] w fun e w' => e = .returned (doV 9 n a b) ∧ Below w.heap.size w w' := by
  obtain ⟨_, _, g3, g4, g5, g6⟩ := (good_iff _ _ _ _).1 g
  have hw : isW n = true := by simp [isW, g3, g4]
  have fa : fit n a = true := by simp [fit, g5]
  have fb : fit n b = true := by simp [fit, g6]
  have hh : has 9 n a b = true := by simp [has]
  have hv : doV 9 n a b = .tuple #[.int .u32 (tot 9 n a b), .bool true, .int .i64 0] := by simp [doV, g, hh]
  rw [hv]
  clear hv
  go_enter Tryd.func12, Tryd.ntmps12
  go_wp2_with (first | (go_at_call 24; refine (asked_n 9 n a b 8 60 (fun h => #[.pointer (some ⟨h + 9, 0, none⟩)]) _ (fun _ => rfl)).mono ?_; rintro e w1 ⟨h, rfl, ⟨m3, m4, c1, c2, c3, c8, c9, c10⟩, hb1⟩) | (go_at_call 60; refine (pdo_9 n a b _ (by assumption) (by assumption) (by assumption) (by assumption) (by assumption) (by assumption) (h + 9) (by have q : h + 9 < w1.heap.size := (by omega); simp [go_sem, *])).mono ?_; rintro e w2 ⟨rfl, hd1⟩))
  go_ret3
  exact ⟨rfl, ((hb1.trans ((Below.refl _ _).alloc hb1.size _)).trans (hd1.below _))⟩

set_option maxHeartbeats 1000000 in
theorem pDo_10 (n a b : Int) (w : World) (g : good 10 n a b = true) (h3 : 0 ≤ a) (h5 : 0 ≤ b) : Calls Tryd.prog 12 #[.int .i64 10, .int .i64 n, .int .u32 a, .int .u32 b] w fun e w' => e = .returned (doV 10 n a b) ∧ Below w.heap.size w w' := by
  obtain ⟨_, _, g3, g4, g5, g6⟩ := (good_iff _ _ _ _).1 g
  have hw : isW n = true := by simp [isW, g3, g4]
  have fa : fit n a = true := by simp [fit, g5]
  have fb : fit n b = true := by simp [fit, g6]
  have hh : has 10 n a b = true := by simp [has]
  have hv : doV 10 n a b = .tuple #[.int .u32 (tot 10 n a b), .bool true, .int .i64 0] := by simp [doV, g, hh]
  rw [hv]
  clear hv
  go_enter Tryd.func12, Tryd.ntmps12
  go_wp2_with (first | (go_at_call 24; refine (asked_n 10 n a b 9 60 (fun h => #[.pointer (some ⟨h + 11, 0, none⟩)]) _ (fun _ => rfl)).mono ?_; rintro e w1 ⟨h, rfl, ⟨m3, m4, c1, c2, c3, c8, c9, c10⟩, hb1⟩) | (go_at_call 60; refine (pdo_10 n a b _ (by assumption) (by assumption) (by assumption) (by assumption) (by assumption) (by assumption) (h + 11) (by have q : h + 11 < w1.heap.size := (by omega); simp [go_sem, *])).mono ?_; rintro e w2 ⟨rfl, hd1⟩))
  go_ret3
  exact ⟨rfl, ((hb1.trans ((Below.refl _ _).alloc hb1.size _)).trans (hd1.below _))⟩

set_option maxHeartbeats 1000000 in
theorem pDo_11 (n a b : Int) (w : World) (g : good 11 n a b = true) (h3 : 0 ≤ a) (h5 : 0 ≤ b) : Calls Tryd.prog 12 #[.int .i64 11, .int .i64 n, .int .u32 a, .int .u32 b] w fun e w' => e = .returned (doV 11 n a b) ∧ Below w.heap.size w w' := by
  obtain ⟨_, _, g3, g4, g5, g6⟩ := (good_iff _ _ _ _).1 g
  have hw : isW n = true := by simp [isW, g3, g4]
  have fa : fit n a = true := by simp [fit, g5]
  have fb : fit n b = true := by simp [fit, g6]
  by_cases hh : has 11 n a b = true
  · skip
    have hv : doV 11 n a b = .tuple #[.int .u32 (tot 11 n a b), .bool true, .int .i64 0] := by simp [doV, g, hh]
    rw [hv]
    clear hv
    go_enter Tryd.func12, Tryd.ntmps12
    go_wp2_with (first | (go_at_call 24; refine (asked_w 11 n a b 10 52 53 (fun _ => #[]) _ (fun _ => rfl)).mono ?_; rintro e w1 ⟨h, rfl, ⟨m3, m4, c1, c2, c3, c8, c9, c10⟩, hb1⟩) | (go_at_call 52; refine (pdo_11 n a b _ (by assumption) (by assumption) (by assumption) (by assumption) (by assumption) (by assumption)).mono ?_; rintro e w2 ⟨rfl, hd1⟩))
    go_ret3
    exact ⟨rfl, ((hb1.trans ((Below.refl _ _).alloc hb1.size _)).trans (hd1.below _))⟩
  · have hh : has 11 n a b = false := by simpa using hh
    have hv : doV 11 n a b = .tuple #[.int .u32 0, .bool false, .int .i64 0] := by simp [doV, g, hh]
    rw [hv]
    clear hv
    go_enter Tryd.func12, Tryd.ntmps12
    go_wp2_with (first | (go_at_call 24; refine (asked_w 11 n a b 10 52 53 (fun _ => #[]) _ (fun _ => rfl)).mono ?_; rintro e w1 ⟨h, rfl, ⟨m3, m4, c1, c2, c3, c8, c9, c10⟩, hb1⟩) | (go_at_call 52; refine (pdo_11 n a b _ (by assumption) (by assumption) (by assumption) (by assumption) (by assumption) (by assumption)).mono ?_; rintro e w2 ⟨rfl, hd1⟩))
    go_ret3
    exact ⟨rfl, ((hb1.trans ((Below.refl _ _).alloc hb1.size _)).trans (hd1.below _))⟩

set_option maxHeartbeats 1000000 in
theorem pDo_12 (n a b : Int) (w : World) (g : good 12 n a b = true) (h3 : 0 ≤ a) (h5 : 0 ≤ b) : Calls Tryd.prog 12 #[.int .i64 12, .int .i64 n, .int .u32 a, .int .u32 b] w fun e w' => e = .returned (doV 12 n a b) ∧ Below w.heap.size w w' := by
  obtain ⟨_, _, g3, g4, g5, g6⟩ := (good_iff _ _ _ _).1 g
  have hw : isW n = true := by simp [isW, g3, g4]
  have fa : fit n a = true := by simp [fit, g5]
  have fb : fit n b = true := by simp [fit, g6]
  by_cases hh : has 12 n a b = true
  · skip
    have hv : doV 12 n a b = .tuple #[.int .u32 (tot 12 n a b), .bool true, .int .i64 0] := by simp [doV, g, hh]
    rw [hv]
    clear hv
    go_enter Tryd.func12, Tryd.ntmps12
    go_wp2_with (first | (go_at_call 24; refine (asked_l 12 n a b 11 54 55 (fun _ => #[]) _ (fun _ => rfl)).mono ?_; rintro e w1 ⟨h, rfl, ⟨m3, m4, c1, c2, c3, c8, c9, c10⟩, hb1⟩) | (go_at_call 54; refine (pdo_12 n a b _ (by assumption) (by assumption) (by assumption) (by assumption) (by assumption) (by assumption)).mono ?_; rintro e w2 ⟨rfl, hd1⟩))
    go_ret3
    exact ⟨rfl, ((hb1.trans ((Below.refl _ _).alloc hb1.size _)).trans (hd1.below _))⟩
  · have hh : has 12 n a b = false := by simpa using hh
    have hv : doV 12 n a b = .tuple #[.int .u32 0, .bool false, .int .i64 0] := by simp [doV, g, hh]
    rw [hv]
    clear hv
    go_enter Tryd.func12, Tryd.ntmps12
    go_wp2_with (first | (go_at_call 24; refine (asked_l 12 n a b 11 54 55 (fun _ => #[]) _ (fun _ => rfl)).mono ?_; rintro e w1 ⟨h, rfl, ⟨m3, m4, c1, c2, c3, c8, c9, c10⟩, hb1⟩) | (go_at_call 54; refine (pdo_12 n a b _ (by assumption) (by assumption) (by assumption) (by assumption) (by assumption) (by assumption)).mono ?_; rintro e w2 ⟨rfl, hd1⟩))
    go_ret3
    exact ⟨rfl, ((hb1.trans ((Below.refl _ _).alloc hb1.size _)).trans (hd1.below _))⟩

set_option maxHeartbeats 1000000 in
theorem pDo_13 (n a b : Int) (w : World) (g : good 13 n a b = true) (h3 : 0 ≤ a) (h5 : 0 ≤ b) : Calls Tryd.prog 12 #[.int .i64 13, .int .i64 n, .int .u32 a, .int .u32 b] w fun e w' => e = .returned (doV 13 n a b) ∧ Below w.heap.size w w' := by
  obtain ⟨_, _, g3, g4, g5, g6⟩ := (good_iff _ _ _ _).1 g
  have hw : isW n = true := by simp [isW, g3, g4]
  have fa : fit n a = true := by simp [fit, g5]
  have fb : fit n b = true := by simp [fit, g6]
  by_cases hh : has 13 n a b = true
  · skip
    have hv : doV 13 n a b = .tuple #[.int .u32 (tot 13 n a b), .bool true, .int .i64 0] := by simp [doV, g, hh]
    rw [hv]
    clear hv
    go_enter Tryd.func12, Tryd.ntmps12
    go_wp2_with (first | (go_at_call 24; refine (asked_l 13 n a b 12 56 58 (fun _ => #[]) _ (fun _ => rfl)).mono ?_; rintro e w1 ⟨h, rfl, ⟨m3, m4, c1, c2, c3, c8, c9, c10⟩, hb1⟩) | (go_at_call 56; refine (pdo_13 n a b _ (by assumption) (by assumption) (by assumption) (by assumption) (by assumption) (by assumption)).mono ?_; rintro e w2 ⟨rfl, hd1⟩))
    go_ret3
    exact ⟨rfl, ((hb1.trans ((Below.refl _ _).alloc hb1.size _)).trans (hd1.below _))⟩
  · have hh : has 13 n a b = false := by simpa using hh
    have hv : doV 13 n a b = .tuple #[.int .u32 0, .bool false, .int .i64 0] := by simp [doV, g, hh]
    rw [hv]
    clear hv
    go_enter Tryd.func12, Tryd.ntmps12
    go_wp2_with (first | (go_at_call 24; refine (asked_l 13 n a b 12 56 58 (fun _ => #[]) _ (fun _ => rfl)).mono ?_; rintro e w1 ⟨h, rfl, ⟨m3, m4, c1, c2, c3, c8, c9, c10⟩, hb1⟩) | (go_at_call 56; refine (pdo_13 n a b _ (by assumption) (by assumption) (by assumption) (by assumption) (by assumption) (by assumption)).mono ?_; rintro e w2 ⟨rfl, hd1⟩))
    go_ret3
    exact ⟨rfl, ((hb1.trans ((Below.refl _ _).alloc hb1.size _)).trans (hd1.below _))⟩

/-- What asked tells of a row, whatever the words. -/
def Shape (v : Value) : Prop := (∃ (fd fw : Nat) (cd : Array Value), v = .agg #[.func (.func fd) #[] cd, .func (.func fw) #[] #[], .nilFunc]) ∨ (∃ (fd fl : Nat) (cd : Array Value), v = .agg #[.func (.func fd) #[] cd, .nilFunc, .func (.func fl) #[] #[]]) ∨ (∃ (fd : Nat) (cd : Array Value), v = .agg #[.func (.func fd) #[] cd, .nilFunc, .nilFunc]) ∨ v = .agg #[.nilFunc, .nilFunc, .nilFunc]
theorem asked_bad (op n a b : Int) (w : World) (g : good op n a b = false) : Calls Tryd.prog 24 #[.int .i64 op, .int .i64 n, .int .u32 a, .int .u32 b] w fun e w' => ∃ v, e = .returned (.tuple #[v, .bool false]) ∧ Shape v ∧ Below w.heap.size w w' := by
  by_cases ho : 1 ≤ op ∧ op ≤ 13
  · have hx : (isW n && fit n a && fit n b) = false := by
      rw [Bool.eq_false_iff]
      intro h
      have := (good_iff op n a b).2 (by simp [isW, fit] at h; omega)
      rw [g] at this; cases this
    have h : op = 1 ∨ op = 2 ∨ op = 3 ∨ op = 4 ∨ op = 5 ∨ op = 6 ∨ op = 7 ∨ op = 8 ∨ op = 9 ∨ op = 10 ∨ op = 11 ∨ op = 12 ∨ op = 13 := by omega
    rcases h with rfl | rfl | rfl | rfl | rfl | rfl | rfl | rfl | rfl | rfl | rfl | rfl | rfl
    · refine (asked_w 1 n a b 0 59 34 (fun h => #[.pointer (some ⟨h + 1, 0, none⟩)]) _ (fun _ => rfl)).mono ?_
      rintro e w1 ⟨h, rfl, _, hb1⟩
      exact ⟨_, by rw [hx], .inl ⟨_, _, _, rfl⟩, hb1⟩
    · refine (asked_w 2 n a b 1 59 36 (fun h => #[.pointer (some ⟨h + 3, 0, none⟩)]) _ (fun _ => rfl)).mono ?_
      rintro e w1 ⟨h, rfl, _, hb1⟩
      exact ⟨_, by rw [hx], .inl ⟨_, _, _, rfl⟩, hb1⟩
    · refine (asked_w 3 n a b 2 59 38 (fun h => #[.pointer (some ⟨h + 5, 0, none⟩)]) _ (fun _ => rfl)).mono ?_
      rintro e w1 ⟨h, rfl, _, hb1⟩
      exact ⟨_, by rw [hx], .inl ⟨_, _, _, rfl⟩, hb1⟩
    · refine (asked_l 4 n a b 3 41 42 (fun _ => #[]) _ (fun _ => rfl)).mono ?_
      rintro e w1 ⟨h, rfl, _, hb1⟩
      exact ⟨_, by rw [hx], .inr (.inl ⟨_, _, _, rfl⟩), hb1⟩
    · refine (asked_n 5 n a b 4 43 (fun _ => #[]) _ (fun _ => rfl)).mono ?_
      rintro e w1 ⟨h, rfl, _, hb1⟩
      exact ⟨_, by rw [hx], .inr (.inr (.inl ⟨_, _, rfl⟩)), hb1⟩
    · refine (asked_l 6 n a b 5 44 46 (fun _ => #[]) _ (fun _ => rfl)).mono ?_
      rintro e w1 ⟨h, rfl, _, hb1⟩
      exact ⟨_, by rw [hx], .inr (.inl ⟨_, _, _, rfl⟩), hb1⟩
    · refine (asked_n 7 n a b 6 47 (fun _ => #[]) _ (fun _ => rfl)).mono ?_
      rintro e w1 ⟨h, rfl, _, hb1⟩
      exact ⟨_, by rw [hx], .inr (.inr (.inl ⟨_, _, rfl⟩)), hb1⟩
    · refine (asked_n 8 n a b 7 60 (fun h => #[.pointer (some ⟨h + 7, 0, none⟩)]) _ (fun _ => rfl)).mono ?_
      rintro e w1 ⟨h, rfl, _, hb1⟩
      exact ⟨_, by rw [hx], .inr (.inr (.inl ⟨_, _, rfl⟩)), hb1⟩
    · refine (asked_n 9 n a b 8 60 (fun h => #[.pointer (some ⟨h + 9, 0, none⟩)]) _ (fun _ => rfl)).mono ?_
      rintro e w1 ⟨h, rfl, _, hb1⟩
      exact ⟨_, by rw [hx], .inr (.inr (.inl ⟨_, _, rfl⟩)), hb1⟩
    · refine (asked_n 10 n a b 9 60 (fun h => #[.pointer (some ⟨h + 11, 0, none⟩)]) _ (fun _ => rfl)).mono ?_
      rintro e w1 ⟨h, rfl, _, hb1⟩
      exact ⟨_, by rw [hx], .inr (.inr (.inl ⟨_, _, rfl⟩)), hb1⟩
    · refine (asked_w 11 n a b 10 52 53 (fun _ => #[]) _ (fun _ => rfl)).mono ?_
      rintro e w1 ⟨h, rfl, _, hb1⟩
      exact ⟨_, by rw [hx], .inl ⟨_, _, _, rfl⟩, hb1⟩
    · refine (asked_l 12 n a b 11 54 55 (fun _ => #[]) _ (fun _ => rfl)).mono ?_
      rintro e w1 ⟨h, rfl, _, hb1⟩
      exact ⟨_, by rw [hx], .inr (.inl ⟨_, _, _, rfl⟩), hb1⟩
    · refine (asked_l 13 n a b 12 56 58 (fun _ => #[]) _ (fun _ => rfl)).mono ?_
      rintro e w1 ⟨h, rfl, _, hb1⟩
      exact ⟨_, by rw [hx], .inr (.inl ⟨_, _, _, rfl⟩), hb1⟩
  · refine (asked_none op n a b w (fun h => ?_)).mono ?_
    · unfold opEntries
      simp only [findNow_int, findNow_nil]
      repeat rw [if_neg (by omega)]
    · rintro e w1 ⟨rfl, hb1⟩
      exact ⟨_, rfl, .inr (.inr (.inr rfl)), hb1⟩

theorem pDo_bad (op n a b : Int) (w : World) (g : good op n a b = false) : Calls Tryd.prog 12 #[.int .i64 op, .int .i64 n, .int .u32 a, .int .u32 b] w fun e w' => e = .returned (doV op n a b) ∧ Below w.heap.size w w' := by
  have hv : doV op n a b = .tuple #[.int .u32 0, .bool false, .int .i64 1] := by simp [doV, g]
  rw [hv]
  clear hv
  go_enter Tryd.func12, Tryd.ntmps12
  go_wp2_with (first | (go_at_call 24; refine (asked_bad _ _ _ _ _ (by assumption)).mono ?_; rintro e w1 ⟨v, rfl, (⟨fd, fw, cd, rfl⟩ | ⟨fd, fl, cd, rfl⟩ | ⟨fd, cd, rfl⟩ | rfl), hb1⟩))
  all_goals
    go_ret3
    exact ⟨rfl, hb1.trans ((Below.refl _ _).alloc hb1.size _)⟩
theorem pDo_any (op n a b : Int) (w : World) (h3 : 0 ≤ a) (h5 : 0 ≤ b) : Calls Tryd.prog 12 #[.int .i64 op, .int .i64 n, .int .u32 a, .int .u32 b] w fun e w' => e = .returned (doV op n a b) ∧ Below w.heap.size w w' := by
  by_cases g : good op n a b = true
  · obtain ⟨g1, g2, g3, g4, g5, g6⟩ := (good_iff _ _ _ _).1 g
    have h : op = 1 ∨ op = 2 ∨ op = 3 ∨ op = 4 ∨ op = 5 ∨ op = 6 ∨ op = 7 ∨ op = 8 ∨ op = 9 ∨ op = 10 ∨ op = 11 ∨ op = 12 ∨ op = 13 := by omega
    rcases h with rfl | rfl | rfl | rfl | rfl | rfl | rfl | rfl | rfl | rfl | rfl | rfl | rfl
    · exact pDo_1 n a b w g h3 h5
    · exact pDo_2 n a b w g h3 h5
    · exact pDo_3 n a b w g h3 h5
    · exact pDo_4 n a b w g h3 h5
    · exact pDo_5 n a b w g h3 h5
    · exact pDo_6 n a b w g h3 h5
    · exact pDo_7 n a b w g h3 h5
    · exact pDo_8 n a b w g h3 h5
    · exact pDo_9 n a b w g h3 h5
    · exact pDo_10 n a b w g h3 h5
    · exact pDo_11 n a b w g h3 h5
    · exact pDo_12 n a b w g h3 h5
    · exact pDo_13 n a b w g h3 h5
  · exact pDo_bad op n a b w (by simpa using g)

set_option maxHeartbeats 1000000 in
theorem pTotal_1 (n a b : Int) (w : World) (g : good 1 n a b = true) (h3 : 0 ≤ a) (h5 : 0 ≤ b) : Calls Tryd.prog 22 #[.int .i64 1, .int .i64 n, .int .u32 a, .int .u32 b] w fun e w' => e = .returned (.tuple #[.int .u32 (tot 1 n a b), .int .i64 0]) ∧ Below w.heap.size w w' := by
  obtain ⟨_, _, g3, g4, g5, g6⟩ := (good_iff _ _ _ _).1 g
  have hw : isW n = true := by simp [isW, g3, g4]
  have fa : fit n a = true := by simp [fit, g5]
  have fb : fit n b = true := by simp [fit, g6]
  go_enter Tryd.func22, Tryd.ntmps22
  go_wp2_with (first | (go_at_call 24; refine (asked_w 1 n a b 0 59 34 (fun h => #[.pointer (some ⟨h + 1, 0, none⟩)]) _ (fun _ => rfl)).mono ?_; rintro e w1 ⟨h, rfl, ⟨m3, m4, c1, c2, c3, c8, c9, c10⟩, hb1⟩) | (go_at_call 59; refine (pdo_1 n a b _ (by assumption) (by assumption) (by assumption) (by assumption) (by assumption) (by assumption) (h + 1) (by have q : h + 1 < w1.heap.size := (by omega); simp [go_sem, *])).mono ?_; rintro e w2 ⟨rfl, hd1⟩))
  go_ret2
  exact ⟨rfl, ((hb1.trans ((Below.refl _ _).alloc hb1.size _)).trans (hd1.below _))⟩

set_option maxHeartbeats 1000000 in
theorem pTotal_2 (n a b : Int) (w : World) (g : good 2 n a b = true) (h3 : 0 ≤ a) (h5 : 0 ≤ b) : Calls Tryd.prog 22 #[.int .i64 2, .int .i64 n, .int .u32 a, .int .u32 b] w fun e w' => e = .returned (.tuple #[.int .u32 (tot 2 n a b), .int .i64 0]) ∧ Below w.heap.size w w' := by
  obtain ⟨_, _, g3, g4, g5, g6⟩ := (good_iff _ _ _ _).1 g
  have hw : isW n = true := by simp [isW, g3, g4]
  have fa : fit n a = true := by simp [fit, g5]
  have fb : fit n b = true := by simp [fit, g6]
  go_enter Tryd.func22, Tryd.ntmps22
  go_wp2_with (first | (go_at_call 24; refine (asked_w 2 n a b 1 59 36 (fun h => #[.pointer (some ⟨h + 3, 0, none⟩)]) _ (fun _ => rfl)).mono ?_; rintro e w1 ⟨h, rfl, ⟨m3, m4, c1, c2, c3, c8, c9, c10⟩, hb1⟩) | (go_at_call 59; refine (pdo_2 n a b _ (by assumption) (by assumption) (by assumption) (by assumption) (by assumption) (by assumption) (h + 3) (by have q : h + 3 < w1.heap.size := (by omega); simp [go_sem, *])).mono ?_; rintro e w2 ⟨rfl, hd1⟩))
  go_ret2
  exact ⟨rfl, ((hb1.trans ((Below.refl _ _).alloc hb1.size _)).trans (hd1.below _))⟩

set_option maxHeartbeats 1000000 in
theorem pTotal_3 (n a b : Int) (w : World) (g : good 3 n a b = true) (h3 : 0 ≤ a) (h5 : 0 ≤ b) : Calls Tryd.prog 22 #[.int .i64 3, .int .i64 n, .int .u32 a, .int .u32 b] w fun e w' => e = .returned (.tuple #[.int .u32 (tot 3 n a b), .int .i64 0]) ∧ Below w.heap.size w w' := by
  obtain ⟨_, _, g3, g4, g5, g6⟩ := (good_iff _ _ _ _).1 g
  have hw : isW n = true := by simp [isW, g3, g4]
  have fa : fit n a = true := by simp [fit, g5]
  have fb : fit n b = true := by simp [fit, g6]
  go_enter Tryd.func22, Tryd.ntmps22
  go_wp2_with (first | (go_at_call 24; refine (asked_w 3 n a b 2 59 38 (fun h => #[.pointer (some ⟨h + 5, 0, none⟩)]) _ (fun _ => rfl)).mono ?_; rintro e w1 ⟨h, rfl, ⟨m3, m4, c1, c2, c3, c8, c9, c10⟩, hb1⟩) | (go_at_call 59; refine (pdo_3 n a b _ (by assumption) (by assumption) (by assumption) (by assumption) (by assumption) (by assumption) (h + 5) (by have q : h + 5 < w1.heap.size := (by omega); simp [go_sem, *])).mono ?_; rintro e w2 ⟨rfl, hd1⟩))
  go_ret2
  exact ⟨rfl, ((hb1.trans ((Below.refl _ _).alloc hb1.size _)).trans (hd1.below _))⟩

set_option maxHeartbeats 1000000 in
theorem pTotal_4 (n a b : Int) (w : World) (g : good 4 n a b = true) (h3 : 0 ≤ a) (h5 : 0 ≤ b) : Calls Tryd.prog 22 #[.int .i64 4, .int .i64 n, .int .u32 a, .int .u32 b] w fun e w' => e = .returned (.tuple #[.int .u32 (tot 4 n a b), .int .i64 0]) ∧ Below w.heap.size w w' := by
  obtain ⟨_, _, g3, g4, g5, g6⟩ := (good_iff _ _ _ _).1 g
  have hw : isW n = true := by simp [isW, g3, g4]
  have fa : fit n a = true := by simp [fit, g5]
  have fb : fit n b = true := by simp [fit, g6]
  go_enter Tryd.func22, Tryd.ntmps22
  go_wp2_with (first | (go_at_call 24; refine (asked_l 4 n a b 3 41 42 (fun _ => #[]) _ (fun _ => rfl)).mono ?_; rintro e w1 ⟨h, rfl, ⟨m3, m4, c1, c2, c3, c8, c9, c10⟩, hb1⟩) | (go_at_call 41; refine (pdo_4 n a b _ (by assumption) (by assumption) (by assumption) (by assumption) (by assumption) (by assumption)).mono ?_; rintro e w2 ⟨rfl, hd1⟩))
  go_ret2
  exact ⟨rfl, ((hb1.trans ((Below.refl _ _).alloc hb1.size _)).trans (hd1.below _))⟩

set_option maxHeartbeats 1000000 in
theorem pTotal_5 (n a b : Int) (w : World) (g : good 5 n a b = true) (h3 : 0 ≤ a) (h5 : 0 ≤ b) : Calls Tryd.prog 22 #[.int .i64 5, .int .i64 n, .int .u32 a, .int .u32 b] w fun e w' => e = .returned (.tuple #[.int .u32 (tot 5 n a b), .int .i64 0]) ∧ Below w.heap.size w w' := by
  obtain ⟨_, _, g3, g4, g5, g6⟩ := (good_iff _ _ _ _).1 g
  have hw : isW n = true := by simp [isW, g3, g4]
  have fa : fit n a = true := by simp [fit, g5]
  have fb : fit n b = true := by simp [fit, g6]
  go_enter Tryd.func22, Tryd.ntmps22
  go_wp2_with (first | (go_at_call 24; refine (asked_n 5 n a b 4 43 (fun _ => #[]) _ (fun _ => rfl)).mono ?_; rintro e w1 ⟨h, rfl, ⟨m3, m4, c1, c2, c3, c8, c9, c10⟩, hb1⟩) | (go_at_call 43; refine (pdo_5 n a b _ (by assumption) (by assumption) (by assumption) (by assumption) (by assumption) (by assumption)).mono ?_; rintro e w2 ⟨rfl, hd1⟩))
  go_ret2
  exact ⟨rfl, ((hb1.trans ((Below.refl _ _).alloc hb1.size _)).trans (hd1.below _))⟩

set_option maxHeartbeats 1000000 in
theorem pTotal_6 (n a b : Int) (w : World) (g : good 6 n a b = true) (h3 : 0 ≤ a) (h5 : 0 ≤ b) : Calls Tryd.prog 22 #[.int .i64 6, .int .i64 n, .int .u32 a, .int .u32 b] w fun e w' => e = .returned (.tuple #[.int .u32 (tot 6 n a b), .int .i64 0]) ∧ Below w.heap.size w w' := by
  obtain ⟨_, _, g3, g4, g5, g6⟩ := (good_iff _ _ _ _).1 g
  have hw : isW n = true := by simp [isW, g3, g4]
  have fa : fit n a = true := by simp [fit, g5]
  have fb : fit n b = true := by simp [fit, g6]
  go_enter Tryd.func22, Tryd.ntmps22
  go_wp2_with (first | (go_at_call 24; refine (asked_l 6 n a b 5 44 46 (fun _ => #[]) _ (fun _ => rfl)).mono ?_; rintro e w1 ⟨h, rfl, ⟨m3, m4, c1, c2, c3, c8, c9, c10⟩, hb1⟩) | (go_at_call 44; refine (pdo_6 n a b _ (by assumption) (by assumption) (by assumption) (by assumption) (by assumption) (by assumption)).mono ?_; rintro e w2 ⟨rfl, hd1⟩))
  go_ret2
  exact ⟨rfl, ((hb1.trans ((Below.refl _ _).alloc hb1.size _)).trans (hd1.below _))⟩

set_option maxHeartbeats 1000000 in
theorem pTotal_7 (n a b : Int) (w : World) (g : good 7 n a b = true) (h3 : 0 ≤ a) (h5 : 0 ≤ b) : Calls Tryd.prog 22 #[.int .i64 7, .int .i64 n, .int .u32 a, .int .u32 b] w fun e w' => e = .returned (.tuple #[.int .u32 (tot 7 n a b), .int .i64 0]) ∧ Below w.heap.size w w' := by
  obtain ⟨_, _, g3, g4, g5, g6⟩ := (good_iff _ _ _ _).1 g
  have hw : isW n = true := by simp [isW, g3, g4]
  have fa : fit n a = true := by simp [fit, g5]
  have fb : fit n b = true := by simp [fit, g6]
  go_enter Tryd.func22, Tryd.ntmps22
  go_wp2_with (first | (go_at_call 24; refine (asked_n 7 n a b 6 47 (fun _ => #[]) _ (fun _ => rfl)).mono ?_; rintro e w1 ⟨h, rfl, ⟨m3, m4, c1, c2, c3, c8, c9, c10⟩, hb1⟩) | (go_at_call 47; refine (pdo_7 n a b _ (by assumption) (by assumption) (by assumption) (by assumption) (by assumption) (by assumption)).mono ?_; rintro e w2 ⟨rfl, hd1⟩))
  go_ret2
  exact ⟨rfl, ((hb1.trans ((Below.refl _ _).alloc hb1.size _)).trans (hd1.below _))⟩

set_option maxHeartbeats 1000000 in
theorem pTotal_8 (n a b : Int) (w : World) (g : good 8 n a b = true) (h3 : 0 ≤ a) (h5 : 0 ≤ b) : Calls Tryd.prog 22 #[.int .i64 8, .int .i64 n, .int .u32 a, .int .u32 b] w fun e w' => e = .returned (.tuple #[.int .u32 (tot 8 n a b), .int .i64 0]) ∧ Below w.heap.size w w' := by
  obtain ⟨_, _, g3, g4, g5, g6⟩ := (good_iff _ _ _ _).1 g
  have hw : isW n = true := by simp [isW, g3, g4]
  have fa : fit n a = true := by simp [fit, g5]
  have fb : fit n b = true := by simp [fit, g6]
  go_enter Tryd.func22, Tryd.ntmps22
  go_wp2_with (first | (go_at_call 24; refine (asked_n 8 n a b 7 60 (fun h => #[.pointer (some ⟨h + 7, 0, none⟩)]) _ (fun _ => rfl)).mono ?_; rintro e w1 ⟨h, rfl, ⟨m3, m4, c1, c2, c3, c8, c9, c10⟩, hb1⟩) | (go_at_call 60; refine (pdo_8 n a b _ (by assumption) (by assumption) (by assumption) (by assumption) (by assumption) (by assumption) (h + 7) (by have q : h + 7 < w1.heap.size := (by omega); simp [go_sem, *])).mono ?_; rintro e w2 ⟨rfl, hd1⟩))
  go_ret2
  exact ⟨rfl, ((hb1.trans ((Below.refl _ _).alloc hb1.size _)).trans (hd1.below _))⟩

set_option maxHeartbeats 1000000 in
theorem pTotal_9 (n a b : Int) (w : World) (g : good 9 n a b = true) (h3 : 0 ≤ a) (h5 : 0 ≤ b) : Calls Tryd.prog 22 #[.int .i64 9, .int .i64 n, .int .u32 a, .int .u32 b] w fun e w' => e = .returned (.tuple #[.int .u32 (tot 9 n a b), .int .i64 0]) ∧ Below w.heap.size w w' := by
  obtain ⟨_, _, g3, g4, g5, g6⟩ := (good_iff _ _ _ _).1 g
  have hw : isW n = true := by simp [isW, g3, g4]
  have fa : fit n a = true := by simp [fit, g5]
  have fb : fit n b = true := by simp [fit, g6]
  go_enter Tryd.func22, Tryd.ntmps22
  go_wp2_with (first | (go_at_call 24; refine (asked_n 9 n a b 8 60 (fun h => #[.pointer (some ⟨h + 9, 0, none⟩)]) _ (fun _ => rfl)).mono ?_; rintro e w1 ⟨h, rfl, ⟨m3, m4, c1, c2, c3, c8, c9, c10⟩, hb1⟩) | (go_at_call 60; refine (pdo_9 n a b _ (by assumption) (by assumption) (by assumption) (by assumption) (by assumption) (by assumption) (h + 9) (by have q : h + 9 < w1.heap.size := (by omega); simp [go_sem, *])).mono ?_; rintro e w2 ⟨rfl, hd1⟩))
  go_ret2
  exact ⟨rfl, ((hb1.trans ((Below.refl _ _).alloc hb1.size _)).trans (hd1.below _))⟩

set_option maxHeartbeats 1000000 in
theorem pTotal_10 (n a b : Int) (w : World) (g : good 10 n a b = true) (h3 : 0 ≤ a) (h5 : 0 ≤ b) : Calls Tryd.prog 22 #[.int .i64 10, .int .i64 n, .int .u32 a, .int .u32 b] w fun e w' => e = .returned (.tuple #[.int .u32 (tot 10 n a b), .int .i64 0]) ∧ Below w.heap.size w w' := by
  obtain ⟨_, _, g3, g4, g5, g6⟩ := (good_iff _ _ _ _).1 g
  have hw : isW n = true := by simp [isW, g3, g4]
  have fa : fit n a = true := by simp [fit, g5]
  have fb : fit n b = true := by simp [fit, g6]
  go_enter Tryd.func22, Tryd.ntmps22
  go_wp2_with (first | (go_at_call 24; refine (asked_n 10 n a b 9 60 (fun h => #[.pointer (some ⟨h + 11, 0, none⟩)]) _ (fun _ => rfl)).mono ?_; rintro e w1 ⟨h, rfl, ⟨m3, m4, c1, c2, c3, c8, c9, c10⟩, hb1⟩) | (go_at_call 60; refine (pdo_10 n a b _ (by assumption) (by assumption) (by assumption) (by assumption) (by assumption) (by assumption) (h + 11) (by have q : h + 11 < w1.heap.size := (by omega); simp [go_sem, *])).mono ?_; rintro e w2 ⟨rfl, hd1⟩))
  go_ret2
  exact ⟨rfl, ((hb1.trans ((Below.refl _ _).alloc hb1.size _)).trans (hd1.below _))⟩

set_option maxHeartbeats 1000000 in
theorem pTotal_11 (n a b : Int) (w : World) (g : good 11 n a b = true) (h3 : 0 ≤ a) (h5 : 0 ≤ b) : Calls Tryd.prog 22 #[.int .i64 11, .int .i64 n, .int .u32 a, .int .u32 b] w fun e w' => e = .returned (.tuple #[.int .u32 (tot 11 n a b), .int .i64 0]) ∧ Below w.heap.size w w' := by
  obtain ⟨_, _, g3, g4, g5, g6⟩ := (good_iff _ _ _ _).1 g
  have hw : isW n = true := by simp [isW, g3, g4]
  have fa : fit n a = true := by simp [fit, g5]
  have fb : fit n b = true := by simp [fit, g6]
  go_enter Tryd.func22, Tryd.ntmps22
  go_wp2_with (first | (go_at_call 24; refine (asked_w 11 n a b 10 52 53 (fun _ => #[]) _ (fun _ => rfl)).mono ?_; rintro e w1 ⟨h, rfl, ⟨m3, m4, c1, c2, c3, c8, c9, c10⟩, hb1⟩) | (go_at_call 52; refine (pdo_11 n a b _ (by assumption) (by assumption) (by assumption) (by assumption) (by assumption) (by assumption)).mono ?_; rintro e w2 ⟨rfl, hd1⟩))
  go_ret2
  exact ⟨rfl, ((hb1.trans ((Below.refl _ _).alloc hb1.size _)).trans (hd1.below _))⟩

set_option maxHeartbeats 1000000 in
theorem pTotal_12 (n a b : Int) (w : World) (g : good 12 n a b = true) (h3 : 0 ≤ a) (h5 : 0 ≤ b) : Calls Tryd.prog 22 #[.int .i64 12, .int .i64 n, .int .u32 a, .int .u32 b] w fun e w' => e = .returned (.tuple #[.int .u32 (tot 12 n a b), .int .i64 0]) ∧ Below w.heap.size w w' := by
  obtain ⟨_, _, g3, g4, g5, g6⟩ := (good_iff _ _ _ _).1 g
  have hw : isW n = true := by simp [isW, g3, g4]
  have fa : fit n a = true := by simp [fit, g5]
  have fb : fit n b = true := by simp [fit, g6]
  go_enter Tryd.func22, Tryd.ntmps22
  go_wp2_with (first | (go_at_call 24; refine (asked_l 12 n a b 11 54 55 (fun _ => #[]) _ (fun _ => rfl)).mono ?_; rintro e w1 ⟨h, rfl, ⟨m3, m4, c1, c2, c3, c8, c9, c10⟩, hb1⟩) | (go_at_call 54; refine (pdo_12 n a b _ (by assumption) (by assumption) (by assumption) (by assumption) (by assumption) (by assumption)).mono ?_; rintro e w2 ⟨rfl, hd1⟩))
  go_ret2
  exact ⟨rfl, ((hb1.trans ((Below.refl _ _).alloc hb1.size _)).trans (hd1.below _))⟩

set_option maxHeartbeats 1000000 in
theorem pTotal_13 (n a b : Int) (w : World) (g : good 13 n a b = true) (h3 : 0 ≤ a) (h5 : 0 ≤ b) : Calls Tryd.prog 22 #[.int .i64 13, .int .i64 n, .int .u32 a, .int .u32 b] w fun e w' => e = .returned (.tuple #[.int .u32 (tot 13 n a b), .int .i64 0]) ∧ Below w.heap.size w w' := by
  obtain ⟨_, _, g3, g4, g5, g6⟩ := (good_iff _ _ _ _).1 g
  have hw : isW n = true := by simp [isW, g3, g4]
  have fa : fit n a = true := by simp [fit, g5]
  have fb : fit n b = true := by simp [fit, g6]
  go_enter Tryd.func22, Tryd.ntmps22
  go_wp2_with (first | (go_at_call 24; refine (asked_l 13 n a b 12 56 58 (fun _ => #[]) _ (fun _ => rfl)).mono ?_; rintro e w1 ⟨h, rfl, ⟨m3, m4, c1, c2, c3, c8, c9, c10⟩, hb1⟩) | (go_at_call 56; refine (pdo_13 n a b _ (by assumption) (by assumption) (by assumption) (by assumption) (by assumption) (by assumption)).mono ?_; rintro e w2 ⟨rfl, hd1⟩))
  go_ret2
  exact ⟨rfl, ((hb1.trans ((Below.refl _ _).alloc hb1.size _)).trans (hd1.below _))⟩

theorem pTotal_any (op n a b : Int) (w : World) (h3 : 0 ≤ a) (h5 : 0 ≤ b) : Calls Tryd.prog 22 #[.int .i64 op, .int .i64 n, .int .u32 a, .int .u32 b] w fun e w' => e = .returned (totV op n a b) ∧ Below w.heap.size w w' := by
  by_cases g : good op n a b = true
  · have hv : totV op n a b = .tuple #[.int .u32 (tot op n a b), .int .i64 0] := by simp [totV, g]
    rw [hv]
    obtain ⟨g1, g2, g3, g4, g5, g6⟩ := (good_iff _ _ _ _).1 g
    have h : op = 1 ∨ op = 2 ∨ op = 3 ∨ op = 4 ∨ op = 5 ∨ op = 6 ∨ op = 7 ∨ op = 8 ∨ op = 9 ∨ op = 10 ∨ op = 11 ∨ op = 12 ∨ op = 13 := by omega
    rcases h with rfl | rfl | rfl | rfl | rfl | rfl | rfl | rfl | rfl | rfl | rfl | rfl | rfl
    · exact pTotal_1 n a b w g h3 h5
    · exact pTotal_2 n a b w g h3 h5
    · exact pTotal_3 n a b w g h3 h5
    · exact pTotal_4 n a b w g h3 h5
    · exact pTotal_5 n a b w g h3 h5
    · exact pTotal_6 n a b w g h3 h5
    · exact pTotal_7 n a b w g h3 h5
    · exact pTotal_8 n a b w g h3 h5
    · exact pTotal_9 n a b w g h3 h5
    · exact pTotal_10 n a b w g h3 h5
    · exact pTotal_11 n a b w g h3 h5
    · exact pTotal_12 n a b w g h3 h5
    · exact pTotal_13 n a b w g h3 h5
  · have g : good op n a b = false := by simpa using g
    have hv : totV op n a b = .tuple #[.int .u32 0, .int .i64 1] := by simp [totV, g]
    rw [hv]
    clear hv
    go_enter Tryd.func22, Tryd.ntmps22
    go_wp2_with (first | (go_at_call 24; refine (asked_bad _ _ _ _ _ (by assumption)).mono ?_; rintro e w1 ⟨v, rfl, (⟨fd, fw, cd, rfl⟩ | ⟨fd, fl, cd, rfl⟩ | ⟨fd, cd, rfl⟩ | rfl), hb1⟩))
    all_goals
      go_ret2
      exact ⟨rfl, hb1.trans ((Below.refl _ _).alloc hb1.size _)⟩

end Go.Proofs.YtpgbepgbgpjmcaaDoor
