/- Walks of kindOf, slices.Contains at int, Validate. -/
import Derived.Deep.QuietTactic
import Derived.Test.YtdojafpjipcbjaaF7
namespace Go.Proofs.Ytdojafpjipcbjaa
open Go.RowKit
set_option linter.unusedVariables false
set_option linter.unusedSimpArgs false
theorem moving_any (o : Int) (w : World) (h0 : 0 ≤ o) (h1 : o ≤ 6) : Calls Try.prog 51 #[.int .i64 o] w (KRet o w) := by
  rcases (show o = 0 ∨ o = 1 ∨ o = 2 ∨ o = 3 ∨ o = 4 ∨ o = 5 ∨ o = 6 by omega) with rfl | rfl | rfl | rfl | rfl | rfl | rfl
  · exact of_0 w
  · exact of_1 w
  · exact of_2 w
  · exact of_3 w
  · exact of_4 w
  · exact of_5 w
  · exact of_6 w
theorem counting_any (o : Int) (w : World) (h0 : 7 ≤ o) (h1 : o ≤ 19) : Calls Try.prog 52 #[.int .i64 o] w (KRet o w) := by
  rcases (show o = 7 ∨ o = 8 ∨ o = 9 ∨ o = 10 ∨ o = 11 ∨ o = 12 ∨ o = 13 ∨ o = 14 ∨ o = 15 ∨ o = 16 ∨ o = 17 ∨ o = 18 ∨ o = 19 by omega) with rfl | rfl | rfl | rfl | rfl | rfl | rfl | rfl | rfl | rfl | rfl | rfl | rfl
  · exact of_7 w
  · exact of_8 w
  · exact of_9 w
  · exact of_10 w
  · exact of_11 w
  · exact of_12 w
  · exact of_13 w
  · exact of_14 w
  · exact of_15 w
  · exact of_16 w
  · exact of_17 w
  · exact of_18 w
  · exact of_19 w
theorem other_any (o : Int) (w : World) (h0 : 20 ≤ o) (h1 : o ≤ 36) : Calls Try.prog 53 #[.int .i64 o] w (KRet o w) := by
  rcases (show o = 20 ∨ o = 21 ∨ o = 22 ∨ o = 23 ∨ o = 24 ∨ o = 25 ∨ o = 26 ∨ o = 27 ∨ o = 28 ∨ o = 29 ∨ o = 30 ∨ o = 31 ∨ o = 32 ∨ o = 33 ∨ o = 34 ∨ o = 35 ∨ o = 36 by omega) with rfl | rfl | rfl | rfl | rfl | rfl | rfl | rfl | rfl | rfl | rfl | rfl | rfl | rfl | rfl | rfl | rfl
  · exact of_20 w
  · exact of_21 w
  · exact of_22 w
  · exact of_23 w
  · exact of_24 w
  · exact of_25 w
  · exact of_26 w
  · exact of_27 w
  · exact of_28 w
  · exact of_29 w
  · exact of_30 w
  · exact of_31 w
  · exact of_32 w
  · exact of_33 w
  · exact of_34 w
  · exact of_35 w
  · exact of_36 w
/-- No kind is returned. -/
def KNone (w : World) (e : Ending) (w' : World) : Prop := e = .returned (.tuple #[.agg #[.nilFunc, .slice none 0 0, .nilFunc], .bool false]) ∧ Below w.heap.size w w'
theorem other_bad (o : Int) (w : World) (h : o < 20 ∨ 36 < o) : Calls Try.prog 53 #[.int .i64 o] w (KNone w) := by
  have z20 : (o == 20) = false := by simp; omega
  have z21 : (o == 21) = false := by simp; omega
  have z22 : (o == 22) = false := by simp; omega
  have z23 : (o == 23) = false := by simp; omega
  have z24 : (o == 24) = false := by simp; omega
  have z25 : (o == 25) = false := by simp; omega
  have z26 : (o == 26) = false := by simp; omega
  have z27 : (o == 27) = false := by simp; omega
  have z28 : (o == 28) = false := by simp; omega
  have z29 : (o == 29) = false := by simp; omega
  have z30 : (o == 30) = false := by simp; omega
  have z31 : (o == 31) = false := by simp; omega
  have z32 : (o == 32) = false := by simp; omega
  have z33 : (o == 33) = false := by simp; omega
  have z34 : (o == 34) = false := by simp; omega
  have z35 : (o == 35) = false := by simp; omega
  have z36 : (o == 36) = false := by simp; omega
  clear h
  go_enter Try.func53, Try.ntmps53
  go_wp2_with fail
  exact bodyPost_ret (v := .tuple #[.agg #[.nilFunc, .slice none 0 0, .nilFunc], .bool false]) (by simp [results, Try.results53, go_sem]) rfl ⟨rfl, (Below.refl _ _).alloc (Nat.le_refl _) _⟩
set_option maxRecDepth 100000 in
theorem kindOf_bad (o : Int) (w : World) (h : o < 0 ∨ 36 < o) : Calls Try.prog 30 #[.int .i64 o] w (KNone w) := by
  rcases h with h | h
  · have d0 : decide (0 ≤ o) = false := decide_eq_false (by omega)
    have d1 : decide (7 ≤ o) = false := decide_eq_false (by omega)
    go_enter Try.func30, Try.ntmps30
    go_wp2_with ((go_at_call 53; refine (other_bad _ _ (by omega)).mono ?_); rintro e w1 ⟨rfl, hb⟩; obtain ⟨⟨z0, z1, z2⟩, ⟨f0, f1, f2⟩, hz⟩ := res_kind hb)
    exact bodyPost_ret (v := .tuple #[.agg #[.nilFunc, .slice none 0 0, .nilFunc], .bool false]) (by simp [results, Try.results30, go_sem, z0, z1, z2, hz]) rfl ⟨rfl, below_at (below_at (below_at (below_box hb) (Nat.le_refl _) 0 _) (Nat.le_refl _) 1 _) (Nat.le_refl _) 2 _⟩
  · have d0 : decide (0 ≤ o) = true := decide_eq_true (by omega)
    have d2 : decide (o ≤ 6) = false := decide_eq_false (by omega)
    have d1 : decide (7 ≤ o) = true := decide_eq_true (by omega)
    have d3 : decide (o ≤ 19) = false := decide_eq_false (by omega)
    go_enter Try.func30, Try.ntmps30
    go_wp2_with ((go_at_call 53; refine (other_bad _ _ (by omega)).mono ?_); rintro e w1 ⟨rfl, hb⟩; obtain ⟨⟨z0, z1, z2⟩, ⟨f0, f1, f2⟩, hz⟩ := res_kind hb)
    exact bodyPost_ret (v := .tuple #[.agg #[.nilFunc, .slice none 0 0, .nilFunc], .bool false]) (by simp [results, Try.results30, go_sem, z0, z1, z2, hz]) rfl ⟨rfl, below_at (below_at (below_at (below_box hb) (Nat.le_refl _) 0 _) (Nat.le_refl _) 1 _) (Nat.le_refl _) 2 _⟩
theorem Knd.shape {base : Nat} {w : World} {k : Value} {o : Int} (h : Knd base w k o) : ∃ (FF WW : FuncId) (cF cW : Array Value) (g : Nat), k = .agg #[.func (.func FF) #[] cF, .slice (some ⟨g, 0, none⟩) (szI o).length (szI o).length, .func (.func WW) #[] cW] := by
  obtain ⟨F, W, cF, cW, g, T, h1, _⟩ := h
  exact ⟨F, W, cF, cW, g, h1⟩
set_option maxRecDepth 100000 in
theorem kindOf_any (o : Int) (w : World) (h0 : 0 ≤ o) (h1 : o ≤ 36) : Calls Try.prog 30 #[.int .i64 o] w (KRet o w) := by
  have d0 : decide (0 ≤ o) = true := decide_eq_true (by omega)
  by_cases c6 : o ≤ 6
  · have d2 : decide (o ≤ 6) = true := decide_eq_true (by omega)
    go_enter Try.func30, Try.ntmps30
    go_wp2_with ((go_at_call 51; refine (moving_any _ _ (by omega) (by omega)).mono ?_); rintro e w1 ⟨k, rfl, hk, hb⟩; have HK := Lib.hid hk; obtain ⟨F, W, cF, cW, g, rfl⟩ := hk.shape; clear hk; obtain ⟨⟨z0, z1, z2⟩, ⟨f0, f1, f2⟩, hz⟩ := res_kind hb)
    exact bodyPost_ret (v := .tuple #[.agg #[.func (.func F) #[] cF, .slice (some ⟨g, 0, none⟩) (szI o).length (szI o).length, .func (.func W) #[] cW], .bool true]) (by simp [results, Try.results30, go_sem, z0, z1, z2, hz]) rfl
      ⟨_, rfl, ((HK.out.keep (by simp) (fun b hb _ => heap_set3 (by rw [World.size_alloc] at hb; omega))).mono (by rw [World.size_alloc]; omega)), below_at (below_at (below_at (below_box hb) (Nat.le_refl _) 0 _) (Nat.le_refl _) 1 _) (Nat.le_refl _) 2 _⟩
  · have d2 : decide (o ≤ 6) = false := decide_eq_false (by omega)
    have d1 : decide (7 ≤ o) = true := decide_eq_true (by omega)
    by_cases c19 : o ≤ 19
    · have d3 : decide (o ≤ 19) = true := decide_eq_true (by omega)
      go_enter Try.func30, Try.ntmps30
      go_wp2_with ((go_at_call 52; refine (counting_any _ _ (by omega) (by omega)).mono ?_); rintro e w1 ⟨k, rfl, hk, hb⟩; have HK := Lib.hid hk; obtain ⟨F, W, cF, cW, g, rfl⟩ := hk.shape; clear hk; obtain ⟨⟨z0, z1, z2⟩, ⟨f0, f1, f2⟩, hz⟩ := res_kind hb)
      exact bodyPost_ret (v := .tuple #[.agg #[.func (.func F) #[] cF, .slice (some ⟨g, 0, none⟩) (szI o).length (szI o).length, .func (.func W) #[] cW], .bool true]) (by simp [results, Try.results30, go_sem, z0, z1, z2, hz]) rfl
        ⟨_, rfl, ((HK.out.keep (by simp) (fun b hb _ => heap_set3 (by rw [World.size_alloc] at hb; omega))).mono (by rw [World.size_alloc]; omega)), below_at (below_at (below_at (below_box hb) (Nat.le_refl _) 0 _) (Nat.le_refl _) 1 _) (Nat.le_refl _) 2 _⟩
    · have d3 : decide (o ≤ 19) = false := decide_eq_false (by omega)
      go_enter Try.func30, Try.ntmps30
      go_wp2_with ((go_at_call 53; refine (other_any _ _ (by omega) (by omega)).mono ?_); rintro e w1 ⟨k, rfl, hk, hb⟩; have HK := Lib.hid hk; obtain ⟨F, W, cF, cW, g, rfl⟩ := hk.shape; clear hk; obtain ⟨⟨z0, z1, z2⟩, ⟨f0, f1, f2⟩, hz⟩ := res_kind hb)
      exact bodyPost_ret (v := .tuple #[.agg #[.func (.func F) #[] cF, .slice (some ⟨g, 0, none⟩) (szI o).length (szI o).length, .func (.func W) #[] cW], .bool true]) (by simp [results, Try.results30, go_sem, z0, z1, z2, hz]) rfl
        ⟨_, rfl, ((HK.out.keep (by simp) (fun b hb _ => heap_set3 (by rw [World.size_alloc] at hb; omega))).mono (by rw [World.size_alloc]; omega)), below_at (below_at (below_at (below_box hb) (Nat.le_refl _) 0 _) (Nat.le_refl _) 1 _) (Nat.le_refl _) 2 _⟩
def IdxOk (r z : Int) (l : List Int) : Prop := decide (0 ≤ r) = l.contains z
set_option maxRecDepth 100000 in
theorem index_int (l : List Int) (v : Value) (z : Int) (w : World) (hv : Ints .i64 w v l) : Calls Try.prog 54 #[v, .int .i64 z] w fun e w' => ∃ r : Int, e = .returned (.int .i64 r) ∧ IdxOk r z l ∧ w = w' := by
  have HV := Lib.hid hv
  obtain ⟨a, c, rfl, h1, h2⟩ := hv.shape
  clear hv
  go_enter Try.func54, Try.ntmps54
  go_wp2_with fail
  go_loop [8] (fun i => ∃ j : Nat, j ≤ l.length ∧ i = .int .i64 j ∧ Hid (¬ z ∈ l.take j)) (fun i => l.length - (intOf i).toNat)
  case atStart => exact ⟨0, Nat.zero_le _, rfl, by simp [Hid]⟩
  case round =>
    obtain ⟨j, hj, rfl, hno⟩ := hrel
    by_cases hlt : j < l.length
    · obtain ⟨b, q, c2, e', _, hbl, hc⟩ := HV.out.at hlt
      cases e'
      have i0 : (0 : Int) ≤ (j : Int) := by omega
      have i1 : (j : Int) < l.length := by omega
      have HG : Hid (l.getD j 0 = l[j]) := by show _ = _; rw [List.getD_eq_getElem?_getD, List.getElem?_eq_getElem hlt]; rfl
      have HT : Hid (l.take (j + 1) = l.take j ++ [l[j]]) := List.take_succ_eq_append_getElem hlt
      rw [HG.out] at hc
      have HM : Hid (l[j] ∈ l) := List.getElem_mem hlt
      generalize l[j] = y at *
      cases hz : (z == y)
      · have HZ : Hid (z ≠ y) := by show z ≠ y; simpa using hz
        go_wp2_with fail
        go_round
        case rel => exact ⟨j + 1, by omega, by go_num, by show ¬ _; rw [HT.out, List.mem_append]; rintro (h | h); exact hno.out h; exact HZ.out (by simpa using h)⟩
        case measure => simp [intOf]; omega
      · have HZ : Hid (z = y) := by show z = y; simpa using hz
        go_wp2_with fail
        go_ret
        exact ⟨_, rfl, by unfold IdxOk; rw [HZ.out]; simp [HM.out], rfl⟩
    · obtain rfl : j = l.length := by omega
      go_wp2_with fail
      go_ret
      refine ⟨_, rfl, ?_, rfl⟩
      have := hno.out
      rw [List.take_length] at this
      unfold IdxOk
      simp [this]
theorem contains_int (l : List Int) (v : Value) (z : Int) (w : World) (hv : Ints .i64 w v l) : Calls Try.prog 31 #[v, .int .i64 z] w fun e w' => e = .returned (.bool (l.contains z)) ∧ w = w' := by
  have HV := Lib.hid hv
  obtain ⟨a, c, rfl, h1, h2⟩ := hv.shape
  clear hv
  go_enter Try.func31, Try.ntmps31
  go_wp2_with ((go_at_call 54; refine (index_int l _ z _ HV.out).mono ?_); rintro e w1 ⟨r, rfl, hr, rfl⟩)
  go_ret
  exact ⟨ret_b hr, rfl⟩
end Go.Proofs.Ytdojafpjipcbjaa
namespace Go.Proofs.Ytdojafpjipcbjaa
open Go.RowKit
set_option linter.unusedVariables false
set_option linter.unusedSimpArgs false
/-- What a kind gives, in its own shape. -/
theorem Knd.use {base : Nat} {w : World} {o : Int} {FF WW : FuncId} {cF cW : Array Value} {g n m : Nat} (h : Knd base w (.agg #[.func (.func FF) #[] cF, .slice (some ⟨g, 0, none⟩) n m, .func (.func WW) #[] cW]) o) :
    (∀ (args : Array Value) (w : World), (callFunc FF args).run Try.prog w = .ok (.enter FF args) w) ∧ (∀ (args : Array Value) (w : World), (callFunc WW args).run Try.prog w = .ok (.enter WW args) w) ∧ ∀ wk, Since w wk →
      Ints .i64 wk (.slice (some ⟨g, 0, none⟩) n m) (szI o) ∧
      (∀ x : Ins, x.o = o → x.z ∈ szI o → Calls Try.prog FF (#[InsV x] ++ cF) wk fun e w' => e = .returned (.bool (fitI x)) ∧ Below wk.heap.size wk w') ∧
      (∀ x : Ins, x.o = o → okI x = true → Calls Try.prog WW (#[InsV x] ++ cW) wk fun e w' => ∃ v, e = .returned v ∧ RowI w' wk.heap.size 5 .u8 v (bodyI x) ∧ Below wk.heap.size wk w') := by
  obtain ⟨F, W, cF', cW', g', T, h1, h2, h3, h4, h5⟩ := h
  simp only [Value.agg.injEq, Array.mk.injEq, List.cons.injEq, Value.func.injEq, Fn.func.injEq, Value.slice.injEq, Option.some.injEq, Addr.mk.injEq, and_true, true_and] at h1
  obtain ⟨⟨rfl, rfl⟩, ⟨rfl, rfl, rfl⟩, rfl, rfl⟩ := h1
  exact ⟨h2, h3, fun wk hs => h5 wk hs.size fun b hb => hs.block b (h4 b hb).2⟩
/-- The error of an instruction. -/
def vaI (x : Ins) : Int := if okI x = true then 0 else 1
set_option maxRecDepth 100000 in
set_option maxHeartbeats 1000000 in
theorem va_z (o d s z i : Int) (w : World) (o0 : 0 ≤ o) (o1 : o ≤ 36) (hz : (szI o).contains z = false) : Calls Try.prog 14 #[.agg #[.int .i64 o, .int .i64 d, .int .i64 s, .int .i64 z, .int .i64 i]] w fun e w' => e = .returned (.int .i64 1) ∧ Below w.heap.size w w' := by
  have C0 := Lib.hid (fun w => kindOf_any o w o0 o1)
  have C1 : Hid (∀ (w : World) (v : Value), Ints .i64 w v (szI o) → Calls Try.prog 31 #[v, .int .i64 z] w fun e w' => e = .returned (.bool false) ∧ w = w') := fun w v h => by have h1 := contains_int (szI o) v z w h; rw [hz] at h1; exact h1
  clear o0 o1 hz
  go_enter Try.func14, Try.ntmps14
  go_wp2_with (first | ((go_at_call 30; refine (C0.out _).mono ?_); rintro e w1 ⟨k, rfl, hk, hb⟩; obtain ⟨F, W, cF, cW, g, rfl⟩ := hk.shape; obtain ⟨eF, eW, hu⟩ := hk.use; clear hk; have HU := Lib.hid (hu _ (show Since w1 (w1.alloc (.cells #[.func (.func F) #[] cF, .slice (some ⟨g, 0, none⟩) (szI o).length (szI o).length, .func (.func W) #[] cW] 64)) from (Below.refl _ _).alloc (Nat.le_refl _) _)); clear hu; have HB := Lib.hid hb; have x0 : w1.cell? ⟨w.heap.size, 0, none⟩ = some (.int .i64 o) := box_kept hb 0; have x1 : w1.cell? ⟨w.heap.size, 1, none⟩ = some (.int .i64 d) := box_kept hb 1; have x2 : w1.cell? ⟨w.heap.size, 2, none⟩ = some (.int .i64 s) := box_kept hb 2; have x3 : w1.cell? ⟨w.heap.size, 3, none⟩ = some (.int .i64 z) := box_kept hb 3; have x4 : w1.cell? ⟨w.heap.size, 4, none⟩ = some (.int .i64 i) := box_kept hb 4; have hlt : w.heap.size < w1.heap.size := (by have := hb.size; simp at this; omega); clear hb) | ((go_at_call 31; refine (C1.out _ _ HU.out.1).mono ?_); rintro e w2 ⟨rfl, rfl⟩))
  go_ret
  exact ⟨rfl, below_hop (below_box HB.out) ((Below.refl _ _).alloc (Nat.le_refl _) _)⟩
set_option maxRecDepth 100000 in
set_option maxHeartbeats 1000000 in
theorem va_f (o d s z i : Int) (w : World) (o0 : 0 ≤ o) (o1 : o ≤ 36) (hz : (szI o).contains z = true) (hf : fitI ⟨o, d, s, z, i⟩ = false) : Calls Try.prog 14 #[.agg #[.int .i64 o, .int .i64 d, .int .i64 s, .int .i64 z, .int .i64 i]] w fun e w' => e = .returned (.int .i64 1) ∧ Below w.heap.size w w' := by
  have C0 := Lib.hid (fun w => kindOf_any o w o0 o1)
  have C1 : Hid (∀ (w : World) (v : Value), Ints .i64 w v (szI o) → Calls Try.prog 31 #[v, .int .i64 z] w fun e w' => e = .returned (.bool true) ∧ w = w') := fun w v h => by have h1 := contains_int (szI o) v z w h; rw [hz] at h1; exact h1
  have C2 : Hid (∀ (w : World) (G : FuncId) (cs : Array Value), (∀ x : Ins, x.o = o → x.z ∈ szI o → Calls Try.prog G (#[InsV x] ++ cs) w fun e w' => e = .returned (.bool (fitI x)) ∧ Below w.heap.size w w') → Calls Try.prog G (#[.agg #[.int .i64 o, .int .i64 d, .int .i64 s, .int .i64 z, .int .i64 i]] ++ cs) w fun e w' => e = .returned (.bool false) ∧ Below w.heap.size w w') := fun w G cs h => by
    have h1 := h ⟨o, d, s, z, i⟩ rfl (by simpa using hz)
    rw [hf] at h1
    exact h1
  clear o0 o1 hz hf
  go_enter Try.func14, Try.ntmps14
  go_wp2_with (first | ((go_at_call 30; refine (C0.out _).mono ?_); rintro e w1 ⟨k, rfl, hk, hb⟩; obtain ⟨F, W, cF, cW, g, rfl⟩ := hk.shape; obtain ⟨eF, eW, hu⟩ := hk.use; clear hk; have HU := Lib.hid (hu _ (show Since w1 (w1.alloc (.cells #[.func (.func F) #[] cF, .slice (some ⟨g, 0, none⟩) (szI o).length (szI o).length, .func (.func W) #[] cW] 64)) from (Below.refl _ _).alloc (Nat.le_refl _) _)); clear hu; have HB := Lib.hid hb; have x0 : w1.cell? ⟨w.heap.size, 0, none⟩ = some (.int .i64 o) := box_kept hb 0; have x1 : w1.cell? ⟨w.heap.size, 1, none⟩ = some (.int .i64 d) := box_kept hb 1; have x2 : w1.cell? ⟨w.heap.size, 2, none⟩ = some (.int .i64 s) := box_kept hb 2; have x3 : w1.cell? ⟨w.heap.size, 3, none⟩ = some (.int .i64 z) := box_kept hb 3; have x4 : w1.cell? ⟨w.heap.size, 4, none⟩ = some (.int .i64 i) := box_kept hb 4; have hlt : w.heap.size < w1.heap.size := (by have := hb.size; simp at this; omega); clear hb) | ((go_at_call 31; refine (C1.out _ _ HU.out.1).mono ?_); rintro e w2 ⟨rfl, rfl⟩) | (with_reducible refine (C2.out _ _ _ HU.out.2.1).mono ?_; rintro e w3 ⟨rfl, hb3⟩))
  go_ret
  exact ⟨rfl, below_hop (below_hop (below_box HB.out) ((Below.refl _ _).alloc (Nat.le_refl _) _)) hb3⟩
set_option maxRecDepth 100000 in
set_option maxHeartbeats 1000000 in
theorem va_t (o d s z i : Int) (w : World) (o0 : 0 ≤ o) (o1 : o ≤ 36) (hz : (szI o).contains z = true) (hf : fitI ⟨o, d, s, z, i⟩ = true) : Calls Try.prog 14 #[.agg #[.int .i64 o, .int .i64 d, .int .i64 s, .int .i64 z, .int .i64 i]] w fun e w' => e = .returned (.int .i64 0) ∧ Below w.heap.size w w' := by
  have C0 := Lib.hid (fun w => kindOf_any o w o0 o1)
  have C1 : Hid (∀ (w : World) (v : Value), Ints .i64 w v (szI o) → Calls Try.prog 31 #[v, .int .i64 z] w fun e w' => e = .returned (.bool true) ∧ w = w') := fun w v h => by have h1 := contains_int (szI o) v z w h; rw [hz] at h1; exact h1
  have C2 : Hid (∀ (w : World) (G : FuncId) (cs : Array Value), (∀ x : Ins, x.o = o → x.z ∈ szI o → Calls Try.prog G (#[InsV x] ++ cs) w fun e w' => e = .returned (.bool (fitI x)) ∧ Below w.heap.size w w') → Calls Try.prog G (#[.agg #[.int .i64 o, .int .i64 d, .int .i64 s, .int .i64 z, .int .i64 i]] ++ cs) w fun e w' => e = .returned (.bool true) ∧ Below w.heap.size w w') := fun w G cs h => by
    have h1 := h ⟨o, d, s, z, i⟩ rfl (by simpa using hz)
    rw [hf] at h1
    exact h1
  clear o0 o1 hz hf
  go_enter Try.func14, Try.ntmps14
  go_wp2_with (first | ((go_at_call 30; refine (C0.out _).mono ?_); rintro e w1 ⟨k, rfl, hk, hb⟩; obtain ⟨F, W, cF, cW, g, rfl⟩ := hk.shape; obtain ⟨eF, eW, hu⟩ := hk.use; clear hk; have HU := Lib.hid (hu _ (show Since w1 (w1.alloc (.cells #[.func (.func F) #[] cF, .slice (some ⟨g, 0, none⟩) (szI o).length (szI o).length, .func (.func W) #[] cW] 64)) from (Below.refl _ _).alloc (Nat.le_refl _) _)); clear hu; have HB := Lib.hid hb; have x0 : w1.cell? ⟨w.heap.size, 0, none⟩ = some (.int .i64 o) := box_kept hb 0; have x1 : w1.cell? ⟨w.heap.size, 1, none⟩ = some (.int .i64 d) := box_kept hb 1; have x2 : w1.cell? ⟨w.heap.size, 2, none⟩ = some (.int .i64 s) := box_kept hb 2; have x3 : w1.cell? ⟨w.heap.size, 3, none⟩ = some (.int .i64 z) := box_kept hb 3; have x4 : w1.cell? ⟨w.heap.size, 4, none⟩ = some (.int .i64 i) := box_kept hb 4; have hlt : w.heap.size < w1.heap.size := (by have := hb.size; simp at this; omega); clear hb) | ((go_at_call 31; refine (C1.out _ _ HU.out.1).mono ?_); rintro e w2 ⟨rfl, rfl⟩) | (with_reducible refine (C2.out _ _ _ HU.out.2.1).mono ?_; rintro e w3 ⟨rfl, hb3⟩))
  go_ret
  exact ⟨rfl, below_hop (below_hop (below_box HB.out) ((Below.refl _ _).alloc (Nat.le_refl _) _)) hb3⟩
set_option maxRecDepth 100000 in
theorem va_o (o d s z i : Int) (w : World) (ho : o < 0 ∨ 36 < o) : Calls Try.prog 14 #[.agg #[.int .i64 o, .int .i64 d, .int .i64 s, .int .i64 z, .int .i64 i]] w fun e w' => e = .returned (.int .i64 1) ∧ Below w.heap.size w w' := by
  have C0 := Lib.hid (fun w => kindOf_bad o w ho)
  clear ho
  go_enter Try.func14, Try.ntmps14
  go_wp2_with ((go_at_call 30; refine (C0.out _).mono ?_); rintro e w1 ⟨rfl, hb⟩)
  go_ret
  exact ⟨rfl, below_hop (below_box hb) ((Below.refl _ _).alloc (Nat.le_refl _) _)⟩
theorem validate_any (x : Ins) (w : World) : Calls Try.prog 14 #[InsV x] w fun e w' => e = .returned (.int .i64 (vaI x)) ∧ Below w.heap.size w w' := by
  obtain ⟨o, d, s, z, i⟩ := x
  by_cases ho : 0 ≤ o ∧ o ≤ 36
  · cases hz : (szI o).contains z
    · have e : vaI ⟨o, d, s, z, i⟩ = 1 := by unfold vaI okI; rw [hz]; rfl
      rw [e]
      exact va_z o d s z i w ho.1 ho.2 hz
    · cases hf : fitI ⟨o, d, s, z, i⟩
      · have e : vaI ⟨o, d, s, z, i⟩ = 1 := by unfold vaI okI; rw [hz, hf]; rfl
        rw [e]
        exact va_f o d s z i w ho.1 ho.2 hz hf
      · have e : vaI ⟨o, d, s, z, i⟩ = 0 := by unfold vaI okI; rw [hz, hf]; rfl
        rw [e]
        exact va_t o d s z i w ho.1 ho.2 hz hf
  · have e : vaI ⟨o, d, s, z, i⟩ = 1 := by
      unfold vaI
      rw [if_neg fun h => ho (ok_op h)]
    rw [e]
    exact va_o o d s z i w (by omega)
end Go.Proofs.Ytdojafpjipcbjaa
namespace Go.Proofs.Ytdojafpjipcbjaa
open Go.RowKit
set_option linter.unusedVariables false
set_option linter.unusedSimpArgs false
theorem body_len {x : Ins} (h : okI x = true) : 0 < (bodyI x).length ∧ (bodyI x).length ≤ 8 := by
  obtain ⟨o, d, s, z, i⟩ := x
  have hz := ok_sz h
  have ho := ok_op h
  simp only at ho hz
  have hz3 : z = 8 ∨ z = 16 ∨ z = 32 := by
    unfold szI at hz
    repeat (first | (split at hz; · simp at hz; omega) | (simp at hz; done))
  rcases (show o = 0 ∨ o = 1 ∨ o = 2 ∨ o = 3 ∨ o = 4 ∨ o = 5 ∨ o = 6 ∨ o = 7 ∨ o = 8 ∨ o = 9 ∨ o = 10 ∨ o = 11 ∨ o = 12 ∨ o = 13 ∨ o = 14 ∨ o = 15 ∨ o = 16 ∨ o = 17 ∨ o = 18 ∨ o = 19 ∨ o = 20 ∨ o = 21 ∨ o = 22 ∨ o = 23 ∨ o = 24 ∨ o = 25 ∨ o = 26 ∨ o = 27 ∨ o = 28 ∨ o = 29 ∨ o = 30 ∨ o = 31 ∨ o = 32 ∨ o = 33 ∨ o = 34 ∨ o = 35 ∨ o = 36 by omega) with rfl | rfl | rfl | rfl | rfl | rfl | rfl | rfl | rfl | rfl | rfl | rfl | rfl | rfl | rfl | rfl | rfl | rfl | rfl | rfl | rfl | rfl | rfl | rfl | rfl | rfl | rfl | rfl | rfl | rfl | rfl | rfl | rfl | rfl | rfl | rfl | rfl
  all_goals rcases hz3 with rfl | rfl | rfl
  all_goals first | (simp [bodyI, mmB, leB_length]; done) | (unfold bodyI; simp [mmB, leB_length]; split <;> simp [leB_length])
set_option maxRecDepth 100000 in
set_option maxHeartbeats 1000000 in
theorem by_n (o d s z i : Int) (w : World) (hok : okI ⟨o, d, s, z, i⟩ = true) (hz : (z == 16) = false) : Calls Try.prog 27 #[.agg #[.int .i64 o, .int .i64 d, .int .i64 s, .int .i64 z, .int .i64 i]] w fun e w' => ∃ v, e = .returned v ∧ RowI w' w.heap.size 5 .u8 v (bodyI ⟨o, d, s, z, i⟩) ∧ Below w.heap.size w w' := by
  obtain ⟨i0, hi0, hz0, hz1, hz2⟩ := info_parts info_u8
  obtain ⟨o0, o1⟩ := ok_op hok
  have C0 := Lib.hid (fun w => kindOf_any o w o0 o1)
  have hlen := body_len hok
  have C2 : Hid (∀ (w : World) (G : FuncId) (cs : Array Value), (∀ x : Ins, x.o = o → okI x = true → Calls Try.prog G (#[InsV x] ++ cs) w fun e w' => ∃ v, e = .returned v ∧ RowI w' w.heap.size 5 .u8 v (bodyI x) ∧ Below w.heap.size w w') → Calls Try.prog G (#[.agg #[.int .i64 o, .int .i64 d, .int .i64 s, .int .i64 z, .int .i64 i]] ++ cs) w fun e w' => ∃ v, e = .returned v ∧ RowI w' w.heap.size 5 .u8 v (bodyI ⟨o, d, s, z, i⟩) ∧ Below w.heap.size w w') := fun w G cs h => h ⟨o, d, s, z, i⟩ rfl hok
  generalize bodyI ⟨o, d, s, z, i⟩ = ys at *
  have HPOS : Hid (0 < ys.length) := hlen.1
  have HLEN : Hid (([(102 : Int)]).length + ys.length ≤ 100000) := by show _ ≤ _; simp; omega
  have HY5 : Hid (ys.length ≤ 140737488351232) := by show _ ≤ _; omega
  clear o0 o1 hok hlen
  go_enter Try.func27, Try.ntmps27
  go_wp2_with (first | ((go_at_call 30; refine (C0.out _).mono ?_); rintro e w1 ⟨k, rfl, hk, hb⟩; obtain ⟨F, W, cF, cW, g, rfl⟩ := hk.shape; obtain ⟨eF, eW, hu⟩ := hk.use; clear hk; have HU := Lib.hid (hu _ (show Since w1 (w1.alloc (.cells #[.func (.func F) #[] cF, .slice (some ⟨g, 0, none⟩) (szI o).length (szI o).length, .func (.func W) #[] cW] 64)) from (Below.refl _ _).alloc (Nat.le_refl _) _)); clear hu; have HB := Lib.hid hb; have x0 : w1.cell? ⟨w.heap.size, 0, none⟩ = some (.int .i64 o) := box_kept hb 0; have x1 : w1.cell? ⟨w.heap.size, 1, none⟩ = some (.int .i64 d) := box_kept hb 1; have x2 : w1.cell? ⟨w.heap.size, 2, none⟩ = some (.int .i64 s) := box_kept hb 2; have x3 : w1.cell? ⟨w.heap.size, 3, none⟩ = some (.int .i64 z) := box_kept hb 3; have x4 : w1.cell? ⟨w.heap.size, 4, none⟩ = some (.int .i64 i) := box_kept hb 4; have hlt : w.heap.size < w1.heap.size := (by have := hb.size; simp at this; omega); clear hb) | ((with_reducible refine (C2.out _ _ _ HU.out.2.2).mono ?_); rintro e w3 ⟨v3, rfl, hr3, hb3⟩; have HB3 := Lib.hid (below_hop (below_hop HB.out ((Below.refl _ _).alloc (Nat.le_refl _) (.cells #[.func (.func F) #[] cF, .slice (some ⟨g, 0, none⟩) (szI o).length (szI o).length, .func (.func W) #[] cW] 64))) hb3); have y3 : w3.cell? ⟨w.heap.size, 3, none⟩ = some (.int .i64 z) := box_kept HB3.out 3; have HS3 := Lib.hid (below_box HB3.out).size; have HR3 := Lib.hid (hr3.mono (show w.heap.size ≤ _ by simp; omega)); clear hr3 hb3; obtain ⟨a3, n3, rfl⟩ := HR3.out.shape))
  go_ret
  exact ⟨_, rfl, HR3.out, below_box HB3.out⟩
set_option maxRecDepth 100000 in
set_option maxHeartbeats 1000000 in
theorem by_16 (o d s z i : Int) (w : World) (hok : okI ⟨o, d, s, z, i⟩ = true) (hz : (z == 16) = true) : Calls Try.prog 27 #[.agg #[.int .i64 o, .int .i64 d, .int .i64 s, .int .i64 z, .int .i64 i]] w fun e w' => ∃ v, e = .returned v ∧ RowI w' w.heap.size 5 .u8 v (102 :: bodyI ⟨o, d, s, z, i⟩) ∧ Below w.heap.size w w' := by
  obtain ⟨i0, hi0, hz0, hz1, hz2⟩ := info_parts info_u8
  obtain ⟨o0, o1⟩ := ok_op hok
  have C0 := Lib.hid (fun w => kindOf_any o w o0 o1)
  have hlen := body_len hok
  have C2 : Hid (∀ (w : World) (G : FuncId) (cs : Array Value), (∀ x : Ins, x.o = o → okI x = true → Calls Try.prog G (#[InsV x] ++ cs) w fun e w' => ∃ v, e = .returned v ∧ RowI w' w.heap.size 5 .u8 v (bodyI x) ∧ Below w.heap.size w w') → Calls Try.prog G (#[.agg #[.int .i64 o, .int .i64 d, .int .i64 s, .int .i64 z, .int .i64 i]] ++ cs) w fun e w' => ∃ v, e = .returned v ∧ RowI w' w.heap.size 5 .u8 v (bodyI ⟨o, d, s, z, i⟩) ∧ Below w.heap.size w w') := fun w G cs h => h ⟨o, d, s, z, i⟩ rfl hok
  generalize bodyI ⟨o, d, s, z, i⟩ = ys at *
  have HPOS : Hid (0 < ys.length) := hlen.1
  have HLEN : Hid (([(102 : Int)]).length + ys.length ≤ 100000) := by show _ ≤ _; simp; omega
  have HY5 : Hid (ys.length ≤ 140737488351232) := by show _ ≤ _; omega
  clear o0 o1 hok hlen
  go_enter Try.func27, Try.ntmps27
  go_wp2_with (first | ((go_at_call 30; refine (C0.out _).mono ?_); rintro e w1 ⟨k, rfl, hk, hb⟩; obtain ⟨F, W, cF, cW, g, rfl⟩ := hk.shape; obtain ⟨eF, eW, hu⟩ := hk.use; clear hk; have HU := Lib.hid (hu _ (show Since w1 (w1.alloc (.cells #[.func (.func F) #[] cF, .slice (some ⟨g, 0, none⟩) (szI o).length (szI o).length, .func (.func W) #[] cW] 64)) from (Below.refl _ _).alloc (Nat.le_refl _) _)); clear hu; have HB := Lib.hid hb; have x0 : w1.cell? ⟨w.heap.size, 0, none⟩ = some (.int .i64 o) := box_kept hb 0; have x1 : w1.cell? ⟨w.heap.size, 1, none⟩ = some (.int .i64 d) := box_kept hb 1; have x2 : w1.cell? ⟨w.heap.size, 2, none⟩ = some (.int .i64 s) := box_kept hb 2; have x3 : w1.cell? ⟨w.heap.size, 3, none⟩ = some (.int .i64 z) := box_kept hb 3; have x4 : w1.cell? ⟨w.heap.size, 4, none⟩ = some (.int .i64 i) := box_kept hb 4; have hlt : w.heap.size < w1.heap.size := (by have := hb.size; simp at this; omega); clear hb) | ((with_reducible refine (C2.out _ _ _ HU.out.2.2).mono ?_); rintro e w3 ⟨v3, rfl, hr3, hb3⟩; have HB3 := Lib.hid (below_hop (below_hop HB.out ((Below.refl _ _).alloc (Nat.le_refl _) (.cells #[.func (.func F) #[] cF, .slice (some ⟨g, 0, none⟩) (szI o).length (szI o).length, .func (.func W) #[] cW] 64))) hb3); have y3 : w3.cell? ⟨w.heap.size, 3, none⟩ = some (.int .i64 z) := box_kept HB3.out 3; have HS3 := Lib.hid (below_box HB3.out).size; have HR3 := Lib.hid (hr3.mono (show w.heap.size ≤ _ by simp; omega)); clear hr3 hb3; obtain ⟨a3, n3, rfl⟩ := HR3.out.shape) | (at_builtin; refine wpList_app_row rfl _ _ 22 rfl w.heap.size 5 i0 1 Try.underlying22 hi0 hz0 hz1 hz2 (by decide) _ [102] rfl (RowI.lit w3 #[.int .u8 102] [102] .u8 5 w.heap.size 1 HS3.out rfl rfl (by unfold maxLen; simp)) _ ys rfl ((HR3.out.below ((Below.refl _ _).alloc (Nat.le_refl _) _)).ints HY5.out) HPOS.out HLEN.out ?c5 ?_))
  case c5 => have := HS3.out; simp; omega
  intro v9 w9 hr9 hb9
  have HR9 := Lib.hid hr9
  have HB9 : Hid (Below w.heap.size w w9) := ((below_box HB3.out).trans (((Below.refl w3.heap.size w3).alloc (Nat.le_refl _) _).mono HS3.out)).trans hb9
  clear hr9 hb9
  go_wp2_with fail
  go_ret
  exact ⟨_, rfl, HR9.out, HB9.out⟩
theorem bytes_any (x : Ins) (w : World) (hok : okI x = true) : Calls Try.prog 27 #[InsV x] w fun e w' => ∃ v, e = .returned v ∧ RowI w' w.heap.size 5 .u8 v (encI x) ∧ Below w.heap.size w w' := by
  obtain ⟨o, d, s, z, i⟩ := x
  unfold encI
  by_cases c : z = 16
  · rw [if_pos c]
    exact by_16 o d s z i w hok (by simpa using c)
  · rw [if_neg c]
    exact by_n o d s z i w hok (by simpa using c)
theorem enc_len {x : Ins} (h : okI x = true) : 0 < (encI x).length ∧ (encI x).length ≤ 9 := by
  have := body_len h
  unfold encI
  split
  · simp; omega
  · omega
set_option maxRecDepth 100000 in
theorem encode_ok (x : Ins) (w : World) (hok : okI x = true) : Calls Try.prog 11 #[InsV x] w fun e w' => ∃ v, e = .returned (.tuple #[v, .int .i64 0]) ∧ RowI w' w.heap.size 5 .u8 v (encI x) ∧ Below w.heap.size w w' := by
  have C0 := Lib.hid (fun w => by have h := validate_any x w; rw [show vaI x = 0 by unfold vaI; rw [if_pos hok]] at h; exact h)
  have C1 := Lib.hid (fun w => bytes_any x w hok)
  generalize encI x = ys at *
  clear hok
  obtain ⟨o, d, s, z, i⟩ := x
  unfold InsV at *
  simp only at C0 C1 ⊢
  go_enter Try.func11, Try.ntmps11
  go_wp2_with (first | ((go_at_call 14; with_reducible refine (C0.out _).mono ?_); rintro e w1 ⟨rfl, hb⟩; have HB := Lib.hid hb; have x0 : w1.cell? ⟨w.heap.size, 0, none⟩ = some (.int .i64 o) := box_kept hb 0; have x1 : w1.cell? ⟨w.heap.size, 1, none⟩ = some (.int .i64 d) := box_kept hb 1; have x2 : w1.cell? ⟨w.heap.size, 2, none⟩ = some (.int .i64 s) := box_kept hb 2; have x3 : w1.cell? ⟨w.heap.size, 3, none⟩ = some (.int .i64 z) := box_kept hb 3; have x4 : w1.cell? ⟨w.heap.size, 4, none⟩ = some (.int .i64 i) := box_kept hb 4; clear hb) | ((go_at_call 27; with_reducible refine (C1.out _).mono ?_); rintro e w2 ⟨v2, rfl, hr2, hb2⟩; have HR2 := Lib.hid hr2; have HB2 := Lib.hid hb2; clear hr2 hb2))
  go_ret2
  exact ⟨_, rfl, HR2.out.mono (below_box HB.out).size, below_hop (below_box HB.out) HB2.out⟩
end Go.Proofs.Ytdojafpjipcbjaa
namespace Go.Proofs.Ytdojafpjipcbjaa
open Go.RowKit
set_option linter.unusedVariables false
set_option linter.unusedSimpArgs false
/-- From w to w' nothing that was there has changed but the block B. -/
structure But (B : Nat) (w w' : World) : Prop where
  os : w'.os = w.os
  tape : w'.tape = w.tape
  output : w'.output = w.output
  size : w.heap.size ≤ w'.heap.size
  block : ∀ k, k < w.heap.size → k ≠ B → w'.heap[k]? = w.heap[k]?
theorem But.refl (B : Nat) (w : World) : But B w w := ⟨rfl, rfl, rfl, Nat.le_refl _, fun _ _ _ => rfl⟩
theorem But.trans {B : Nat} {w w1 w2 : World} (h : But B w w1) (h' : But B w1 w2) : But B w w2 :=
  ⟨h'.os.trans h.os, h'.tape.trans h.tape, h'.output.trans h.output, Nat.le_trans h.size h'.size, fun k hk hn => (h'.block k (Nat.lt_of_lt_of_le hk h.size) hn).trans (h.block k hk hn)⟩
theorem But.of_below {B : Nat} {w w' : World} (h : Below w.heap.size w w') : But B w w' := ⟨h.os, h.tape, h.output, h.size, fun k hk _ => h.block k hk⟩
theorem But.below {B : Nat} {w w' : World} (h : But B w w') (hB : B ≤ w.heap.size) : Below B w w' := ⟨h.os, h.tape, h.output, h.size, fun k hk => h.block k (by omega) (by omega)⟩
theorem But.setCell {B : Nat} {w w' : World} (h : But B w w') (o : Nat) (v : Value) : But B w (w'.setCell ⟨B, o, none⟩ v) :=
  ⟨h.os, h.tape, h.output, Nat.le_trans h.size (by simp [World.setCell]), fun k hk hn => (Below.heap_setCell w' ⟨B, o, none⟩ v k hn).trans (h.block k hk hn)⟩
theorem But.drewN {B : Nat} {w w' : World} (h : But B w w') (n : Nat) : But B w (w'.drewN n) := ⟨h.os, h.tape, h.output, h.size, h.block⟩
theorem But.drew {B : Nat} {w w' : World} (h : But B w w') : But B w w'.drew := ⟨h.os, h.tape, h.output, h.size, h.block⟩
theorem But.alloc {B : Nat} {w w' : World} (h : But B w w') (o : Obj) : But B w (w'.alloc o) :=
  ⟨h.os, h.tape, h.output, Nat.le_trans h.size (by simp), fun k hk hn => (Below.heap_alloc w' o k (Nat.lt_of_lt_of_le hk h.size)).trans (h.block k hk hn)⟩
theorem But.cell {B : Nat} {w w' : World} (h : But B w w') {b o : Nat} {v : Value} (hb : b ≠ B) (hc : w.cell? ⟨b, o, none⟩ = some v) : w'.cell? ⟨b, o, none⟩ = some v := by
  rw [← hc]; exact World.cell?_of_block (w := w) (h.block b (cell_lt hc) hb)
/-- The block that a slice of some bytes lies in is not B. -/
def Off (B : Nat) (v : Value) : Prop := ∀ b q n c, v = .slice (some ⟨b, q, none⟩) n c → 0 < n → b ≠ B
theorem Ints.but {k : IntKind} {B : Nat} {w w' : World} {v : Value} {xs : List Int} (h : Ints k w v xs) (hc : But B w w') (hT : Off B v) : Ints k w' v xs := by
  obtain ⟨a, c, rfl, h1, h2, h3, h4⟩ := h
  refine ⟨a, c, rfl, h1, h2, h3, fun i hi => ?_⟩
  obtain ⟨b, o, rfl, h5, h6⟩ := h4 i hi
  exact ⟨b, o, rfl, Nat.lt_of_lt_of_le h5 hc.size, hc.cell (hT b o _ _ rfl (by omega)) h6⟩
/-- The reader lies in block B: its bytes v, of which there are m, and n were asked for. -/
def Rdr (w : World) (B : Nat) (v : Value) (m n : Nat) : Prop :=
  w.heap[B]? = some (.cells #[v, .int .i64 (min n m : Nat), .bool (decide (m < n))] 55)
theorem Rdr.lt {w : World} {B : Nat} {v : Value} {m n : Nat} (h : Rdr w B v m n) : B < w.heap.size := (Array.getElem?_eq_some_iff.1 h).1
theorem Rdr.c0 {w : World} {B : Nat} {v : Value} {m n : Nat} (h : Rdr w B v m n) : w.cell? ⟨B, 0, none⟩ = some v := by simp [World.cell?, show w.heap[B]? = _ from h]
theorem Rdr.c1 {w : World} {B : Nat} {v : Value} {m n : Nat} (h : Rdr w B v m n) : w.cell? ⟨B, 1, none⟩ = some (.int .i64 (min n m : Nat)) := by simp [World.cell?, show w.heap[B]? = _ from h]
theorem Rdr.c2 {w : World} {B : Nat} {v : Value} {m n : Nat} (h : Rdr w B v m n) : w.cell? ⟨B, 2, none⟩ = some (.bool (decide (m < n))) := by simp [World.cell?, show w.heap[B]? = _ from h]
theorem Rdr.free {w : World} {B : Nat} {v : Value} {m n : Nat} (h : Rdr w B v m n) (i : Nat) : w.frozen? ⟨B, i, none⟩ = false := by simp [World.frozen?, show w.heap[B]? = _ from h]
theorem Rdr.below {w w' : World} {B : Nat} {v : Value} {m n : Nat} (h : Rdr w B v m n) (hb : Below w.heap.size w w') : Rdr w' B v m n := (hb.block B h.lt).trans h
theorem Rdr.drewN {w : World} {B : Nat} {v : Value} {m n : Nat} (h : Rdr w B v m n) (k : Nat) : Rdr (w.drewN k) B v m n := h
theorem Rdr.more {w : World} {B : Nat} {v : Value} {m n : Nat} (h : Rdr w B v m n) (hn : n < m) : Rdr (w.setCell ⟨B, 1, none⟩ (.int .i64 ((n : Int) + 1))) B v m (n + 1) := by
  unfold Rdr
  simp only [World.setCell, Array.getElem?_modify, show w.heap[B]? = _ from h]
  simp [Nat.min_eq_left (show n + 1 ≤ m by omega), decide_eq_false (show ¬ m < n by omega), decide_eq_false (show ¬ m < n + 1 by omega)]
theorem Rdr.end_ {w : World} {B : Nat} {v : Value} {m n : Nat} (h : Rdr w B v m n) (hn : m ≤ n) : Rdr (w.setCell ⟨B, 2, none⟩ (.bool true)) B v m (n + 1) := by
  unfold Rdr
  simp only [World.setCell, Array.getElem?_modify, show w.heap[B]? = _ from h]
  simp [Nat.min_eq_right hn, Nat.min_eq_right (show m ≤ n + 1 by omega), decide_eq_true (show m < n + 1 by omega)]
set_option maxRecDepth 100000 in
theorem next_end (v : Value) (B m n : Nat) (w : World) (hr : Rdr w B v m n) (hs : ∃ a c, v = .slice a m c) (hn : m ≤ n) (hm : m ≤ 140737488351232) : Calls Try.prog 38 #[.pointer (some ⟨B, 0, none⟩)] w fun e w' => e = .returned (.int .u8 0) ∧ Rdr w' B v m (n + 1) ∧ But B w w' := by
  obtain ⟨a, c, rfl⟩ := hs
  have c0 := hr.c0
  have c1 := hr.c1
  rw [Nat.min_eq_right hn] at c1
  have c2 := hr.c2
  have f2 := hr.free 2
  have hlt := hr.lt
  have HR := Lib.hid (fun k => (hr.drewN k).end_ hn)
  have HB := Lib.hid (fun k => ((But.refl B w).drewN k).setCell 2 (.bool true))
  have d0 : decide ((m : Int) ≤ m) = true := decide_eq_true (Int.le_refl _)
  have d1 : decide ((m : Int) ≥ m) = true := decide_eq_true (Int.le_refl _)
  clear hr hn
  go_enter Try.func38, Try.ntmps38
  go_wp2_with fail
  go_quiet (fail)
  go_wp2_with fail
  go_ret
  exact ⟨rfl, HR.out _, HB.out _⟩
set_option maxRecDepth 100000 in
theorem next_in (v : Value) (B m n : Nat) (x : Int) (w : World) (hr : Rdr w B v m n) (b q c : Nat) (hv : v = .slice (some ⟨b, q, none⟩) m c) (hc : w.cell? ⟨b, q + n, none⟩ = some (.int .u8 x)) (hb : b ≠ B) (hn : n < m) (hm : m ≤ 140737488351232) : Calls Try.prog 38 #[.pointer (some ⟨B, 0, none⟩)] w fun e w' => e = .returned (.int .u8 x) ∧ Rdr w' B v m (n + 1) ∧ But B w w' := by
  subst hv
  have c0 := hr.c0
  have c1 := hr.c1
  rw [Nat.min_eq_left (by omega)] at c1
  have f1 := hr.free 1
  have hlt := hr.lt
  have hlb := cell_lt hc
  have HR := Lib.hid (fun k => (hr.drewN k).more hn)
  have HB := Lib.hid (fun k => ((But.refl B w).drewN k).setCell 1 (.int .i64 ((n : Int) + 1)))
  have d0 : decide ((m : Int) ≤ n) = false := decide_eq_false (by omega)
  have d1 : decide ((n : Int) ≥ m) = false := decide_eq_false (by omega)
  go_enter Try.func38, Try.ntmps38
  go_wp2_with fail
  go_quiet (fail)
  go_wp2_with fail
  go_quiet (fail)
  go_wp2_with fail
  go_ret
  exact ⟨rfl, HR.out _, (HB.out _).drewN _⟩
/-- The reader reads the bytes l, of which n were asked for. -/
structure RdL (w : World) (B : Nat) (v : Value) (l : List Int) (n : Nat) : Prop where
  r : Rdr w B v l.length n
  l : Ints .u8 w v l
  off : Off B v
theorem RdL.stays {w w' : World} {B : Nat} {v : Value} {l : List Int} {n : Nat} (h : RdL w B v l n) (hb : Below w.heap.size w w') : RdL w' B v l n := ⟨h.r.below hb, h.l.stays hb, h.off⟩
theorem next_any (v : Value) (B n : Nat) (l : List Int) (w : World) (h : RdL w B v l n) : Calls Try.prog 38 #[.pointer (some ⟨B, 0, none⟩)] w fun e w' => e = .returned (.int .u8 (l.getD n 0)) ∧ RdL w' B v l (n + 1) ∧ But B w w' := by
  obtain ⟨hr, hl, ho⟩ := h
  obtain ⟨a, c, e, hm1, hm⟩ := hl.shape
  rcases Nat.lt_or_ge n l.length with hn | hn
  · obtain ⟨b, q, c, e, h1, h2, h3⟩ := hl.at hn
    exact (next_in v B l.length n (l.getD n 0) w hr b q c e h3 (ho b q _ _ e (by omega)) hn hm).mono fun e w' h => ⟨h.1, ⟨h.2.1, hl.but h.2.2 ho, ho⟩, h.2.2⟩
  · rw [show l.getD n 0 = 0 by simp [List.getD, List.getElem?_eq_none hn]]
    exact (next_end v B l.length n w hr ⟨a, c, e⟩ hn hm).mono fun e w' h => ⟨h.1, ⟨h.2.1, hl.but h.2.2 ho, ho⟩, h.2.2⟩
end Go.Proofs.Ytdojafpjipcbjaa
namespace Go.Proofs.Ytdojafpjipcbjaa
open Go.RowKit
set_option linter.unusedVariables false
set_option linter.unusedSimpArgs false
theorem But.box {B : Nat} {w w1 : World} {cs : Array Value} {T : TypeId} (h : But B (w.alloc (.cells cs T)) w1) (hB : B < w.heap.size) (i : Nat) : w1.cell? ⟨w.heap.size, i, none⟩ = cs[i]? ∧ w1.frozen? ⟨w.heap.size, i, none⟩ = false := by
  have e := h.block w.heap.size (by simp) (by omega)
  refine ⟨(World.cell?_of_block (w := w.alloc (.cells cs T)) e).trans ?_, (World.frozen?_of_block (w := w.alloc (.cells cs T)) e).trans ?_⟩
  · simp [go_sem]
  · simp [go_sem]
theorem But.setNew {B b : Nat} {w w' : World} (h : But B w w') (hb : w.heap.size ≤ b) (o : Nat) (v : Value) : But B w (w'.setCell ⟨b, o, none⟩ v) :=
  ⟨h.os, h.tape, h.output, Nat.le_trans h.size (by simp [World.setCell]), fun k hk hn => (Below.heap_setCell w' ⟨b, o, none⟩ v k (by show k ≠ b; omega)).trans (h.block k hk hn)⟩
theorem Rdr.setNew {w : World} {B b : Nat} {v : Value} {m n : Nat} (h : Rdr w B v m n) (hb : B ≠ b) (o : Nat) (u : Value) : Rdr (w.setCell ⟨b, o, none⟩ u) B v m n := (Below.heap_setCell w ⟨b, o, none⟩ u B hb).trans h
set_option maxRecDepth 100000 in
theorem fields_any (v : Value) (B n : Nat) (l : List Int) (w : World) (h : RdL w B v l n) (h0 : 0 ≤ l.getD n 0) (h1 : l.getD n 0 < 256) : Calls Try.prog 40 #[.pointer (some ⟨B, 0, none⟩)] w fun e w' => e = .returned (.agg #[.int .i64 (rF (l.getD n 0)), .int .i64 (mF (l.getD n 0)), .bool (l.getD n 0 / 64 == 2)]) ∧ RdL w' B v l (n + 1) ∧ But B w w' := by
  have hlt := h.r.lt
  have HL := Lib.hid h
  have HB0 : Hid (But B w (w.alloc (.cells #[.int .i64 0, .int .i64 0, .bool false] 78))) := Lib.hid ((But.refl B w).alloc _)
  have C0 := Lib.hid (next_any v B n l (w.alloc (.cells #[.int .i64 0, .int .i64 0, .bool false] 78)) (h.stays ((Below.refl _ _).alloc (Nat.le_refl _) _)))
  generalize l.getD n 0 = x at *
  go_enter Try.func40, Try.ntmps40
  go_wp2_with ((go_at_call 38; with_reducible refine C0.out.mono ?_); rintro e w1 ⟨rfl, hr1, hb1⟩; have HR1 := Lib.hid hr1; have HB1 := Lib.hid hb1; clear hr1; have y0 := (hb1.box hlt 0).1; have y1 := (hb1.box hlt 1).1; have y2 := (hb1.box hlt 2).1; have f0 := (hb1.box hlt 0).2; have f1 := (hb1.box hlt 1).2; have f2 := (hb1.box hlt 2).2; clear hb1; simp only [List.getElem?_toArray, List.getElem?_cons_zero, List.getElem?_cons_succ] at y0 y1 y2)
  have HB2 := ((HB0.out.trans HB1.out).setNew (Nat.le_refl _) 0 (.int .i64 (x / 8 % 8))).setNew (Nat.le_refl _) 1 (.int .i64 (x % 8)) |>.setNew (Nat.le_refl _) 2 (.bool (x / 64 == 2))
  have hne : B ≠ w.heap.size := by omega
  refine bodyPost_ret (v := .agg #[.int .i64 (rF x), .int .i64 (mF x), .bool (x / 64 == 2)]) (by simp [results, Try.results40, go_sem, rF, mF, y0, y1, y2]) rfl ⟨rfl, ?_, ?_⟩
  · exact ⟨((HR1.out.r.setNew hne _ _).setNew hne _ _).setNew hne _ _, HL.out.l.but HB2 HL.out.off, HL.out.off⟩
  · exact HB2
end Go.Proofs.Ytdojafpjipcbjaa
