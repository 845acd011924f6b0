/- Walks of what makes the kinds of instructions. -/
import Derived.Test.YtdojafpjipcbjaaF1
import Derived.Test.YtdojafpjipcbjaaF4
namespace Go.Proofs.Ytdojafpjipcbjaa
open Go.RowKit
set_option linter.unusedVariables false
set_option linter.unusedSimpArgs false
/-- The block b of w holds the cells cs. -/
def blk (w : World) (b : Nat) (cs : Array Value) (t : TypeId) : Prop := w.heap[b]? = some (.cells cs t (0, 0))
theorem blk_lt {w : World} {b : Nat} {cs : Array Value} {t : TypeId} (h : blk w b cs t) : b < w.heap.size := by
  rcases Nat.lt_or_ge b w.heap.size with c | c
  · exact c
  · unfold blk at h; rw [Array.getElem?_eq_none c] at h; cases h
theorem blk_new {w : World} {b : Nat} {cs : Array Value} {t : TypeId} (h : b = w.heap.size) : blk (w.alloc (.cells cs t)) b cs t := by subst h; exact Array.getElem?_push_size
theorem blk_alloc {w : World} {b : Nat} {cs : Array Value} {t : TypeId} {ob : Obj} (h : blk w b cs t) : blk (w.alloc ob) b cs t := by
  have := blk_lt h
  unfold blk at *
  rw [← h]
  exact Below.heap_alloc w ob b this
theorem blk_below {w w' : World} {b : Nat} {cs : Array Value} {t : TypeId} (h : blk w b cs t) (hb : Below w.heap.size w w') : blk w' b cs t := by
  unfold blk at *; rw [← h]; exact hb.block b (blk_lt h)
theorem blk_cell {w : World} {b : Nat} {cs : Array Value} {t : TypeId} (h : blk w b cs t) (i : Nat) : w.cell? ⟨b, i, none⟩ = cs[i]? := by
  unfold blk at h; simp [World.cell?, h]
set_option maxRecDepth 100000 in
theorem kd_pair (c : Int) (w : World) : Calls Try.prog 73 #[.int .u8 c] w fun e w' => ∃ b g, e = .returned (.agg #[.func (.func 111) #[] #[], .slice (some ⟨g, 0, none⟩) 2 2, .func (.func 112) #[] #[.pointer (some ⟨b, 0, none⟩)]]) ∧ blk w' b #[.int .u8 c] 5 ∧ blk w' g #[.int .i64 32, .int .i64 16] 3 ∧ w.heap.size ≤ b ∧ b < w'.heap.size ∧ w.heap.size ≤ g ∧ g < w'.heap.size ∧ Below w.heap.size w w' := by
  go_enter Try.func73, Try.ntmps73
  go_wp2_with fail
  exact bodyPost_ret (v := .agg #[.func (.func 111) #[] #[], .slice (some ⟨(w.heap.size + 1 + 1), 0, none⟩) 2 2, .func (.func 112) #[] #[.pointer (some ⟨w.heap.size, 0, none⟩)]]) (by simp [results, Try.results73, go_sem]) rfl ⟨w.heap.size, (w.heap.size + 1 + 1), rfl, by repeat (first | exact blk_new (by simp) | refine blk_alloc ?_), by repeat (first | exact blk_new (by simp) | refine blk_alloc ?_), by omega, by simp <;> omega, by omega, by simp <;> omega, by repeat (first | with_reducible exact Below.refl _ _ | with_reducible refine Below.alloc ?_ (by simp <;> omega) _)⟩
set_option maxRecDepth 100000 in
theorem kd_load (oa : Option Addr) (on oc : Nat) (w : World) : Calls Try.prog 80 #[.slice oa on oc] w fun e w' => ∃ b g, e = .returned (.agg #[.func (.func 113) #[] #[], .slice (some ⟨g, 0, none⟩) 1 1, .func (.func 116) #[] #[.pointer (some ⟨b, 0, none⟩)]]) ∧ blk w' b #[.slice oa on oc] 22 ∧ blk w' g #[.int .i64 32] 3 ∧ w.heap.size ≤ b ∧ b < w'.heap.size ∧ w.heap.size ≤ g ∧ g < w'.heap.size ∧ Below w.heap.size w w' := by
  go_enter Try.func80, Try.ntmps80
  go_wp2_with fail
  exact bodyPost_ret (v := .agg #[.func (.func 113) #[] #[], .slice (some ⟨(w.heap.size + 1 + 1), 0, none⟩) 1 1, .func (.func 116) #[] #[.pointer (some ⟨w.heap.size, 0, none⟩)]]) (by simp [results, Try.results80, go_sem]) rfl ⟨w.heap.size, (w.heap.size + 1 + 1), rfl, by repeat (first | exact blk_new (by simp) | refine blk_alloc ?_), by repeat (first | exact blk_new (by simp) | refine blk_alloc ?_), by omega, by simp <;> omega, by omega, by simp <;> omega, by repeat (first | with_reducible exact Below.refl _ _ | with_reducible refine Below.alloc ?_ (by simp <;> omega) _)⟩
set_option maxRecDepth 100000 in
theorem kd_store (c : Int) (f : FuncId) (w : World) : Calls Try.prog 81 #[.int .u8 c, .func (.func f) #[] #[]] w fun e w' => ∃ b b2 g, e = .returned (.agg #[.func (.func 119) #[] #[.pointer (some ⟨b2, 0, none⟩)], .slice (some ⟨g, 0, none⟩) 1 1, .func (.func 120) #[] #[.pointer (some ⟨b, 0, none⟩)]]) ∧ blk w' b #[.int .u8 c] 5 ∧ blk w' b2 #[.func (.func f) #[] #[]] 68 ∧ blk w' g #[.int .i64 32] 3 ∧ w.heap.size ≤ b ∧ b < w'.heap.size ∧ w.heap.size ≤ b2 ∧ b2 < w'.heap.size ∧ w.heap.size ≤ g ∧ g < w'.heap.size ∧ Below w.heap.size w w' := by
  go_enter Try.func81, Try.ntmps81
  go_wp2_with fail
  exact bodyPost_ret (v := .agg #[.func (.func 119) #[] #[.pointer (some ⟨(w.heap.size + 1), 0, none⟩)], .slice (some ⟨(w.heap.size + 1 + 1 + 1), 0, none⟩) 1 1, .func (.func 120) #[] #[.pointer (some ⟨w.heap.size, 0, none⟩)]]) (by simp [results, Try.results81, go_sem]) rfl ⟨w.heap.size, (w.heap.size + 1), (w.heap.size + 1 + 1 + 1), rfl, by repeat (first | exact blk_new (by simp) | refine blk_alloc ?_), by repeat (first | exact blk_new (by simp) | refine blk_alloc ?_), by repeat (first | exact blk_new (by simp) | refine blk_alloc ?_), by omega, by simp <;> omega, by omega, by simp <;> omega, by omega, by simp <;> omega, by repeat (first | with_reducible exact Below.refl _ _ | with_reducible refine Below.alloc ?_ (by simp <;> omega) _)⟩
set_option maxRecDepth 100000 in
theorem kd_num (n : Int) (w : World) : Calls Try.prog 83 #[.int .i64 n] w fun e w' => ∃ b g, e = .returned (.agg #[.func (.func 121) #[] #[], .slice (some ⟨g, 0, none⟩) 2 2, .func (.func 122) #[] #[.pointer (some ⟨b, 0, none⟩)]]) ∧ blk w' b #[.int .i64 n] 3 ∧ blk w' g #[.int .i64 32, .int .i64 16] 3 ∧ w.heap.size ≤ b ∧ b < w'.heap.size ∧ w.heap.size ≤ g ∧ g < w'.heap.size ∧ Below w.heap.size w w' := by
  go_enter Try.func83, Try.ntmps83
  go_wp2_with fail
  exact bodyPost_ret (v := .agg #[.func (.func 121) #[] #[], .slice (some ⟨(w.heap.size + 1 + 1), 0, none⟩) 2 2, .func (.func 122) #[] #[.pointer (some ⟨w.heap.size, 0, none⟩)]]) (by simp [results, Try.results83, go_sem]) rfl ⟨w.heap.size, (w.heap.size + 1 + 1), rfl, by repeat (first | exact blk_new (by simp) | refine blk_alloc ?_), by repeat (first | exact blk_new (by simp) | refine blk_alloc ?_), by omega, by simp <;> omega, by omega, by simp <;> omega, by repeat (first | with_reducible exact Below.refl _ _ | with_reducible refine Below.alloc ?_ (by simp <;> omega) _)⟩
set_option maxRecDepth 100000 in
theorem kd_single (c n : Int) (oa : Option Addr) (on oc : Nat) (w : World) : Calls Try.prog 87 #[.int .u8 c, .int .i64 n, .slice oa on oc] w fun e w' => ∃ b b2, e = .returned (.agg #[.func (.func 124) #[] #[], .slice oa on oc, .func (.func 125) #[] #[.pointer (some ⟨b, 0, none⟩), .pointer (some ⟨b2, 0, none⟩)]]) ∧ blk w' b #[.int .u8 c] 5 ∧ blk w' b2 #[.int .i64 n] 3 ∧ w.heap.size ≤ b ∧ b < w'.heap.size ∧ w.heap.size ≤ b2 ∧ b2 < w'.heap.size ∧ Below w.heap.size w w' := by
  go_enter Try.func87, Try.ntmps87
  go_wp2_with fail
  exact bodyPost_ret (v := .agg #[.func (.func 124) #[] #[], .slice oa on oc, .func (.func 125) #[] #[.pointer (some ⟨w.heap.size, 0, none⟩), .pointer (some ⟨(w.heap.size + 1), 0, none⟩)]]) (by simp [results, Try.results87, go_sem]) rfl ⟨w.heap.size, (w.heap.size + 1), rfl, by repeat (first | exact blk_new (by simp) | refine blk_alloc ?_), by repeat (first | exact blk_new (by simp) | refine blk_alloc ?_), by omega, by simp <;> omega, by omega, by simp <;> omega, by repeat (first | with_reducible exact Below.refl _ _ | with_reducible refine Below.alloc ?_ (by simp <;> omega) _)⟩
set_option maxRecDepth 100000 in
theorem kd_bare (oa : Option Addr) (on oc : Nat) (w : World) : Calls Try.prog 88 #[.slice oa on oc] w fun e w' => ∃ b g, e = .returned (.agg #[.func (.func 126) #[] #[], .slice (some ⟨g, 0, none⟩) 1 1, .func (.func 127) #[] #[.pointer (some ⟨b, 0, none⟩)]]) ∧ blk w' b #[.slice oa on oc] 22 ∧ blk w' g #[.int .i64 32] 3 ∧ w.heap.size ≤ b ∧ b < w'.heap.size ∧ w.heap.size ≤ g ∧ g < w'.heap.size ∧ Below w.heap.size w w' := by
  go_enter Try.func88, Try.ntmps88
  go_wp2_with fail
  exact bodyPost_ret (v := .agg #[.func (.func 126) #[] #[], .slice (some ⟨(w.heap.size + 1 + 1), 0, none⟩) 1 1, .func (.func 127) #[] #[.pointer (some ⟨w.heap.size, 0, none⟩)]]) (by simp [results, Try.results88, go_sem]) rfl ⟨w.heap.size, (w.heap.size + 1 + 1), rfl, by repeat (first | exact blk_new (by simp) | refine blk_alloc ?_), by repeat (first | exact blk_new (by simp) | refine blk_alloc ?_), by omega, by simp <;> omega, by omega, by simp <;> omega, by repeat (first | with_reducible exact Below.refl _ _ | with_reducible refine Below.alloc ?_ (by simp <;> omega) _)⟩
set_option maxRecDepth 100000 in
theorem kd_jump (f1 f2 f3 : FuncId) (w : World) : Calls Try.prog 95 #[.func (.func f1) #[] #[], .func (.func f2) #[] #[], .func (.func f3) #[] #[]] w fun e w' => ∃ b1 b2 b3 g, e = .returned (.agg #[.func (.func 128) #[] #[.pointer (some ⟨b3, 0, none⟩)], .slice (some ⟨g, 0, none⟩) 2 2, .func (.func 129) #[] #[.pointer (some ⟨b1, 0, none⟩), .pointer (some ⟨b2, 0, none⟩)]]) ∧ blk w' b1 #[.func (.func f1) #[] #[]] 58 ∧ blk w' b2 #[.func (.func f2) #[] #[]] 58 ∧ blk w' b3 #[.func (.func f3) #[] #[]] 61 ∧ blk w' g #[.int .i64 8, .int .i64 32] 3 ∧ w.heap.size ≤ b1 ∧ b1 < w'.heap.size ∧ w.heap.size ≤ b2 ∧ b2 < w'.heap.size ∧ w.heap.size ≤ b3 ∧ b3 < w'.heap.size ∧ w.heap.size ≤ g ∧ g < w'.heap.size ∧ Below w.heap.size w w' := by
  go_enter Try.func95, Try.ntmps95
  go_wp2_with fail
  exact bodyPost_ret (v := .agg #[.func (.func 128) #[] #[.pointer (some ⟨(w.heap.size + 1 + 1), 0, none⟩)], .slice (some ⟨(w.heap.size + 1 + 1 + 1 + 1), 0, none⟩) 2 2, .func (.func 129) #[] #[.pointer (some ⟨w.heap.size, 0, none⟩), .pointer (some ⟨(w.heap.size + 1), 0, none⟩)]]) (by simp [results, Try.results95, go_sem]) rfl ⟨w.heap.size, (w.heap.size + 1), (w.heap.size + 1 + 1), (w.heap.size + 1 + 1 + 1 + 1), rfl, by repeat (first | exact blk_new (by simp) | refine blk_alloc ?_), by repeat (first | exact blk_new (by simp) | refine blk_alloc ?_), by repeat (first | exact blk_new (by simp) | refine blk_alloc ?_), by repeat (first | exact blk_new (by simp) | refine blk_alloc ?_), by omega, by simp <;> omega, by omega, by simp <;> omega, by omega, by simp <;> omega, by omega, by simp <;> omega, by repeat (first | with_reducible exact Below.refl _ _ | with_reducible refine Below.alloc ?_ (by simp <;> omega) _)⟩
set_option maxRecDepth 100000 in
theorem kd_sized (f1 f2 : FuncId) (c1 c2 : Array Value) (a : Option Addr) (n c : Nat) (w : World) : Calls Try.prog 79 #[.agg #[.func (.func f1) #[] c1, .slice a n c, .func (.func f2) #[] c2]] w fun e w' => ∃ g, e = .returned (.agg #[.func (.func f1) #[] c1, .slice (some ⟨g, 0, none⟩) 2 2, .func (.func f2) #[] c2]) ∧ blk w' g #[.int .i64 32, .int .i64 16] 3 ∧ w.heap.size ≤ g ∧ g < w'.heap.size ∧ Below w.heap.size w w' := by
  go_enter Try.func79, Try.ntmps79
  go_wp2_with fail
  exact bodyPost_ret (v := .agg #[.func (.func f1) #[] c1, .slice (some ⟨(w.heap.size + 1 + 1), 0, none⟩) 2 2, .func (.func f2) #[] c2]) (by simp [results, Try.results79, go_sem]) rfl ⟨(w.heap.size + 1 + 1), rfl, by repeat (first | exact blk_new (by simp) | refine blk_alloc ?_), by omega, by simp <;> omega, by repeat (first | with_reducible exact Below.refl _ _ | with_reducible refine Below.alloc ?_ (by simp <;> omega) _)⟩
end Go.Proofs.Ytdojafpjipcbjaa
namespace Go.Proofs.Ytdojafpjipcbjaa
set_option linter.unusedVariables false
set_option linter.unusedSimpArgs false
theorem ok_fit {x : Ins} (h : okI x = true) : fitI x = true := by unfold okI at h; simp only [Bool.and_eq_true] at h; exact h.2
theorem ok_sz {x : Ins} (h : okI x = true) : x.z ∈ szI x.o := by unfold okI at h; simp only [Bool.and_eq_true] at h; simpa using h.1
theorem ok_op {x : Ins} (h : okI x = true) : 0 ≤ x.o ∧ x.o ≤ 36 := by
  by_cases c : 0 ≤ x.o ∧ x.o ≤ 36
  · exact c
  · have := ok_sz h
    unfold szI at this
    rw [if_neg (by omega), if_neg (by omega), if_neg (by omega), if_neg (by omega), if_neg (by omega), if_neg (by omega), if_neg (by omega), if_neg (by omega)] at this
    cases this
end Go.Proofs.Ytdojafpjipcbjaa
namespace Go.Proofs.Ytdojafpjipcbjaa
set_option linter.unusedVariables false
set_option linter.unusedSimpArgs false
theorem decI_is {b : List Int} {x : Ins} {n : Nat} (h : decI b = some (x, n)) : okI x = true ∧ n ≤ b.length ∧ encI x = b.take n ∧ (encI x).length = n := by
  unfold decI at h
  split at h
  · rename_i c
    obtain ⟨⟨c1, c2⟩, c3⟩ := c
    cases h
    refine ⟨c2, c1, c3, ?_⟩
    rw [c3, List.length_take]; omega
  · cases h
end Go.Proofs.Ytdojafpjipcbjaa
