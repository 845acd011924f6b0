/- Walks of moving, counting, other: the kind of each operation. -/
import Derived.Test.YtdojafpjipcbjaaF6
namespace Go.Proofs.Ytdojafpjipcbjaa
open Go.RowKit
set_option linter.unusedVariables false
set_option linter.unusedSimpArgs false
/-- The cells of a new kind, behind what leaves them alone. -/
theorem res_kind {w w1 : World} (hb : Below (w.alloc (.cells #[.nilFunc, .slice none 0 0, .nilFunc] 64)).heap.size (w.alloc (.cells #[.nilFunc, .slice none 0 0, .nilFunc] 64)) w1) : (w1.cell? ⟨w.heap.size, 0, none⟩ = some .nilFunc ∧ w1.cell? ⟨w.heap.size, 1, none⟩ = some (.slice none 0 0) ∧ w1.cell? ⟨w.heap.size, 2, none⟩ = some .nilFunc) ∧
    (w1.frozen? ⟨w.heap.size, 0, none⟩ = false ∧ w1.frozen? ⟨w.heap.size, 1, none⟩ = false ∧ w1.frozen? ⟨w.heap.size, 2, none⟩ = false) ∧ w.heap.size < w1.heap.size := by
  obtain ⟨hc, hf⟩ := bcell hb
  have hz := hb.size
  rw [World.size_alloc] at hz
  refine ⟨⟨?_, ?_, ?_⟩, ⟨?_, ?_, ?_⟩, by omega⟩
  · rw [hc _ _ (by simp)]; simp [go_sem]
  · rw [hc _ _ (by simp)]; simp [go_sem]
  · rw [hc _ _ (by simp)]; simp [go_sem]
  · rw [hf _ _ (by simp)]; simp [go_sem]
  · rw [hf _ _ (by simp)]; simp [go_sem]
  · rw [hf _ _ (by simp)]; simp [go_sem]
/-- The kind k of the operation o is returned. -/
def KRet (o : Int) (w : World) (e : Ending) (w' : World) : Prop := ∃ k, e = .returned (.tuple #[k, .bool true]) ∧ Knd w.heap.size w' k o ∧ Below w.heap.size w w'
theorem heap_set3 {w : World} {R : Nat} {u0 u1 u2 : Value} {b : Nat} (h : b ≠ R) : (((w.setCell ⟨R, 0, none⟩ u0).setCell ⟨R, 1, none⟩ u1).setCell ⟨R, 2, none⟩ u2).heap[b]? = w.heap[b]? := by
  rw [Below.heap_setCell _ _ _ _ (by simpa using h), Below.heap_setCell _ _ _ _ (by simpa using h), Below.heap_setCell _ _ _ _ (by simpa using h)]
set_option maxRecDepth 100000 in
theorem of_0 (w : World) : Calls Try.prog 51 #[.int .i64 0] w (KRet 0 w) := by
  go_enter Try.func51, Try.ntmps51
  go_wp2_with ((go_at_call 73; refine (kd_pair _ _).mono ?_); rintro e w1 ⟨b, g, rfl, h1, h2, l1, _, l2, _, hb⟩; obtain ⟨⟨z0, z1, z2⟩, ⟨f0, f1, f2⟩, hz⟩ := res_kind (hb); simp only [World.size_alloc] at l1 l2)
  exact bodyPost_ret (v := .tuple #[.agg #[.func (.func 111) #[] #[], .slice (some ⟨g, 0, none⟩) 2 2, .func (.func 112) #[] #[.pointer (some ⟨b, 0, none⟩)]], .bool true]) (by simp [results, Try.results51, go_sem, z0, z1, z2, hz]) rfl ⟨_, rfl, (((knd_0 (w.heap.size + 1) w1 g b h2 h1 l2 l1).keep (by simp) (fun b hb _ => heap_set3 (by omega))).mono (by omega)), below_at (below_at (below_at (below_box hb) (Nat.le_refl _) 0 _) (Nat.le_refl _) 1 _) (Nat.le_refl _) 2 _⟩
set_option maxRecDepth 100000 in
theorem of_1 (w : World) : Calls Try.prog 51 #[.int .i64 1] w (KRet 1 w) := by
  go_enter Try.func51, Try.ntmps51
  go_wp2_with fail
  refine bodyPost_ret (v := .tuple #[.agg #[.func (.func 74) #[] #[], .slice (some ⟨w.heap.size + 1, 0, none⟩) 2 2, .func (.func 77) #[] #[]], .bool true]) (by simp [results, Try.results51, go_sem]) rfl ⟨_, rfl, Knd.mono (knd_1 (w.heap.size + 1) _ (w.heap.size + 1) ?_ (by omega)) (by omega), ?_⟩
  · first | exact blk_new (by simp) | (refine blk_alloc ?_; exact blk_new (by simp))
  · repeat (first | with_reducible exact Below.refl _ _ | with_reducible refine Below.alloc ?_ (by simp <;> omega) _)
set_option maxRecDepth 100000 in
theorem of_2 (w : World) : Calls Try.prog 51 #[.int .i64 2] w (KRet 2 w) := by
  go_enter Try.func51, Try.ntmps51
  go_wp2_with (first | ((go_at_call 80; refine (kd_load _ _ _ _).mono ?_); rintro e w1 ⟨b, g, rfl, h1, h2, l1, _, l2, _, hb⟩; have hb' := below_box hb; have ho := blk_below (blk_new (w := (w.alloc (.cells #[.nilFunc, .slice none 0 0, .nilFunc] 64))) (cs := #[.int .u8 139]) (t := 5) rfl) hb; obtain ⟨⟨z0, z1, z2⟩, ⟨f0, f1, f2⟩, hz⟩ := res_kind (hb'); simp only [World.size_alloc] at l1 l2) | ((go_at_call 79; refine (kd_sized _ _ _ _ _ _ _ _).mono ?_); rintro e w2 ⟨g2, rfl, k1, l3, _, hb2⟩; have hb3 := below_next hb' hb'.size hb2; obtain ⟨⟨z0, z1, z2⟩, ⟨f0, f1, f2⟩, hz⟩ := res_kind (hb3); have h1' := blk_below h1 hb2; have ho' := blk_below ho hb2; have hs1 := hb'.size; simp only [World.size_alloc] at hs1))
  exact bodyPost_ret (v := .tuple #[.agg #[.func (.func 113) #[] #[], .slice (some ⟨g2, 0, none⟩) 2 2, .func (.func 116) #[] #[.pointer (some ⟨b, 0, none⟩)]], .bool true]) (by simp [results, Try.results51, go_sem, z0, z1, z2, hz]) rfl ⟨_, rfl, (((knd_2 (w.heap.size + 1) w2 g2 b (w.heap.size + 1) k1 h1' (by simpa using ho') (by omega) (by omega) (by omega)).keep (by simp) (fun b hb _ => heap_set3 (by omega))).mono (by omega)), below_at (below_at (below_at (below_box hb3) (Nat.le_refl _) 0 _) (Nat.le_refl _) 1 _) (Nat.le_refl _) 2 _⟩
set_option maxRecDepth 100000 in
theorem of_3 (w : World) : Calls Try.prog 51 #[.int .i64 3] w (KRet 3 w) := by
  go_enter Try.func51, Try.ntmps51
  go_wp2_with (first | ((go_at_call 81; refine (kd_store _ _ _).mono ?_); rintro e w1 ⟨b, b2, g, rfl, h1, h2, h3, l1, _, l2, _, l3, _, hb⟩; obtain ⟨⟨z0, z1, z2⟩, ⟨f0, f1, f2⟩, hz⟩ := res_kind (hb); simp only [World.size_alloc] at l1 l2 l3) | ((go_at_call 79; refine (kd_sized _ _ _ _ _ _ _ _).mono ?_); rintro e w2 ⟨g2, rfl, k1, l4, _, hb2⟩; have hb3 := below_next hb hb.size hb2; obtain ⟨⟨z0, z1, z2⟩, ⟨f0, f1, f2⟩, hz⟩ := res_kind (hb3); have h1' := blk_below h1 hb2; have h2' := blk_below h2 hb2; have hs1 := hb.size; simp only [World.size_alloc] at hs1))
  exact bodyPost_ret (v := .tuple #[.agg #[.func (.func 119) #[] #[.pointer (some ⟨b2, 0, none⟩)], .slice (some ⟨g2, 0, none⟩) 2 2, .func (.func 120) #[] #[.pointer (some ⟨b, 0, none⟩)]], .bool true]) (by simp [results, Try.results51, go_sem, z0, z1, z2, hz]) rfl ⟨_, rfl, (((knd_3 (w.heap.size + 1) w2 g2 b b2 k1 h1' h2' (by omega) (by omega) (by omega)).keep (by simp) (fun b hb _ => heap_set3 (by omega))).mono (by omega)), below_at (below_at (below_at (below_box hb3) (Nat.le_refl _) 0 _) (Nat.le_refl _) 1 _) (Nat.le_refl _) 2 _⟩
set_option maxRecDepth 100000 in
theorem of_4 (w : World) : Calls Try.prog 51 #[.int .i64 4] w (KRet 4 w) := by
  go_enter Try.func51, Try.ntmps51
  go_wp2_with ((go_at_call 80; refine (kd_load _ _ _ _).mono ?_); rintro e w1 ⟨b, g, rfl, h1, h2, l1, _, l2, _, hb⟩; have hb' := below_box hb; have ho := blk_below (blk_new (w := (w.alloc (.cells #[.nilFunc, .slice none 0 0, .nilFunc] 64))) (cs := #[.int .u8 15, .int .u8 182]) (t := 5) rfl) hb; obtain ⟨⟨z0, z1, z2⟩, ⟨f0, f1, f2⟩, hz⟩ := res_kind (hb'); simp only [World.size_alloc] at l1 l2)
  exact bodyPost_ret (v := .tuple #[.agg #[.func (.func 113) #[] #[], .slice (some ⟨g, 0, none⟩) 1 1, .func (.func 116) #[] #[.pointer (some ⟨b, 0, none⟩)]], .bool true]) (by simp [results, Try.results51, go_sem, z0, z1, z2, hz]) rfl ⟨_, rfl, (((knd_4 (w.heap.size + 1) w1 g b (w.heap.size + 1) h2 h1 (by simpa using ho) (by omega) (by omega) (by omega)).keep (by simp) (fun b hb _ => heap_set3 (by omega))).mono (by omega)), below_at (below_at (below_at (below_box hb') (Nat.le_refl _) 0 _) (Nat.le_refl _) 1 _) (Nat.le_refl _) 2 _⟩
set_option maxRecDepth 100000 in
theorem of_5 (w : World) : Calls Try.prog 51 #[.int .i64 5] w (KRet 5 w) := by
  go_enter Try.func51, Try.ntmps51
  go_wp2_with ((go_at_call 80; refine (kd_load _ _ _ _).mono ?_); rintro e w1 ⟨b, g, rfl, h1, h2, l1, _, l2, _, hb⟩; have hb' := below_box hb; have ho := blk_below (blk_new (w := (w.alloc (.cells #[.nilFunc, .slice none 0 0, .nilFunc] 64))) (cs := #[.int .u8 15, .int .u8 183]) (t := 5) rfl) hb; obtain ⟨⟨z0, z1, z2⟩, ⟨f0, f1, f2⟩, hz⟩ := res_kind (hb'); simp only [World.size_alloc] at l1 l2)
  exact bodyPost_ret (v := .tuple #[.agg #[.func (.func 113) #[] #[], .slice (some ⟨g, 0, none⟩) 1 1, .func (.func 116) #[] #[.pointer (some ⟨b, 0, none⟩)]], .bool true]) (by simp [results, Try.results51, go_sem, z0, z1, z2, hz]) rfl ⟨_, rfl, (((knd_5 (w.heap.size + 1) w1 g b (w.heap.size + 1) h2 h1 (by simpa using ho) (by omega) (by omega) (by omega)).keep (by simp) (fun b hb _ => heap_set3 (by omega))).mono (by omega)), below_at (below_at (below_at (below_box hb') (Nat.le_refl _) 0 _) (Nat.le_refl _) 1 _) (Nat.le_refl _) 2 _⟩
set_option maxRecDepth 100000 in
theorem of_6 (w : World) : Calls Try.prog 51 #[.int .i64 6] w (KRet 6 w) := by
  go_enter Try.func51, Try.ntmps51
  go_wp2_with ((go_at_call 81; refine (kd_store _ _ _).mono ?_); rintro e w1 ⟨b, b2, g, rfl, h1, h2, h3, l1, _, l2, _, l3, _, hb⟩; obtain ⟨⟨z0, z1, z2⟩, ⟨f0, f1, f2⟩, hz⟩ := res_kind (hb); simp only [World.size_alloc] at l1 l2 l3)
  exact bodyPost_ret (v := .tuple #[.agg #[.func (.func 119) #[] #[.pointer (some ⟨b2, 0, none⟩)], .slice (some ⟨g, 0, none⟩) 1 1, .func (.func 120) #[] #[.pointer (some ⟨b, 0, none⟩)]], .bool true]) (by simp [results, Try.results51, go_sem, z0, z1, z2, hz]) rfl ⟨_, rfl, (((knd_6 (w.heap.size + 1) w1 g b b2 h3 h1 h2 (by omega) (by omega) (by omega)).keep (by simp) (fun b hb _ => heap_set3 (by omega))).mono (by omega)), below_at (below_at (below_at (below_box hb) (Nat.le_refl _) 0 _) (Nat.le_refl _) 1 _) (Nat.le_refl _) 2 _⟩
set_option maxRecDepth 100000 in
theorem of_7 (w : World) : Calls Try.prog 52 #[.int .i64 7] w (KRet 7 w) := by
  go_enter Try.func52, Try.ntmps52
  go_wp2_with ((go_at_call 73; refine (kd_pair _ _).mono ?_); rintro e w1 ⟨b, g, rfl, h1, h2, l1, _, l2, _, hb⟩; obtain ⟨⟨z0, z1, z2⟩, ⟨f0, f1, f2⟩, hz⟩ := res_kind (hb); simp only [World.size_alloc] at l1 l2)
  exact bodyPost_ret (v := .tuple #[.agg #[.func (.func 111) #[] #[], .slice (some ⟨g, 0, none⟩) 2 2, .func (.func 112) #[] #[.pointer (some ⟨b, 0, none⟩)]], .bool true]) (by simp [results, Try.results52, go_sem, z0, z1, z2, hz]) rfl ⟨_, rfl, (((knd_7 (w.heap.size + 1) w1 g b h2 h1 l2 l1).keep (by simp) (fun b hb _ => heap_set3 (by omega))).mono (by omega)), below_at (below_at (below_at (below_box hb) (Nat.le_refl _) 0 _) (Nat.le_refl _) 1 _) (Nat.le_refl _) 2 _⟩
set_option maxRecDepth 100000 in
theorem of_8 (w : World) : Calls Try.prog 52 #[.int .i64 8] w (KRet 8 w) := by
  go_enter Try.func52, Try.ntmps52
  go_wp2_with ((go_at_call 73; refine (kd_pair _ _).mono ?_); rintro e w1 ⟨b, g, rfl, h1, h2, l1, _, l2, _, hb⟩; obtain ⟨⟨z0, z1, z2⟩, ⟨f0, f1, f2⟩, hz⟩ := res_kind (hb); simp only [World.size_alloc] at l1 l2)
  exact bodyPost_ret (v := .tuple #[.agg #[.func (.func 111) #[] #[], .slice (some ⟨g, 0, none⟩) 2 2, .func (.func 112) #[] #[.pointer (some ⟨b, 0, none⟩)]], .bool true]) (by simp [results, Try.results52, go_sem, z0, z1, z2, hz]) rfl ⟨_, rfl, (((knd_8 (w.heap.size + 1) w1 g b h2 h1 l2 l1).keep (by simp) (fun b hb _ => heap_set3 (by omega))).mono (by omega)), below_at (below_at (below_at (below_box hb) (Nat.le_refl _) 0 _) (Nat.le_refl _) 1 _) (Nat.le_refl _) 2 _⟩
set_option maxRecDepth 100000 in
theorem of_9 (w : World) : Calls Try.prog 52 #[.int .i64 9] w (KRet 9 w) := by
  go_enter Try.func52, Try.ntmps52
  go_wp2_with ((go_at_call 73; refine (kd_pair _ _).mono ?_); rintro e w1 ⟨b, g, rfl, h1, h2, l1, _, l2, _, hb⟩; obtain ⟨⟨z0, z1, z2⟩, ⟨f0, f1, f2⟩, hz⟩ := res_kind (hb); simp only [World.size_alloc] at l1 l2)
  exact bodyPost_ret (v := .tuple #[.agg #[.func (.func 111) #[] #[], .slice (some ⟨g, 0, none⟩) 2 2, .func (.func 112) #[] #[.pointer (some ⟨b, 0, none⟩)]], .bool true]) (by simp [results, Try.results52, go_sem, z0, z1, z2, hz]) rfl ⟨_, rfl, (((knd_9 (w.heap.size + 1) w1 g b h2 h1 l2 l1).keep (by simp) (fun b hb _ => heap_set3 (by omega))).mono (by omega)), below_at (below_at (below_at (below_box hb) (Nat.le_refl _) 0 _) (Nat.le_refl _) 1 _) (Nat.le_refl _) 2 _⟩
set_option maxRecDepth 100000 in
theorem of_10 (w : World) : Calls Try.prog 52 #[.int .i64 10] w (KRet 10 w) := by
  go_enter Try.func52, Try.ntmps52
  go_wp2_with ((go_at_call 73; refine (kd_pair _ _).mono ?_); rintro e w1 ⟨b, g, rfl, h1, h2, l1, _, l2, _, hb⟩; obtain ⟨⟨z0, z1, z2⟩, ⟨f0, f1, f2⟩, hz⟩ := res_kind (hb); simp only [World.size_alloc] at l1 l2)
  exact bodyPost_ret (v := .tuple #[.agg #[.func (.func 111) #[] #[], .slice (some ⟨g, 0, none⟩) 2 2, .func (.func 112) #[] #[.pointer (some ⟨b, 0, none⟩)]], .bool true]) (by simp [results, Try.results52, go_sem, z0, z1, z2, hz]) rfl ⟨_, rfl, (((knd_10 (w.heap.size + 1) w1 g b h2 h1 l2 l1).keep (by simp) (fun b hb _ => heap_set3 (by omega))).mono (by omega)), below_at (below_at (below_at (below_box hb) (Nat.le_refl _) 0 _) (Nat.le_refl _) 1 _) (Nat.le_refl _) 2 _⟩
set_option maxRecDepth 100000 in
theorem of_11 (w : World) : Calls Try.prog 52 #[.int .i64 11] w (KRet 11 w) := by
  go_enter Try.func52, Try.ntmps52
  go_wp2_with ((go_at_call 73; refine (kd_pair _ _).mono ?_); rintro e w1 ⟨b, g, rfl, h1, h2, l1, _, l2, _, hb⟩; obtain ⟨⟨z0, z1, z2⟩, ⟨f0, f1, f2⟩, hz⟩ := res_kind (hb); simp only [World.size_alloc] at l1 l2)
  exact bodyPost_ret (v := .tuple #[.agg #[.func (.func 111) #[] #[], .slice (some ⟨g, 0, none⟩) 2 2, .func (.func 112) #[] #[.pointer (some ⟨b, 0, none⟩)]], .bool true]) (by simp [results, Try.results52, go_sem, z0, z1, z2, hz]) rfl ⟨_, rfl, (((knd_11 (w.heap.size + 1) w1 g b h2 h1 l2 l1).keep (by simp) (fun b hb _ => heap_set3 (by omega))).mono (by omega)), below_at (below_at (below_at (below_box hb) (Nat.le_refl _) 0 _) (Nat.le_refl _) 1 _) (Nat.le_refl _) 2 _⟩
set_option maxRecDepth 100000 in
theorem of_12 (w : World) : Calls Try.prog 52 #[.int .i64 12] w (KRet 12 w) := by
  go_enter Try.func52, Try.ntmps52
  go_wp2_with ((go_at_call 73; refine (kd_pair _ _).mono ?_); rintro e w1 ⟨b, g, rfl, h1, h2, l1, _, l2, _, hb⟩; obtain ⟨⟨z0, z1, z2⟩, ⟨f0, f1, f2⟩, hz⟩ := res_kind (hb); simp only [World.size_alloc] at l1 l2)
  exact bodyPost_ret (v := .tuple #[.agg #[.func (.func 111) #[] #[], .slice (some ⟨g, 0, none⟩) 2 2, .func (.func 112) #[] #[.pointer (some ⟨b, 0, none⟩)]], .bool true]) (by simp [results, Try.results52, go_sem, z0, z1, z2, hz]) rfl ⟨_, rfl, (((knd_12 (w.heap.size + 1) w1 g b h2 h1 l2 l1).keep (by simp) (fun b hb _ => heap_set3 (by omega))).mono (by omega)), below_at (below_at (below_at (below_box hb) (Nat.le_refl _) 0 _) (Nat.le_refl _) 1 _) (Nat.le_refl _) 2 _⟩
set_option maxRecDepth 100000 in
theorem of_13 (w : World) : Calls Try.prog 52 #[.int .i64 13] w (KRet 13 w) := by
  go_enter Try.func52, Try.ntmps52
  go_wp2_with ((go_at_call 73; refine (kd_pair _ _).mono ?_); rintro e w1 ⟨b, g, rfl, h1, h2, l1, _, l2, _, hb⟩; obtain ⟨⟨z0, z1, z2⟩, ⟨f0, f1, f2⟩, hz⟩ := res_kind (hb); simp only [World.size_alloc] at l1 l2)
  exact bodyPost_ret (v := .tuple #[.agg #[.func (.func 111) #[] #[], .slice (some ⟨g, 0, none⟩) 2 2, .func (.func 112) #[] #[.pointer (some ⟨b, 0, none⟩)]], .bool true]) (by simp [results, Try.results52, go_sem, z0, z1, z2, hz]) rfl ⟨_, rfl, (((knd_13 (w.heap.size + 1) w1 g b h2 h1 l2 l1).keep (by simp) (fun b hb _ => heap_set3 (by omega))).mono (by omega)), below_at (below_at (below_at (below_box hb) (Nat.le_refl _) 0 _) (Nat.le_refl _) 1 _) (Nat.le_refl _) 2 _⟩
set_option maxRecDepth 100000 in
theorem of_14 (w : World) : Calls Try.prog 52 #[.int .i64 14] w (KRet 14 w) := by
  go_enter Try.func52, Try.ntmps52
  go_wp2_with ((go_at_call 83; refine (kd_num _ _).mono ?_); rintro e w1 ⟨b, g, rfl, h1, h2, l1, _, l2, _, hb⟩; obtain ⟨⟨z0, z1, z2⟩, ⟨f0, f1, f2⟩, hz⟩ := res_kind (hb); simp only [World.size_alloc] at l1 l2)
  exact bodyPost_ret (v := .tuple #[.agg #[.func (.func 121) #[] #[], .slice (some ⟨g, 0, none⟩) 2 2, .func (.func 122) #[] #[.pointer (some ⟨b, 0, none⟩)]], .bool true]) (by simp [results, Try.results52, go_sem, z0, z1, z2, hz]) rfl ⟨_, rfl, (((knd_14 (w.heap.size + 1) w1 g b h2 h1 l2 l1).keep (by simp) (fun b hb _ => heap_set3 (by omega))).mono (by omega)), below_at (below_at (below_at (below_box hb) (Nat.le_refl _) 0 _) (Nat.le_refl _) 1 _) (Nat.le_refl _) 2 _⟩
set_option maxRecDepth 100000 in
theorem of_15 (w : World) : Calls Try.prog 52 #[.int .i64 15] w (KRet 15 w) := by
  go_enter Try.func52, Try.ntmps52
  go_wp2_with ((go_at_call 83; refine (kd_num _ _).mono ?_); rintro e w1 ⟨b, g, rfl, h1, h2, l1, _, l2, _, hb⟩; obtain ⟨⟨z0, z1, z2⟩, ⟨f0, f1, f2⟩, hz⟩ := res_kind (hb); simp only [World.size_alloc] at l1 l2)
  exact bodyPost_ret (v := .tuple #[.agg #[.func (.func 121) #[] #[], .slice (some ⟨g, 0, none⟩) 2 2, .func (.func 122) #[] #[.pointer (some ⟨b, 0, none⟩)]], .bool true]) (by simp [results, Try.results52, go_sem, z0, z1, z2, hz]) rfl ⟨_, rfl, (((knd_15 (w.heap.size + 1) w1 g b h2 h1 l2 l1).keep (by simp) (fun b hb _ => heap_set3 (by omega))).mono (by omega)), below_at (below_at (below_at (below_box hb) (Nat.le_refl _) 0 _) (Nat.le_refl _) 1 _) (Nat.le_refl _) 2 _⟩
set_option maxRecDepth 100000 in
theorem of_16 (w : World) : Calls Try.prog 52 #[.int .i64 16] w (KRet 16 w) := by
  go_enter Try.func52, Try.ntmps52
  go_wp2_with ((go_at_call 83; refine (kd_num _ _).mono ?_); rintro e w1 ⟨b, g, rfl, h1, h2, l1, _, l2, _, hb⟩; obtain ⟨⟨z0, z1, z2⟩, ⟨f0, f1, f2⟩, hz⟩ := res_kind (hb); simp only [World.size_alloc] at l1 l2)
  exact bodyPost_ret (v := .tuple #[.agg #[.func (.func 121) #[] #[], .slice (some ⟨g, 0, none⟩) 2 2, .func (.func 122) #[] #[.pointer (some ⟨b, 0, none⟩)]], .bool true]) (by simp [results, Try.results52, go_sem, z0, z1, z2, hz]) rfl ⟨_, rfl, (((knd_16 (w.heap.size + 1) w1 g b h2 h1 l2 l1).keep (by simp) (fun b hb _ => heap_set3 (by omega))).mono (by omega)), below_at (below_at (below_at (below_box hb) (Nat.le_refl _) 0 _) (Nat.le_refl _) 1 _) (Nat.le_refl _) 2 _⟩
set_option maxRecDepth 100000 in
theorem of_17 (w : World) : Calls Try.prog 52 #[.int .i64 17] w (KRet 17 w) := by
  go_enter Try.func52, Try.ntmps52
  go_wp2_with ((go_at_call 83; refine (kd_num _ _).mono ?_); rintro e w1 ⟨b, g, rfl, h1, h2, l1, _, l2, _, hb⟩; obtain ⟨⟨z0, z1, z2⟩, ⟨f0, f1, f2⟩, hz⟩ := res_kind (hb); simp only [World.size_alloc] at l1 l2)
  exact bodyPost_ret (v := .tuple #[.agg #[.func (.func 121) #[] #[], .slice (some ⟨g, 0, none⟩) 2 2, .func (.func 122) #[] #[.pointer (some ⟨b, 0, none⟩)]], .bool true]) (by simp [results, Try.results52, go_sem, z0, z1, z2, hz]) rfl ⟨_, rfl, (((knd_17 (w.heap.size + 1) w1 g b h2 h1 l2 l1).keep (by simp) (fun b hb _ => heap_set3 (by omega))).mono (by omega)), below_at (below_at (below_at (below_box hb) (Nat.le_refl _) 0 _) (Nat.le_refl _) 1 _) (Nat.le_refl _) 2 _⟩
set_option maxRecDepth 100000 in
theorem of_18 (w : World) : Calls Try.prog 52 #[.int .i64 18] w (KRet 18 w) := by
  go_enter Try.func52, Try.ntmps52
  go_wp2_with ((go_at_call 83; refine (kd_num _ _).mono ?_); rintro e w1 ⟨b, g, rfl, h1, h2, l1, _, l2, _, hb⟩; obtain ⟨⟨z0, z1, z2⟩, ⟨f0, f1, f2⟩, hz⟩ := res_kind (hb); simp only [World.size_alloc] at l1 l2)
  exact bodyPost_ret (v := .tuple #[.agg #[.func (.func 121) #[] #[], .slice (some ⟨g, 0, none⟩) 2 2, .func (.func 122) #[] #[.pointer (some ⟨b, 0, none⟩)]], .bool true]) (by simp [results, Try.results52, go_sem, z0, z1, z2, hz]) rfl ⟨_, rfl, (((knd_18 (w.heap.size + 1) w1 g b h2 h1 l2 l1).keep (by simp) (fun b hb _ => heap_set3 (by omega))).mono (by omega)), below_at (below_at (below_at (below_box hb) (Nat.le_refl _) 0 _) (Nat.le_refl _) 1 _) (Nat.le_refl _) 2 _⟩
set_option maxRecDepth 100000 in
theorem of_19 (w : World) : Calls Try.prog 52 #[.int .i64 19] w (KRet 19 w) := by
  go_enter Try.func52, Try.ntmps52
  go_wp2_with ((go_at_call 83; refine (kd_num _ _).mono ?_); rintro e w1 ⟨b, g, rfl, h1, h2, l1, _, l2, _, hb⟩; obtain ⟨⟨z0, z1, z2⟩, ⟨f0, f1, f2⟩, hz⟩ := res_kind (hb); simp only [World.size_alloc] at l1 l2)
  exact bodyPost_ret (v := .tuple #[.agg #[.func (.func 121) #[] #[], .slice (some ⟨g, 0, none⟩) 2 2, .func (.func 122) #[] #[.pointer (some ⟨b, 0, none⟩)]], .bool true]) (by simp [results, Try.results52, go_sem, z0, z1, z2, hz]) rfl ⟨_, rfl, (((knd_19 (w.heap.size + 1) w1 g b h2 h1 l2 l1).keep (by simp) (fun b hb _ => heap_set3 (by omega))).mono (by omega)), below_at (below_at (below_at (below_box hb) (Nat.le_refl _) 0 _) (Nat.le_refl _) 1 _) (Nat.le_refl _) 2 _⟩
set_option maxRecDepth 100000 in
theorem of_20 (w : World) : Calls Try.prog 53 #[.int .i64 20] w (KRet 20 w) := by
  go_enter Try.func53, Try.ntmps53
  go_wp2_with fail
  refine bodyPost_ret (v := .tuple #[.agg #[.func (.func 84) #[] #[], .slice (some ⟨w.heap.size + 1, 0, none⟩) 1 1, .func (.func 85) #[] #[]], .bool true]) (by simp [results, Try.results53, go_sem]) rfl ⟨_, rfl, Knd.mono (knd_20 (w.heap.size + 1) _ (w.heap.size + 1) ?_ (by omega)) (by omega), ?_⟩
  · first | exact blk_new (by simp) | (refine blk_alloc ?_; exact blk_new (by simp))
  · repeat (first | with_reducible exact Below.refl _ _ | with_reducible refine Below.alloc ?_ (by simp <;> omega) _)
set_option maxRecDepth 100000 in
theorem of_21 (w : World) : Calls Try.prog 53 #[.int .i64 21] w (KRet 21 w) := by
  go_enter Try.func53, Try.ntmps53
  go_wp2_with ((go_at_call 87; refine (kd_single _ _ _ _ _ _).mono ?_); rintro e w1 ⟨b, b2, rfl, h1, h2, l1, _, l2, _, hb⟩; have hb' := below_box hb; have ho := blk_below (blk_new (w := (w.alloc (.cells #[.nilFunc, .slice none 0 0, .nilFunc] 64))) (cs := #[.int .i64 32, .int .i64 16]) (t := 3) rfl) hb; obtain ⟨⟨z0, z1, z2⟩, ⟨f0, f1, f2⟩, hz⟩ := res_kind (hb'); simp only [World.size_alloc] at l1 l2)
  exact bodyPost_ret (v := .tuple #[.agg #[.func (.func 124) #[] #[], .slice (some ⟨w.heap.size + 1, 0, none⟩) 2 2, .func (.func 125) #[] #[.pointer (some ⟨b, 0, none⟩), .pointer (some ⟨b2, 0, none⟩)]], .bool true]) (by simp [results, Try.results53, go_sem, z0, z1, z2, hz]) rfl ⟨_, rfl, (((knd_21 (w.heap.size + 1) w1 (w.heap.size + 1) b b2 (by simpa using ho) h1 h2 (by omega) (by omega) (by omega)).keep (by simp) (fun b hb _ => heap_set3 (by omega))).mono (by omega)), below_at (below_at (below_at (below_box hb') (Nat.le_refl _) 0 _) (Nat.le_refl _) 1 _) (Nat.le_refl _) 2 _⟩
set_option maxRecDepth 100000 in
theorem of_22 (w : World) : Calls Try.prog 53 #[.int .i64 22] w (KRet 22 w) := by
  go_enter Try.func53, Try.ntmps53
  go_wp2_with ((go_at_call 87; refine (kd_single _ _ _ _ _ _).mono ?_); rintro e w1 ⟨b, b2, rfl, h1, h2, l1, _, l2, _, hb⟩; have hb' := below_box hb; have ho := blk_below (blk_new (w := (w.alloc (.cells #[.nilFunc, .slice none 0 0, .nilFunc] 64))) (cs := #[.int .i64 32, .int .i64 16]) (t := 3) rfl) hb; obtain ⟨⟨z0, z1, z2⟩, ⟨f0, f1, f2⟩, hz⟩ := res_kind (hb'); simp only [World.size_alloc] at l1 l2)
  exact bodyPost_ret (v := .tuple #[.agg #[.func (.func 124) #[] #[], .slice (some ⟨w.heap.size + 1, 0, none⟩) 2 2, .func (.func 125) #[] #[.pointer (some ⟨b, 0, none⟩), .pointer (some ⟨b2, 0, none⟩)]], .bool true]) (by simp [results, Try.results53, go_sem, z0, z1, z2, hz]) rfl ⟨_, rfl, (((knd_22 (w.heap.size + 1) w1 (w.heap.size + 1) b b2 (by simpa using ho) h1 h2 (by omega) (by omega) (by omega)).keep (by simp) (fun b hb _ => heap_set3 (by omega))).mono (by omega)), below_at (below_at (below_at (below_box hb') (Nat.le_refl _) 0 _) (Nat.le_refl _) 1 _) (Nat.le_refl _) 2 _⟩
set_option maxRecDepth 100000 in
theorem of_23 (w : World) : Calls Try.prog 53 #[.int .i64 23] w (KRet 23 w) := by
  go_enter Try.func53, Try.ntmps53
  go_wp2_with ((go_at_call 87; refine (kd_single _ _ _ _ _ _).mono ?_); rintro e w1 ⟨b, b2, rfl, h1, h2, l1, _, l2, _, hb⟩; have hb' := below_box hb; have ho := blk_below (blk_new (w := (w.alloc (.cells #[.nilFunc, .slice none 0 0, .nilFunc] 64))) (cs := #[.int .i64 32, .int .i64 16]) (t := 3) rfl) hb; obtain ⟨⟨z0, z1, z2⟩, ⟨f0, f1, f2⟩, hz⟩ := res_kind (hb'); simp only [World.size_alloc] at l1 l2)
  exact bodyPost_ret (v := .tuple #[.agg #[.func (.func 124) #[] #[], .slice (some ⟨w.heap.size + 1, 0, none⟩) 2 2, .func (.func 125) #[] #[.pointer (some ⟨b, 0, none⟩), .pointer (some ⟨b2, 0, none⟩)]], .bool true]) (by simp [results, Try.results53, go_sem, z0, z1, z2, hz]) rfl ⟨_, rfl, (((knd_23 (w.heap.size + 1) w1 (w.heap.size + 1) b b2 (by simpa using ho) h1 h2 (by omega) (by omega) (by omega)).keep (by simp) (fun b hb _ => heap_set3 (by omega))).mono (by omega)), below_at (below_at (below_at (below_box hb') (Nat.le_refl _) 0 _) (Nat.le_refl _) 1 _) (Nat.le_refl _) 2 _⟩
set_option maxRecDepth 100000 in
theorem of_24 (w : World) : Calls Try.prog 53 #[.int .i64 24] w (KRet 24 w) := by
  go_enter Try.func53, Try.ntmps53
  go_wp2_with ((go_at_call 87; refine (kd_single _ _ _ _ _ _).mono ?_); rintro e w1 ⟨b, b2, rfl, h1, h2, l1, _, l2, _, hb⟩; have hb' := below_box hb; have ho := blk_below (blk_new (w := (w.alloc (.cells #[.nilFunc, .slice none 0 0, .nilFunc] 64))) (cs := #[.int .i64 32, .int .i64 16]) (t := 3) rfl) hb; obtain ⟨⟨z0, z1, z2⟩, ⟨f0, f1, f2⟩, hz⟩ := res_kind (hb'); simp only [World.size_alloc] at l1 l2)
  exact bodyPost_ret (v := .tuple #[.agg #[.func (.func 124) #[] #[], .slice (some ⟨w.heap.size + 1, 0, none⟩) 2 2, .func (.func 125) #[] #[.pointer (some ⟨b, 0, none⟩), .pointer (some ⟨b2, 0, none⟩)]], .bool true]) (by simp [results, Try.results53, go_sem, z0, z1, z2, hz]) rfl ⟨_, rfl, (((knd_24 (w.heap.size + 1) w1 (w.heap.size + 1) b b2 (by simpa using ho) h1 h2 (by omega) (by omega) (by omega)).keep (by simp) (fun b hb _ => heap_set3 (by omega))).mono (by omega)), below_at (below_at (below_at (below_box hb') (Nat.le_refl _) 0 _) (Nat.le_refl _) 1 _) (Nat.le_refl _) 2 _⟩
set_option maxRecDepth 100000 in
theorem of_25 (w : World) : Calls Try.prog 53 #[.int .i64 25] w (KRet 25 w) := by
  go_enter Try.func53, Try.ntmps53
  go_wp2_with ((go_at_call 87; refine (kd_single _ _ _ _ _ _).mono ?_); rintro e w1 ⟨b, b2, rfl, h1, h2, l1, _, l2, _, hb⟩; have hb' := below_box hb; have ho := blk_below (blk_new (w := (w.alloc (.cells #[.nilFunc, .slice none 0 0, .nilFunc] 64))) (cs := #[.int .i64 32, .int .i64 16]) (t := 3) rfl) hb; obtain ⟨⟨z0, z1, z2⟩, ⟨f0, f1, f2⟩, hz⟩ := res_kind (hb'); simp only [World.size_alloc] at l1 l2)
  exact bodyPost_ret (v := .tuple #[.agg #[.func (.func 124) #[] #[], .slice (some ⟨w.heap.size + 1, 0, none⟩) 2 2, .func (.func 125) #[] #[.pointer (some ⟨b, 0, none⟩), .pointer (some ⟨b2, 0, none⟩)]], .bool true]) (by simp [results, Try.results53, go_sem, z0, z1, z2, hz]) rfl ⟨_, rfl, (((knd_25 (w.heap.size + 1) w1 (w.heap.size + 1) b b2 (by simpa using ho) h1 h2 (by omega) (by omega) (by omega)).keep (by simp) (fun b hb _ => heap_set3 (by omega))).mono (by omega)), below_at (below_at (below_at (below_box hb') (Nat.le_refl _) 0 _) (Nat.le_refl _) 1 _) (Nat.le_refl _) 2 _⟩
set_option maxRecDepth 100000 in
theorem of_26 (w : World) : Calls Try.prog 53 #[.int .i64 26] w (KRet 26 w) := by
  go_enter Try.func53, Try.ntmps53
  go_wp2_with ((go_at_call 87; refine (kd_single _ _ _ _ _ _).mono ?_); rintro e w1 ⟨b, b2, rfl, h1, h2, l1, _, l2, _, hb⟩; have hb' := below_box hb; have ho := blk_below (blk_new (w := (w.alloc (.cells #[.nilFunc, .slice none 0 0, .nilFunc] 64))) (cs := #[.int .i64 32]) (t := 3) rfl) hb; obtain ⟨⟨z0, z1, z2⟩, ⟨f0, f1, f2⟩, hz⟩ := res_kind (hb'); simp only [World.size_alloc] at l1 l2)
  exact bodyPost_ret (v := .tuple #[.agg #[.func (.func 124) #[] #[], .slice (some ⟨w.heap.size + 1, 0, none⟩) 1 1, .func (.func 125) #[] #[.pointer (some ⟨b, 0, none⟩), .pointer (some ⟨b2, 0, none⟩)]], .bool true]) (by simp [results, Try.results53, go_sem, z0, z1, z2, hz]) rfl ⟨_, rfl, (((knd_26 (w.heap.size + 1) w1 (w.heap.size + 1) b b2 (by simpa using ho) h1 h2 (by omega) (by omega) (by omega)).keep (by simp) (fun b hb _ => heap_set3 (by omega))).mono (by omega)), below_at (below_at (below_at (below_box hb') (Nat.le_refl _) 0 _) (Nat.le_refl _) 1 _) (Nat.le_refl _) 2 _⟩
set_option maxRecDepth 100000 in
theorem of_27 (w : World) : Calls Try.prog 53 #[.int .i64 27] w (KRet 27 w) := by
  go_enter Try.func53, Try.ntmps53
  go_wp2_with ((go_at_call 87; refine (kd_single _ _ _ _ _ _).mono ?_); rintro e w1 ⟨b, b2, rfl, h1, h2, l1, _, l2, _, hb⟩; have hb' := below_box hb; have ho := blk_below (blk_new (w := (w.alloc (.cells #[.nilFunc, .slice none 0 0, .nilFunc] 64))) (cs := #[.int .i64 32]) (t := 3) rfl) hb; obtain ⟨⟨z0, z1, z2⟩, ⟨f0, f1, f2⟩, hz⟩ := res_kind (hb'); simp only [World.size_alloc] at l1 l2)
  exact bodyPost_ret (v := .tuple #[.agg #[.func (.func 124) #[] #[], .slice (some ⟨w.heap.size + 1, 0, none⟩) 1 1, .func (.func 125) #[] #[.pointer (some ⟨b, 0, none⟩), .pointer (some ⟨b2, 0, none⟩)]], .bool true]) (by simp [results, Try.results53, go_sem, z0, z1, z2, hz]) rfl ⟨_, rfl, (((knd_27 (w.heap.size + 1) w1 (w.heap.size + 1) b b2 (by simpa using ho) h1 h2 (by omega) (by omega) (by omega)).keep (by simp) (fun b hb _ => heap_set3 (by omega))).mono (by omega)), below_at (below_at (below_at (below_box hb') (Nat.le_refl _) 0 _) (Nat.le_refl _) 1 _) (Nat.le_refl _) 2 _⟩
set_option maxRecDepth 100000 in
theorem of_28 (w : World) : Calls Try.prog 53 #[.int .i64 28] w (KRet 28 w) := by
  go_enter Try.func53, Try.ntmps53
  go_wp2_with ((go_at_call 88; refine (kd_bare _ _ _ _).mono ?_); rintro e w1 ⟨b, g, rfl, h1, h2, l1, _, l2, _, hb⟩; have hb' := below_box hb; have ho := blk_below (blk_new (w := (w.alloc (.cells #[.nilFunc, .slice none 0 0, .nilFunc] 64))) (cs := #[.int .u8 153]) (t := 5) rfl) hb; obtain ⟨⟨z0, z1, z2⟩, ⟨f0, f1, f2⟩, hz⟩ := res_kind (hb'); simp only [World.size_alloc] at l1 l2)
  exact bodyPost_ret (v := .tuple #[.agg #[.func (.func 126) #[] #[], .slice (some ⟨g, 0, none⟩) 1 1, .func (.func 127) #[] #[.pointer (some ⟨b, 0, none⟩)]], .bool true]) (by simp [results, Try.results53, go_sem, z0, z1, z2, hz]) rfl ⟨_, rfl, (((knd_28 (w.heap.size + 1) w1 g b (w.heap.size + 1) h2 h1 (by simpa using ho) (by omega) (by omega) (by omega)).keep (by simp) (fun b hb _ => heap_set3 (by omega))).mono (by omega)), below_at (below_at (below_at (below_box hb') (Nat.le_refl _) 0 _) (Nat.le_refl _) 1 _) (Nat.le_refl _) 2 _⟩
set_option maxRecDepth 100000 in
theorem of_29 (w : World) : Calls Try.prog 53 #[.int .i64 29] w (KRet 29 w) := by
  go_enter Try.func53, Try.ntmps53
  go_wp2_with fail
  refine bodyPost_ret (v := .tuple #[.agg #[.func (.func 89) #[] #[], .slice (some ⟨w.heap.size + 1, 0, none⟩) 1 1, .func (.func 90) #[] #[]], .bool true]) (by simp [results, Try.results53, go_sem]) rfl ⟨_, rfl, Knd.mono (knd_29 (w.heap.size + 1) _ (w.heap.size + 1) ?_ (by omega)) (by omega), ?_⟩
  · first | exact blk_new (by simp) | (refine blk_alloc ?_; exact blk_new (by simp))
  · repeat (first | with_reducible exact Below.refl _ _ | with_reducible refine Below.alloc ?_ (by simp <;> omega) _)
set_option maxRecDepth 100000 in
theorem of_30 (w : World) : Calls Try.prog 53 #[.int .i64 30] w (KRet 30 w) := by
  go_enter Try.func53, Try.ntmps53
  go_wp2_with fail
  refine bodyPost_ret (v := .tuple #[.agg #[.func (.func 91) #[] #[], .slice (some ⟨w.heap.size + 1, 0, none⟩) 1 1, .func (.func 92) #[] #[]], .bool true]) (by simp [results, Try.results53, go_sem]) rfl ⟨_, rfl, Knd.mono (knd_30 (w.heap.size + 1) _ (w.heap.size + 1) ?_ (by omega)) (by omega), ?_⟩
  · first | exact blk_new (by simp) | (refine blk_alloc ?_; exact blk_new (by simp))
  · repeat (first | with_reducible exact Below.refl _ _ | with_reducible refine Below.alloc ?_ (by simp <;> omega) _)
set_option maxRecDepth 100000 in
theorem of_31 (w : World) : Calls Try.prog 53 #[.int .i64 31] w (KRet 31 w) := by
  go_enter Try.func53, Try.ntmps53
  go_wp2_with fail
  refine bodyPost_ret (v := .tuple #[.agg #[.func (.func 93) #[] #[], .slice (some ⟨w.heap.size + 1, 0, none⟩) 1 1, .func (.func 94) #[] #[]], .bool true]) (by simp [results, Try.results53, go_sem]) rfl ⟨_, rfl, Knd.mono (knd_31 (w.heap.size + 1) _ (w.heap.size + 1) ?_ (by omega)) (by omega), ?_⟩
  · first | exact blk_new (by simp) | (refine blk_alloc ?_; exact blk_new (by simp))
  · repeat (first | with_reducible exact Below.refl _ _ | with_reducible refine Below.alloc ?_ (by simp <;> omega) _)
set_option maxRecDepth 100000 in
theorem of_32 (w : World) : Calls Try.prog 53 #[.int .i64 32] w (KRet 32 w) := by
  go_enter Try.func53, Try.ntmps53
  go_wp2_with ((go_at_call 95; refine (kd_jump _ _ _ _).mono ?_); rintro e w1 ⟨b1, b2, b3, g, rfl, h1, h2, h3, h4, l1, _, l2, _, l3, _, l4, _, hb⟩; obtain ⟨⟨z0, z1, z2⟩, ⟨f0, f1, f2⟩, hz⟩ := res_kind (hb); simp only [World.size_alloc] at l1 l2 l3 l4)
  exact bodyPost_ret (v := .tuple #[.agg #[.func (.func 128) #[] #[.pointer (some ⟨b3, 0, none⟩)], .slice (some ⟨g, 0, none⟩) 2 2, .func (.func 129) #[] #[.pointer (some ⟨b1, 0, none⟩), .pointer (some ⟨b2, 0, none⟩)]], .bool true]) (by simp [results, Try.results53, go_sem, z0, z1, z2, hz]) rfl ⟨_, rfl, (((knd_32 (w.heap.size + 1) w1 g b1 b2 b3 h4 h1 h2 h3 l4 l1 l2 l3).keep (by simp) (fun b hb _ => heap_set3 (by omega))).mono (by omega)), below_at (below_at (below_at (below_box hb) (Nat.le_refl _) 0 _) (Nat.le_refl _) 1 _) (Nat.le_refl _) 2 _⟩
set_option maxRecDepth 100000 in
theorem of_33 (w : World) : Calls Try.prog 53 #[.int .i64 33] w (KRet 33 w) := by
  go_enter Try.func53, Try.ntmps53
  go_wp2_with ((go_at_call 95; refine (kd_jump _ _ _ _).mono ?_); rintro e w1 ⟨b1, b2, b3, g, rfl, h1, h2, h3, h4, l1, _, l2, _, l3, _, l4, _, hb⟩; obtain ⟨⟨z0, z1, z2⟩, ⟨f0, f1, f2⟩, hz⟩ := res_kind (hb); simp only [World.size_alloc] at l1 l2 l3 l4)
  exact bodyPost_ret (v := .tuple #[.agg #[.func (.func 128) #[] #[.pointer (some ⟨b3, 0, none⟩)], .slice (some ⟨g, 0, none⟩) 2 2, .func (.func 129) #[] #[.pointer (some ⟨b1, 0, none⟩), .pointer (some ⟨b2, 0, none⟩)]], .bool true]) (by simp [results, Try.results53, go_sem, z0, z1, z2, hz]) rfl ⟨_, rfl, (((knd_33 (w.heap.size + 1) w1 g b1 b2 b3 h4 h1 h2 h3 l4 l1 l2 l3).keep (by simp) (fun b hb _ => heap_set3 (by omega))).mono (by omega)), below_at (below_at (below_at (below_box hb) (Nat.le_refl _) 0 _) (Nat.le_refl _) 1 _) (Nat.le_refl _) 2 _⟩
set_option maxRecDepth 100000 in
theorem of_34 (w : World) : Calls Try.prog 53 #[.int .i64 34] w (KRet 34 w) := by
  go_enter Try.func53, Try.ntmps53
  go_wp2_with ((go_at_call 88; refine (kd_bare _ _ _ _).mono ?_); rintro e w1 ⟨b, g, rfl, h1, h2, l1, _, l2, _, hb⟩; have hb' := below_box hb; have ho := blk_below (blk_new (w := (w.alloc (.cells #[.nilFunc, .slice none 0 0, .nilFunc] 64))) (cs := #[.int .u8 244]) (t := 5) rfl) hb; obtain ⟨⟨z0, z1, z2⟩, ⟨f0, f1, f2⟩, hz⟩ := res_kind (hb'); simp only [World.size_alloc] at l1 l2)
  exact bodyPost_ret (v := .tuple #[.agg #[.func (.func 126) #[] #[], .slice (some ⟨g, 0, none⟩) 1 1, .func (.func 127) #[] #[.pointer (some ⟨b, 0, none⟩)]], .bool true]) (by simp [results, Try.results53, go_sem, z0, z1, z2, hz]) rfl ⟨_, rfl, (((knd_34 (w.heap.size + 1) w1 g b (w.heap.size + 1) h2 h1 (by simpa using ho) (by omega) (by omega) (by omega)).keep (by simp) (fun b hb _ => heap_set3 (by omega))).mono (by omega)), below_at (below_at (below_at (below_box hb') (Nat.le_refl _) 0 _) (Nat.le_refl _) 1 _) (Nat.le_refl _) 2 _⟩
set_option maxRecDepth 100000 in
theorem of_35 (w : World) : Calls Try.prog 53 #[.int .i64 35] w (KRet 35 w) := by
  go_enter Try.func53, Try.ntmps53
  go_wp2_with ((go_at_call 88; refine (kd_bare _ _ _ _).mono ?_); rintro e w1 ⟨b, g, rfl, h1, h2, l1, _, l2, _, hb⟩; have hb' := below_box hb; have ho := blk_below (blk_new (w := (w.alloc (.cells #[.nilFunc, .slice none 0 0, .nilFunc] 64))) (cs := #[.int .u8 15, .int .u8 11]) (t := 5) rfl) hb; obtain ⟨⟨z0, z1, z2⟩, ⟨f0, f1, f2⟩, hz⟩ := res_kind (hb'); simp only [World.size_alloc] at l1 l2)
  exact bodyPost_ret (v := .tuple #[.agg #[.func (.func 126) #[] #[], .slice (some ⟨g, 0, none⟩) 1 1, .func (.func 127) #[] #[.pointer (some ⟨b, 0, none⟩)]], .bool true]) (by simp [results, Try.results53, go_sem, z0, z1, z2, hz]) rfl ⟨_, rfl, (((knd_35 (w.heap.size + 1) w1 g b (w.heap.size + 1) h2 h1 (by simpa using ho) (by omega) (by omega) (by omega)).keep (by simp) (fun b hb _ => heap_set3 (by omega))).mono (by omega)), below_at (below_at (below_at (below_box hb') (Nat.le_refl _) 0 _) (Nat.le_refl _) 1 _) (Nat.le_refl _) 2 _⟩
set_option maxRecDepth 100000 in
theorem of_36 (w : World) : Calls Try.prog 53 #[.int .i64 36] w (KRet 36 w) := by
  go_enter Try.func53, Try.ntmps53
  go_wp2_with ((go_at_call 88; refine (kd_bare _ _ _ _).mono ?_); rintro e w1 ⟨b, g, rfl, h1, h2, l1, _, l2, _, hb⟩; have hb' := below_box hb; have ho := blk_below (blk_new (w := (w.alloc (.cells #[.nilFunc, .slice none 0 0, .nilFunc] 64))) (cs := #[.int .u8 144]) (t := 5) rfl) hb; obtain ⟨⟨z0, z1, z2⟩, ⟨f0, f1, f2⟩, hz⟩ := res_kind (hb'); simp only [World.size_alloc] at l1 l2)
  exact bodyPost_ret (v := .tuple #[.agg #[.func (.func 126) #[] #[], .slice (some ⟨g, 0, none⟩) 1 1, .func (.func 127) #[] #[.pointer (some ⟨b, 0, none⟩)]], .bool true]) (by simp [results, Try.results53, go_sem, z0, z1, z2, hz]) rfl ⟨_, rfl, (((knd_36 (w.heap.size + 1) w1 g b (w.heap.size + 1) h2 h1 (by simpa using ho) (by omega) (by omega) (by omega)).keep (by simp) (fun b hb _ => heap_set3 (by omega))).mono (by omega)), below_at (below_at (below_at (below_box hb') (Nat.le_refl _) 0 _) (Nat.le_refl _) 1 _) (Nat.le_refl _) 2 _⟩
end Go.Proofs.Ytdojafpjipcbjaa
