/- -/
import Derived.Deep.CutRange
import Derived.BigQuiet
import Derived.Test.YtaegpeofecdhfaaGreatC3
import Derived.Test.YtaegpeofecdhfaaGreatC4
set_option maxHeartbeats 1000000
set_option maxRecDepth 100000
namespace Go.Proofs.YtaegpeofecdhfaaGreat
open Go.RowKit
set_option linter.unusedVariables false
set_option linter.unusedSimpArgs false
theorem res_kind {w w1 : World} (hb : Below (w.alloc (.cells #[.nilFunc, .slice none 0 0, .nilFunc] 237)).heap.size (w.alloc (.cells #[.nilFunc, .slice none 0 0, .nilFunc] 237)) w1) : (w1.cell? ⟨w.heap.size, 0, none⟩ = some .nilFunc ∧ w1.cell? ⟨w.heap.size, 1, none⟩ = some (.slice none 0 0) ∧ w1.cell? ⟨w.heap.size, 2, none⟩ = some .nilFunc) ∧
    (w1.frozen? ⟨w.heap.size, 0, none⟩ = false ∧ w1.frozen? ⟨w.heap.size, 1, none⟩ = false ∧ w1.frozen? ⟨w.heap.size, 2, none⟩ = false) ∧ w.heap.size < w1.heap.size := by
  obtain ⟨hc, hf⟩ := bcell hb
  have hz := hb.size
  rw [World.size_alloc] at hz
  refine ⟨⟨?_, ?_, ?_⟩, ⟨?_, ?_, ?_⟩, by omega⟩
  · rw [hc _ _ (by simp)]; simp [go_sem]
  · rw [hc _ _ (by simp)]; simp [go_sem]
  · rw [hc _ _ (by simp)]; simp [go_sem]
  · rw [hf _ _ (by simp)]; simp [go_sem]
  · rw [hf _ _ (by simp)]; simp [go_sem]
  · rw [hf _ _ (by simp)]; simp [go_sem]
def KRet (o : Int) (w : World) (e : Ending) (w' : World) : Prop := ∃ k, e = .returned (.tuple #[k, .bool true]) ∧ Knd w.heap.size w' k o ∧ Below w.heap.size w w'
theorem heap_set3 {w : World} {R : Nat} {u0 u1 u2 : Value} {b : Nat} (h : b ≠ R) : (((w.setCell ⟨R, 0, none⟩ u0).setCell ⟨R, 1, none⟩ u1).setCell ⟨R, 2, none⟩ u2).heap[b]? = w.heap[b]? := by
  rw [Below.heap_setCell _ _ _ _ (by simpa using h), Below.heap_setCell _ _ _ _ (by simpa using h), Below.heap_setCell _ _ _ _ (by simpa using h)]
theorem of_0 (w : World) : Calls Tryz.prog 200 #[.int .i64 0] w (KRet 0 w) := by
  go_enter Tryz.func200, Tryz.ntmps200
  go_wp2_with ((go_at_call 204; refine (kd_pair _ _).mono ?_); rintro e w1 ⟨b, g, rfl, h1, h2, l1, _, l2, _, hb⟩; obtain ⟨⟨z0, z1, z2⟩, ⟨f0, f1, f2⟩, hz⟩ := res_kind (hb); simp only [World.size_alloc] at l1 l2)
  exact bodyPost_ret (v := .tuple #[.agg #[.func (.func 233) #[] #[], .slice (some ⟨g, 0, none⟩) 2 2, .func (.func 234) #[] #[.pointer (some ⟨b, 0, none⟩)]], .bool true]) (by simp [results, Tryz.results200, go_sem, z0, z1, z2, hz]) rfl ⟨_, rfl, (((knd_0 (w.heap.size + 1) w1 g b h2 h1 l2 l1).keep (by simp) (fun b hb _ => heap_set3 (by omega))).mono (by omega)), below_at (below_at (below_at (below_box hb) (Nat.le_refl _) 0 _) (Nat.le_refl _) 1 _) (Nat.le_refl _) 2 _⟩
theorem of_1 (w : World) : Calls Tryz.prog 200 #[.int .i64 1] w (KRet 1 w) := by
  go_enter Tryz.func200, Tryz.ntmps200
  go_wp2_with fail
  refine bodyPost_ret (v := .tuple #[.agg #[.func (.func 205) #[] #[], .slice (some ⟨w.heap.size + 1, 0, none⟩) 2 2, .func (.func 208) #[] #[]], .bool true]) (by simp [results, Tryz.results200, go_sem]) rfl ⟨_, rfl, Knd.mono (knd_1 (w.heap.size + 1) _ (w.heap.size + 1) ?_ (by omega)) (by omega), ?_⟩
  · first | exact blk_new (by simp) | (refine blk_alloc ?_; exact blk_new (by simp))
  · repeat (first | with_reducible exact Below.refl _ _ | with_reducible refine Below.alloc ?_ (by simp <;> omega) _)
theorem of_2 (w : World) : Calls Tryz.prog 200 #[.int .i64 2] w (KRet 2 w) := by
  go_enter Tryz.func200, Tryz.ntmps200
  go_wp2_with (first | ((go_at_call 210; refine (kd_load _ _ _ _).mono ?_); rintro e w1 ⟨b, g, rfl, h1, h2, l1, _, l2, _, hb⟩; have hb' := below_box hb; have ho := blk_below (blk_new (w := (w.alloc (.cells #[.nilFunc, .slice none 0 0, .nilFunc] 237))) (cs := #[.int .u8 139]) (t := 5) rfl) hb; obtain ⟨⟨z0, z1, z2⟩, ⟨f0, f1, f2⟩, hz⟩ := res_kind (hb'); simp only [World.size_alloc] at l1 l2) | ((go_at_call 209; refine (kd_sized _ _ _ _ _ _ _ _).mono ?_); rintro e w2 ⟨g2, rfl, k1, l3, _, hb2⟩; have hb3 := below_next hb' hb'.size hb2; obtain ⟨⟨z0, z1, z2⟩, ⟨f0, f1, f2⟩, hz⟩ := res_kind (hb3); have h1' := blk_below h1 hb2; have ho' := blk_below ho hb2; have hs1 := hb'.size; simp only [World.size_alloc] at hs1))
  exact bodyPost_ret (v := .tuple #[.agg #[.func (.func 235) #[] #[], .slice (some ⟨g2, 0, none⟩) 2 2, .func (.func 238) #[] #[.pointer (some ⟨b, 0, none⟩)]], .bool true]) (by simp [results, Tryz.results200, go_sem, z0, z1, z2, hz]) rfl ⟨_, rfl, (((knd_2 (w.heap.size + 1) w2 g2 b (w.heap.size + 1) k1 h1' (by simpa using ho') (by omega) (by omega) (by omega)).keep (by simp) (fun b hb _ => heap_set3 (by omega))).mono (by omega)), below_at (below_at (below_at (below_box hb3) (Nat.le_refl _) 0 _) (Nat.le_refl _) 1 _) (Nat.le_refl _) 2 _⟩
theorem of_3 (w : World) : Calls Tryz.prog 200 #[.int .i64 3] w (KRet 3 w) := by
  go_enter Tryz.func200, Tryz.ntmps200
  go_wp2_with (first | ((go_at_call 211; refine (kd_store _ _ _).mono ?_); rintro e w1 ⟨b, b2, g, rfl, h1, h2, h3, l1, _, l2, _, l3, _, hb⟩; obtain ⟨⟨z0, z1, z2⟩, ⟨f0, f1, f2⟩, hz⟩ := res_kind (hb); simp only [World.size_alloc] at l1 l2 l3) | ((go_at_call 209; refine (kd_sized _ _ _ _ _ _ _ _).mono ?_); rintro e w2 ⟨g2, rfl, k1, l4, _, hb2⟩; have hb3 := below_next hb hb.size hb2; obtain ⟨⟨z0, z1, z2⟩, ⟨f0, f1, f2⟩, hz⟩ := res_kind (hb3); have h1' := blk_below h1 hb2; have h2' := blk_below h2 hb2; have hs1 := hb.size; simp only [World.size_alloc] at hs1))
  exact bodyPost_ret (v := .tuple #[.agg #[.func (.func 240) #[] #[.pointer (some ⟨b2, 0, none⟩)], .slice (some ⟨g2, 0, none⟩) 2 2, .func (.func 241) #[] #[.pointer (some ⟨b, 0, none⟩)]], .bool true]) (by simp [results, Tryz.results200, go_sem, z0, z1, z2, hz]) rfl ⟨_, rfl, (((knd_3 (w.heap.size + 1) w2 g2 b b2 k1 h1' h2' (by omega) (by omega) (by omega)).keep (by simp) (fun b hb _ => heap_set3 (by omega))).mono (by omega)), below_at (below_at (below_at (below_box hb3) (Nat.le_refl _) 0 _) (Nat.le_refl _) 1 _) (Nat.le_refl _) 2 _⟩
theorem of_4 (w : World) : Calls Tryz.prog 200 #[.int .i64 4] w (KRet 4 w) := by
  go_enter Tryz.func200, Tryz.ntmps200
  go_wp2_with ((go_at_call 210; refine (kd_load _ _ _ _).mono ?_); rintro e w1 ⟨b, g, rfl, h1, h2, l1, _, l2, _, hb⟩; have hb' := below_box hb; have ho := blk_below (blk_new (w := (w.alloc (.cells #[.nilFunc, .slice none 0 0, .nilFunc] 237))) (cs := #[.int .u8 15, .int .u8 182]) (t := 5) rfl) hb; obtain ⟨⟨z0, z1, z2⟩, ⟨f0, f1, f2⟩, hz⟩ := res_kind (hb'); simp only [World.size_alloc] at l1 l2)
  exact bodyPost_ret (v := .tuple #[.agg #[.func (.func 235) #[] #[], .slice (some ⟨g, 0, none⟩) 1 1, .func (.func 238) #[] #[.pointer (some ⟨b, 0, none⟩)]], .bool true]) (by simp [results, Tryz.results200, go_sem, z0, z1, z2, hz]) rfl ⟨_, rfl, (((knd_4 (w.heap.size + 1) w1 g b (w.heap.size + 1) h2 h1 (by simpa using ho) (by omega) (by omega) (by omega)).keep (by simp) (fun b hb _ => heap_set3 (by omega))).mono (by omega)), below_at (below_at (below_at (below_box hb') (Nat.le_refl _) 0 _) (Nat.le_refl _) 1 _) (Nat.le_refl _) 2 _⟩
theorem of_5 (w : World) : Calls Tryz.prog 200 #[.int .i64 5] w (KRet 5 w) := by
  go_enter Tryz.func200, Tryz.ntmps200
  go_wp2_with ((go_at_call 210; refine (kd_load _ _ _ _).mono ?_); rintro e w1 ⟨b, g, rfl, h1, h2, l1, _, l2, _, hb⟩; have hb' := below_box hb; have ho := blk_below (blk_new (w := (w.alloc (.cells #[.nilFunc, .slice none 0 0, .nilFunc] 237))) (cs := #[.int .u8 15, .int .u8 183]) (t := 5) rfl) hb; obtain ⟨⟨z0, z1, z2⟩, ⟨f0, f1, f2⟩, hz⟩ := res_kind (hb'); simp only [World.size_alloc] at l1 l2)
  exact bodyPost_ret (v := .tuple #[.agg #[.func (.func 235) #[] #[], .slice (some ⟨g, 0, none⟩) 1 1, .func (.func 238) #[] #[.pointer (some ⟨b, 0, none⟩)]], .bool true]) (by simp [results, Tryz.results200, go_sem, z0, z1, z2, hz]) rfl ⟨_, rfl, (((knd_5 (w.heap.size + 1) w1 g b (w.heap.size + 1) h2 h1 (by simpa using ho) (by omega) (by omega) (by omega)).keep (by simp) (fun b hb _ => heap_set3 (by omega))).mono (by omega)), below_at (below_at (below_at (below_box hb') (Nat.le_refl _) 0 _) (Nat.le_refl _) 1 _) (Nat.le_refl _) 2 _⟩
theorem of_6 (w : World) : Calls Tryz.prog 200 #[.int .i64 6] w (KRet 6 w) := by
  go_enter Tryz.func200, Tryz.ntmps200
  go_wp2_with ((go_at_call 211; refine (kd_store _ _ _).mono ?_); rintro e w1 ⟨b, b2, g, rfl, h1, h2, h3, l1, _, l2, _, l3, _, hb⟩; obtain ⟨⟨z0, z1, z2⟩, ⟨f0, f1, f2⟩, hz⟩ := res_kind (hb); simp only [World.size_alloc] at l1 l2 l3)
  exact bodyPost_ret (v := .tuple #[.agg #[.func (.func 240) #[] #[.pointer (some ⟨b2, 0, none⟩)], .slice (some ⟨g, 0, none⟩) 1 1, .func (.func 241) #[] #[.pointer (some ⟨b, 0, none⟩)]], .bool true]) (by simp [results, Tryz.results200, go_sem, z0, z1, z2, hz]) rfl ⟨_, rfl, (((knd_6 (w.heap.size + 1) w1 g b b2 h3 h1 h2 (by omega) (by omega) (by omega)).keep (by simp) (fun b hb _ => heap_set3 (by omega))).mono (by omega)), below_at (below_at (below_at (below_box hb) (Nat.le_refl _) 0 _) (Nat.le_refl _) 1 _) (Nat.le_refl _) 2 _⟩
theorem of_pair (o : Int) (ho : o = 7 ∨ o = 8 ∨ o = 9 ∨ o = 10 ∨ o = 11 ∨ o = 12 ∨ o = 13) (w : World) : Calls Tryz.prog 201 #[.int .i64 o] w (KRet o w) := by
  rcases ho with rfl | rfl | rfl | rfl | rfl | rfl | rfl
  all_goals
    go_enter Tryz.func201, Tryz.ntmps201
    go_wp2_with ((go_at_call 204; refine (kd_pair _ _).mono ?_); rintro e w1 ⟨b, g, rfl, h1, h2, l1, _, l2, _, hb⟩; obtain ⟨⟨z0, z1, z2⟩, ⟨f0, f1, f2⟩, hz⟩ := res_kind (hb); simp only [World.size_alloc] at l1 l2)
    exact bodyPost_ret (v := .tuple #[.agg #[.func (.func 233) #[] #[], .slice (some ⟨g, 0, none⟩) 2 2, .func (.func 234) #[] #[.pointer (some ⟨b, 0, none⟩)]], .bool true]) (by simp [results, Tryz.results201, go_sem, z0, z1, z2, hz]) rfl ⟨_, rfl, (((knd_pair _ _ (by decide) (w.heap.size + 1) w1 g b h2 h1 l2 l1).keep (by simp) (fun b hb _ => heap_set3 (by omega))).mono (by omega)), below_at (below_at (below_at (below_box hb) (Nat.le_refl _) 0 _) (Nat.le_refl _) 1 _) (Nat.le_refl _) 2 _⟩
theorem of_alu (o : Int) (ho : o = 14 ∨ o = 15 ∨ o = 16 ∨ o = 17 ∨ o = 18 ∨ o = 19) (w : World) : Calls Tryz.prog 201 #[.int .i64 o] w (KRet o w) := by
  rcases ho with rfl | rfl | rfl | rfl | rfl | rfl
  all_goals
    go_enter Tryz.func201, Tryz.ntmps201
    go_wp2_with ((go_at_call 213; refine (kd_num _ _).mono ?_); rintro e w1 ⟨b, g, rfl, h1, h2, l1, _, l2, _, hb⟩; obtain ⟨⟨z0, z1, z2⟩, ⟨f0, f1, f2⟩, hz⟩ := res_kind (hb); simp only [World.size_alloc] at l1 l2)
    exact bodyPost_ret (v := .tuple #[.agg #[.func (.func 242) #[] #[], .slice (some ⟨g, 0, none⟩) 2 2, .func (.func 243) #[] #[.pointer (some ⟨b, 0, none⟩)]], .bool true]) (by simp [results, Tryz.results201, go_sem, z0, z1, z2, hz]) rfl ⟨_, rfl, (((knd_alu _ _ (by decide) (w.heap.size + 1) w1 g b h2 h1 l2 l1).keep (by simp) (fun b hb _ => heap_set3 (by omega))).mono (by omega)), below_at (below_at (below_at (below_box hb) (Nat.le_refl _) 0 _) (Nat.le_refl _) 1 _) (Nat.le_refl _) 2 _⟩
theorem of_20 (w : World) : Calls Tryz.prog 202 #[.int .i64 20] w (KRet 20 w) := by
  go_enter Tryz.func202, Tryz.ntmps202
  go_wp2_with fail
  refine bodyPost_ret (v := .tuple #[.agg #[.func (.func 214) #[] #[], .slice (some ⟨w.heap.size + 1, 0, none⟩) 1 1, .func (.func 215) #[] #[]], .bool true]) (by simp [results, Tryz.results202, go_sem]) rfl ⟨_, rfl, Knd.mono (knd_20 (w.heap.size + 1) _ (w.heap.size + 1) ?_ (by omega)) (by omega), ?_⟩
  · first | exact blk_new (by simp) | (refine blk_alloc ?_; exact blk_new (by simp))
  · repeat (first | with_reducible exact Below.refl _ _ | with_reducible refine Below.alloc ?_ (by simp <;> omega) _)
theorem of_sh (o : Int) (ho : o = 21 ∨ o = 22 ∨ o = 23) (w : World) : Calls Tryz.prog 202 #[.int .i64 o] w (KRet o w) := by
  rcases ho with rfl | rfl | rfl
  all_goals
    go_enter Tryz.func202, Tryz.ntmps202
    go_wp2_with ((go_at_call 217; refine (kd_single _ _ _ _ _ _).mono ?_); rintro e w1 ⟨b, b2, rfl, h1, h2, l1, _, l2, _, hb⟩; have hb' := below_box hb; have ho := blk_below (blk_new (w := (w.alloc (.cells #[.nilFunc, .slice none 0 0, .nilFunc] 237))) (cs := #[.int .i64 32, .int .i64 16]) (t := 3) rfl) hb; obtain ⟨⟨z0, z1, z2⟩, ⟨f0, f1, f2⟩, hz⟩ := res_kind (hb'); simp only [World.size_alloc] at l1 l2)
    exact bodyPost_ret (v := .tuple #[.agg #[.func (.func 245) #[] #[], .slice (some ⟨w.heap.size + 1, 0, none⟩) 2 2, .func (.func 246) #[] #[.pointer (some ⟨b, 0, none⟩), .pointer (some ⟨b2, 0, none⟩)]], .bool true]) (by simp [results, Tryz.results202, go_sem, z0, z1, z2, hz]) rfl ⟨_, rfl, (((knd_sh _ _ (by decide) (w.heap.size + 1) w1 (w.heap.size + 1) b b2 (by simpa using ho) h1 h2 (by omega) (by omega) (by omega)).keep (by simp) (fun b hb _ => heap_set3 (by omega))).mono (by omega)), below_at (below_at (below_at (below_box hb') (Nat.le_refl _) 0 _) (Nat.le_refl _) 1 _) (Nat.le_refl _) 2 _⟩
theorem of_nn (o : Int) (ho : o = 24 ∨ o = 25) (w : World) : Calls Tryz.prog 202 #[.int .i64 o] w (KRet o w) := by
  rcases ho with rfl | rfl
  all_goals
    go_enter Tryz.func202, Tryz.ntmps202
    go_wp2_with ((go_at_call 217; refine (kd_single _ _ _ _ _ _).mono ?_); rintro e w1 ⟨b, b2, rfl, h1, h2, l1, _, l2, _, hb⟩; have hb' := below_box hb; have ho := blk_below (blk_new (w := (w.alloc (.cells #[.nilFunc, .slice none 0 0, .nilFunc] 237))) (cs := #[.int .i64 32, .int .i64 16]) (t := 3) rfl) hb; obtain ⟨⟨z0, z1, z2⟩, ⟨f0, f1, f2⟩, hz⟩ := res_kind (hb'); simp only [World.size_alloc] at l1 l2)
    exact bodyPost_ret (v := .tuple #[.agg #[.func (.func 245) #[] #[], .slice (some ⟨w.heap.size + 1, 0, none⟩) 2 2, .func (.func 246) #[] #[.pointer (some ⟨b, 0, none⟩), .pointer (some ⟨b2, 0, none⟩)]], .bool true]) (by simp [results, Tryz.results202, go_sem, z0, z1, z2, hz]) rfl ⟨_, rfl, (((knd_nn _ _ (by decide) (w.heap.size + 1) w1 (w.heap.size + 1) b b2 (by simpa using ho) h1 h2 (by omega) (by omega) (by omega)).keep (by simp) (fun b hb _ => heap_set3 (by omega))).mono (by omega)), below_at (below_at (below_at (below_box hb') (Nat.le_refl _) 0 _) (Nat.le_refl _) 1 _) (Nat.le_refl _) 2 _⟩
theorem of_dv (o : Int) (ho : o = 26 ∨ o = 27) (w : World) : Calls Tryz.prog 202 #[.int .i64 o] w (KRet o w) := by
  rcases ho with rfl | rfl
  all_goals
    go_enter Tryz.func202, Tryz.ntmps202
    go_wp2_with ((go_at_call 217; refine (kd_single _ _ _ _ _ _).mono ?_); rintro e w1 ⟨b, b2, rfl, h1, h2, l1, _, l2, _, hb⟩; have hb' := below_box hb; have ho := blk_below (blk_new (w := (w.alloc (.cells #[.nilFunc, .slice none 0 0, .nilFunc] 237))) (cs := #[.int .i64 32]) (t := 3) rfl) hb; obtain ⟨⟨z0, z1, z2⟩, ⟨f0, f1, f2⟩, hz⟩ := res_kind (hb'); simp only [World.size_alloc] at l1 l2)
    exact bodyPost_ret (v := .tuple #[.agg #[.func (.func 245) #[] #[], .slice (some ⟨w.heap.size + 1, 0, none⟩) 1 1, .func (.func 246) #[] #[.pointer (some ⟨b, 0, none⟩), .pointer (some ⟨b2, 0, none⟩)]], .bool true]) (by simp [results, Tryz.results202, go_sem, z0, z1, z2, hz]) rfl ⟨_, rfl, (((knd_dv _ _ (by decide) (w.heap.size + 1) w1 (w.heap.size + 1) b b2 (by simpa using ho) h1 h2 (by omega) (by omega) (by omega)).keep (by simp) (fun b hb _ => heap_set3 (by omega))).mono (by omega)), below_at (below_at (below_at (below_box hb') (Nat.le_refl _) 0 _) (Nat.le_refl _) 1 _) (Nat.le_refl _) 2 _⟩
theorem of_28 (w : World) : Calls Tryz.prog 202 #[.int .i64 28] w (KRet 28 w) := by
  go_enter Tryz.func202, Tryz.ntmps202
  go_wp2_with ((go_at_call 218; refine (kd_bare _ _ _ _).mono ?_); rintro e w1 ⟨b, g, rfl, h1, h2, l1, _, l2, _, hb⟩; have hb' := below_box hb; have ho := blk_below (blk_new (w := (w.alloc (.cells #[.nilFunc, .slice none 0 0, .nilFunc] 237))) (cs := #[.int .u8 153]) (t := 5) rfl) hb; obtain ⟨⟨z0, z1, z2⟩, ⟨f0, f1, f2⟩, hz⟩ := res_kind (hb'); simp only [World.size_alloc] at l1 l2)
  exact bodyPost_ret (v := .tuple #[.agg #[.func (.func 247) #[] #[], .slice (some ⟨g, 0, none⟩) 1 1, .func (.func 248) #[] #[.pointer (some ⟨b, 0, none⟩)]], .bool true]) (by simp [results, Tryz.results202, go_sem, z0, z1, z2, hz]) rfl ⟨_, rfl, (((knd_28 (w.heap.size + 1) w1 g b (w.heap.size + 1) h2 h1 (by simpa using ho) (by omega) (by omega) (by omega)).keep (by simp) (fun b hb _ => heap_set3 (by omega))).mono (by omega)), below_at (below_at (below_at (below_box hb') (Nat.le_refl _) 0 _) (Nat.le_refl _) 1 _) (Nat.le_refl _) 2 _⟩
theorem of_29 (w : World) : Calls Tryz.prog 202 #[.int .i64 29] w (KRet 29 w) := by
  go_enter Tryz.func202, Tryz.ntmps202
  go_wp2_with fail
  refine bodyPost_ret (v := .tuple #[.agg #[.func (.func 219) #[] #[], .slice (some ⟨w.heap.size + 1, 0, none⟩) 1 1, .func (.func 221) #[] #[]], .bool true]) (by simp [results, Tryz.results202, go_sem]) rfl ⟨_, rfl, Knd.mono (knd_29 (w.heap.size + 1) _ (w.heap.size + 1) ?_ (by omega)) (by omega), ?_⟩
  · first | exact blk_new (by simp) | (refine blk_alloc ?_; exact blk_new (by simp))
  · repeat (first | with_reducible exact Below.refl _ _ | with_reducible refine Below.alloc ?_ (by simp <;> omega) _)
theorem of_30 (w : World) : Calls Tryz.prog 202 #[.int .i64 30] w (KRet 30 w) := by
  go_enter Tryz.func202, Tryz.ntmps202
  go_wp2_with fail
  refine bodyPost_ret (v := .tuple #[.agg #[.func (.func 222) #[] #[], .slice (some ⟨w.heap.size + 1, 0, none⟩) 1 1, .func (.func 223) #[] #[]], .bool true]) (by simp [results, Tryz.results202, go_sem]) rfl ⟨_, rfl, Knd.mono (knd_30 (w.heap.size + 1) _ (w.heap.size + 1) ?_ (by omega)) (by omega), ?_⟩
  · first | exact blk_new (by simp) | (refine blk_alloc ?_; exact blk_new (by simp))
  · repeat (first | with_reducible exact Below.refl _ _ | with_reducible refine Below.alloc ?_ (by simp <;> omega) _)
theorem of_31 (w : World) : Calls Tryz.prog 202 #[.int .i64 31] w (KRet 31 w) := by
  go_enter Tryz.func202, Tryz.ntmps202
  go_wp2_with fail
  refine bodyPost_ret (v := .tuple #[.agg #[.func (.func 224) #[] #[], .slice (some ⟨w.heap.size + 1, 0, none⟩) 1 1, .func (.func 225) #[] #[]], .bool true]) (by simp [results, Tryz.results202, go_sem]) rfl ⟨_, rfl, Knd.mono (knd_31 (w.heap.size + 1) _ (w.heap.size + 1) ?_ (by omega)) (by omega), ?_⟩
  · first | exact blk_new (by simp) | (refine blk_alloc ?_; exact blk_new (by simp))
  · repeat (first | with_reducible exact Below.refl _ _ | with_reducible refine Below.alloc ?_ (by simp <;> omega) _)
theorem of_32 (w : World) : Calls Tryz.prog 202 #[.int .i64 32] w (KRet 32 w) := by
  go_enter Tryz.func202, Tryz.ntmps202
  go_wp2_with ((go_at_call 226; refine (kd_jump _ _ _ _).mono ?_); rintro e w1 ⟨b1, b2, b3, g, rfl, h1, h2, h3, h4, l1, _, l2, _, l3, _, l4, _, hb⟩; obtain ⟨⟨z0, z1, z2⟩, ⟨f0, f1, f2⟩, hz⟩ := res_kind (hb); simp only [World.size_alloc] at l1 l2 l3 l4)
  exact bodyPost_ret (v := .tuple #[.agg #[.func (.func 249) #[] #[.pointer (some ⟨b3, 0, none⟩)], .slice (some ⟨g, 0, none⟩) 2 2, .func (.func 250) #[] #[.pointer (some ⟨b1, 0, none⟩), .pointer (some ⟨b2, 0, none⟩)]], .bool true]) (by simp [results, Tryz.results202, go_sem, z0, z1, z2, hz]) rfl ⟨_, rfl, (((knd_32 (w.heap.size + 1) w1 g b1 b2 b3 h4 h1 h2 h3 l4 l1 l2 l3).keep (by simp) (fun b hb _ => heap_set3 (by omega))).mono (by omega)), below_at (below_at (below_at (below_box hb) (Nat.le_refl _) 0 _) (Nat.le_refl _) 1 _) (Nat.le_refl _) 2 _⟩
theorem of_33 (w : World) : Calls Tryz.prog 202 #[.int .i64 33] w (KRet 33 w) := by
  go_enter Tryz.func202, Tryz.ntmps202
  go_wp2_with ((go_at_call 226; refine (kd_jump _ _ _ _).mono ?_); rintro e w1 ⟨b1, b2, b3, g, rfl, h1, h2, h3, h4, l1, _, l2, _, l3, _, l4, _, hb⟩; obtain ⟨⟨z0, z1, z2⟩, ⟨f0, f1, f2⟩, hz⟩ := res_kind (hb); simp only [World.size_alloc] at l1 l2 l3 l4)
  exact bodyPost_ret (v := .tuple #[.agg #[.func (.func 249) #[] #[.pointer (some ⟨b3, 0, none⟩)], .slice (some ⟨g, 0, none⟩) 2 2, .func (.func 250) #[] #[.pointer (some ⟨b1, 0, none⟩), .pointer (some ⟨b2, 0, none⟩)]], .bool true]) (by simp [results, Tryz.results202, go_sem, z0, z1, z2, hz]) rfl ⟨_, rfl, (((knd_33 (w.heap.size + 1) w1 g b1 b2 b3 h4 h1 h2 h3 l4 l1 l2 l3).keep (by simp) (fun b hb _ => heap_set3 (by omega))).mono (by omega)), below_at (below_at (below_at (below_box hb) (Nat.le_refl _) 0 _) (Nat.le_refl _) 1 _) (Nat.le_refl _) 2 _⟩
theorem of_34 (w : World) : Calls Tryz.prog 202 #[.int .i64 34] w (KRet 34 w) := by
  go_enter Tryz.func202, Tryz.ntmps202
  go_wp2_with ((go_at_call 218; refine (kd_bare _ _ _ _).mono ?_); rintro e w1 ⟨b, g, rfl, h1, h2, l1, _, l2, _, hb⟩; have hb' := below_box hb; have ho := blk_below (blk_new (w := (w.alloc (.cells #[.nilFunc, .slice none 0 0, .nilFunc] 237))) (cs := #[.int .u8 244]) (t := 5) rfl) hb; obtain ⟨⟨z0, z1, z2⟩, ⟨f0, f1, f2⟩, hz⟩ := res_kind (hb'); simp only [World.size_alloc] at l1 l2)
  exact bodyPost_ret (v := .tuple #[.agg #[.func (.func 247) #[] #[], .slice (some ⟨g, 0, none⟩) 1 1, .func (.func 248) #[] #[.pointer (some ⟨b, 0, none⟩)]], .bool true]) (by simp [results, Tryz.results202, go_sem, z0, z1, z2, hz]) rfl ⟨_, rfl, (((knd_34 (w.heap.size + 1) w1 g b (w.heap.size + 1) h2 h1 (by simpa using ho) (by omega) (by omega) (by omega)).keep (by simp) (fun b hb _ => heap_set3 (by omega))).mono (by omega)), below_at (below_at (below_at (below_box hb') (Nat.le_refl _) 0 _) (Nat.le_refl _) 1 _) (Nat.le_refl _) 2 _⟩
theorem of_35 (w : World) : Calls Tryz.prog 202 #[.int .i64 35] w (KRet 35 w) := by
  go_enter Tryz.func202, Tryz.ntmps202
  go_wp2_with ((go_at_call 218; refine (kd_bare _ _ _ _).mono ?_); rintro e w1 ⟨b, g, rfl, h1, h2, l1, _, l2, _, hb⟩; have hb' := below_box hb; have ho := blk_below (blk_new (w := (w.alloc (.cells #[.nilFunc, .slice none 0 0, .nilFunc] 237))) (cs := #[.int .u8 15, .int .u8 11]) (t := 5) rfl) hb; obtain ⟨⟨z0, z1, z2⟩, ⟨f0, f1, f2⟩, hz⟩ := res_kind (hb'); simp only [World.size_alloc] at l1 l2)
  exact bodyPost_ret (v := .tuple #[.agg #[.func (.func 247) #[] #[], .slice (some ⟨g, 0, none⟩) 1 1, .func (.func 248) #[] #[.pointer (some ⟨b, 0, none⟩)]], .bool true]) (by simp [results, Tryz.results202, go_sem, z0, z1, z2, hz]) rfl ⟨_, rfl, (((knd_35 (w.heap.size + 1) w1 g b (w.heap.size + 1) h2 h1 (by simpa using ho) (by omega) (by omega) (by omega)).keep (by simp) (fun b hb _ => heap_set3 (by omega))).mono (by omega)), below_at (below_at (below_at (below_box hb') (Nat.le_refl _) 0 _) (Nat.le_refl _) 1 _) (Nat.le_refl _) 2 _⟩
theorem of_36 (w : World) : Calls Tryz.prog 202 #[.int .i64 36] w (KRet 36 w) := by
  go_enter Tryz.func202, Tryz.ntmps202
  go_wp2_with ((go_at_call 218; refine (kd_bare _ _ _ _).mono ?_); rintro e w1 ⟨b, g, rfl, h1, h2, l1, _, l2, _, hb⟩; have hb' := below_box hb; have ho := blk_below (blk_new (w := (w.alloc (.cells #[.nilFunc, .slice none 0 0, .nilFunc] 237))) (cs := #[.int .u8 144]) (t := 5) rfl) hb; obtain ⟨⟨z0, z1, z2⟩, ⟨f0, f1, f2⟩, hz⟩ := res_kind (hb'); simp only [World.size_alloc] at l1 l2)
  exact bodyPost_ret (v := .tuple #[.agg #[.func (.func 247) #[] #[], .slice (some ⟨g, 0, none⟩) 1 1, .func (.func 248) #[] #[.pointer (some ⟨b, 0, none⟩)]], .bool true]) (by simp [results, Tryz.results202, go_sem, z0, z1, z2, hz]) rfl ⟨_, rfl, (((knd_36 (w.heap.size + 1) w1 g b (w.heap.size + 1) h2 h1 (by simpa using ho) (by omega) (by omega) (by omega)).keep (by simp) (fun b hb _ => heap_set3 (by omega))).mono (by omega)), below_at (below_at (below_at (below_box hb') (Nat.le_refl _) 0 _) (Nat.le_refl _) 1 _) (Nat.le_refl _) 2 _⟩
theorem moving_any (o : Int) (w : World) (h0 : 0 ≤ o) (h1 : o ≤ 6) : Calls Tryz.prog 200 #[.int .i64 o] w (KRet o w) := by
  rcases (show o = 0 ∨ o = 1 ∨ o = 2 ∨ o = 3 ∨ o = 4 ∨ o = 5 ∨ o = 6 by omega) with rfl | rfl | rfl | rfl | rfl | rfl | rfl
  · exact of_0 w
  · exact of_1 w
  · exact of_2 w
  · exact of_3 w
  · exact of_4 w
  · exact of_5 w
  · exact of_6 w
theorem counting_any (o : Int) (w : World) (h0 : 7 ≤ o) (h1 : o ≤ 19) : Calls Tryz.prog 201 #[.int .i64 o] w (KRet o w) := by
  rcases (show o = 7 ∨ o = 8 ∨ o = 9 ∨ o = 10 ∨ o = 11 ∨ o = 12 ∨ o = 13 ∨ o = 14 ∨ o = 15 ∨ o = 16 ∨ o = 17 ∨ o = 18 ∨ o = 19 by omega) with rfl | rfl | rfl | rfl | rfl | rfl | rfl | rfl | rfl | rfl | rfl | rfl | rfl
  · exact of_pair _ (by decide) w
  · exact of_pair _ (by decide) w
  · exact of_pair _ (by decide) w
  · exact of_pair _ (by decide) w
  · exact of_pair _ (by decide) w
  · exact of_pair _ (by decide) w
  · exact of_pair _ (by decide) w
  · exact of_alu _ (by decide) w
  · exact of_alu _ (by decide) w
  · exact of_alu _ (by decide) w
  · exact of_alu _ (by decide) w
  · exact of_alu _ (by decide) w
  · exact of_alu _ (by decide) w
theorem other_any (o : Int) (w : World) (h0 : 20 ≤ o) (h1 : o ≤ 36) : Calls Tryz.prog 202 #[.int .i64 o] w (KRet o w) := by
  rcases (show o = 20 ∨ o = 21 ∨ o = 22 ∨ o = 23 ∨ o = 24 ∨ o = 25 ∨ o = 26 ∨ o = 27 ∨ o = 28 ∨ o = 29 ∨ o = 30 ∨ o = 31 ∨ o = 32 ∨ o = 33 ∨ o = 34 ∨ o = 35 ∨ o = 36 by omega) with rfl | rfl | rfl | rfl | rfl | rfl | rfl | rfl | rfl | rfl | rfl | rfl | rfl | rfl | rfl | rfl | rfl
  · exact of_20 w
  · exact of_sh _ (by decide) w
  · exact of_sh _ (by decide) w
  · exact of_sh _ (by decide) w
  · exact of_nn _ (by decide) w
  · exact of_nn _ (by decide) w
  · exact of_dv _ (by decide) w
  · exact of_dv _ (by decide) w
  · exact of_28 w
  · exact of_29 w
  · exact of_30 w
  · exact of_31 w
  · exact of_32 w
  · exact of_33 w
  · exact of_34 w
  · exact of_35 w
  · exact of_36 w
def KNone (w : World) (e : Ending) (w' : World) : Prop := e = .returned (.tuple #[.agg #[.nilFunc, .slice none 0 0, .nilFunc], .bool false]) ∧ Below w.heap.size w w'
theorem other_bad (o : Int) (w : World) (h : o < 20 ∨ 36 < o) : Calls Tryz.prog 202 #[.int .i64 o] w (KNone w) := by
  have z20 : (o == 20) = false := by simp; omega
  have z21 : (o == 21) = false := by simp; omega
  have z22 : (o == 22) = false := by simp; omega
  have z23 : (o == 23) = false := by simp; omega
  have z24 : (o == 24) = false := by simp; omega
  have z25 : (o == 25) = false := by simp; omega
  have z26 : (o == 26) = false := by simp; omega
  have z27 : (o == 27) = false := by simp; omega
  have z28 : (o == 28) = false := by simp; omega
  have z29 : (o == 29) = false := by simp; omega
  have z30 : (o == 30) = false := by simp; omega
  have z31 : (o == 31) = false := by simp; omega
  have z32 : (o == 32) = false := by simp; omega
  have z33 : (o == 33) = false := by simp; omega
  have z34 : (o == 34) = false := by simp; omega
  have z35 : (o == 35) = false := by simp; omega
  have z36 : (o == 36) = false := by simp; omega
  clear h
  go_enter Tryz.func202, Tryz.ntmps202
  go_wp2_with fail
  exact bodyPost_ret (v := .tuple #[.agg #[.nilFunc, .slice none 0 0, .nilFunc], .bool false]) (by simp [results, Tryz.results202, go_sem]) rfl ⟨rfl, (Below.refl _ _).alloc (Nat.le_refl _) _⟩
theorem kindOf_bad (o : Int) (w : World) (h : o < 0 ∨ 36 < o) : Calls Tryz.prog 184 #[.int .i64 o] w (KNone w) := by
  rcases h with h | h
  · have d0 : decide (0 ≤ o) = false := decide_eq_false (by omega)
    have d1 : decide (7 ≤ o) = false := decide_eq_false (by omega)
    go_enter Tryz.func184, Tryz.ntmps184
    go_wp2_with ((go_at_call 202; refine (other_bad _ _ (by omega)).mono ?_); rintro e w1 ⟨rfl, hb⟩; obtain ⟨⟨z0, z1, z2⟩, ⟨f0, f1, f2⟩, hz⟩ := res_kind hb)
    exact bodyPost_ret (v := .tuple #[.agg #[.nilFunc, .slice none 0 0, .nilFunc], .bool false]) (by simp [results, Tryz.results184, go_sem, z0, z1, z2, hz]) rfl ⟨rfl, below_at (below_at (below_at (below_box hb) (Nat.le_refl _) 0 _) (Nat.le_refl _) 1 _) (Nat.le_refl _) 2 _⟩
  · have d0 : decide (0 ≤ o) = true := decide_eq_true (by omega)
    have d2 : decide (o ≤ 6) = false := decide_eq_false (by omega)
    have d1 : decide (7 ≤ o) = true := decide_eq_true (by omega)
    have d3 : decide (o ≤ 19) = false := decide_eq_false (by omega)
    go_enter Tryz.func184, Tryz.ntmps184
    go_wp2_with ((go_at_call 202; refine (other_bad _ _ (by omega)).mono ?_); rintro e w1 ⟨rfl, hb⟩; obtain ⟨⟨z0, z1, z2⟩, ⟨f0, f1, f2⟩, hz⟩ := res_kind hb)
    exact bodyPost_ret (v := .tuple #[.agg #[.nilFunc, .slice none 0 0, .nilFunc], .bool false]) (by simp [results, Tryz.results184, go_sem, z0, z1, z2, hz]) rfl ⟨rfl, below_at (below_at (below_at (below_box hb) (Nat.le_refl _) 0 _) (Nat.le_refl _) 1 _) (Nat.le_refl _) 2 _⟩
theorem Knd.shape {base : Nat} {w : World} {k : Value} {o : Int} (h : Knd base w k o) : ∃ (FF WW : FuncId) (cF cW : Array Value) (g : Nat), k = .agg #[.func (.func FF) #[] cF, .slice (some ⟨g, 0, none⟩) (szI o).length (szI o).length, .func (.func WW) #[] cW] := by
  obtain ⟨F, W, cF, cW, g, T, h1, _⟩ := h
  exact ⟨F, W, cF, cW, g, h1⟩
theorem kindOf_any (o : Int) (w : World) (h0 : 0 ≤ o) (h1 : o ≤ 36) : Calls Tryz.prog 184 #[.int .i64 o] w (KRet o w) := by
  have d0 : decide (0 ≤ o) = true := decide_eq_true (by omega)
  by_cases c6 : o ≤ 6
  · have d2 : decide (o ≤ 6) = true := decide_eq_true (by omega)
    go_enter Tryz.func184, Tryz.ntmps184
    go_wp2_with ((go_at_call 200; refine (moving_any _ _ (by omega) (by omega)).mono ?_); rintro e w1 ⟨k, rfl, hk, hb⟩; have HK := Lib.hid hk; obtain ⟨F, W, cF, cW, g, rfl⟩ := hk.shape; clear hk; obtain ⟨⟨z0, z1, z2⟩, ⟨f0, f1, f2⟩, hz⟩ := res_kind hb)
    exact bodyPost_ret (v := .tuple #[.agg #[.func (.func F) #[] cF, .slice (some ⟨g, 0, none⟩) (szI o).length (szI o).length, .func (.func W) #[] cW], .bool true]) (by simp [results, Tryz.results184, go_sem, z0, z1, z2, hz]) rfl
      ⟨_, rfl, ((HK.out.keep (by simp) (fun b hb _ => heap_set3 (by rw [World.size_alloc] at hb; omega))).mono (by rw [World.size_alloc]; omega)), below_at (below_at (below_at (below_box hb) (Nat.le_refl _) 0 _) (Nat.le_refl _) 1 _) (Nat.le_refl _) 2 _⟩
  · have d2 : decide (o ≤ 6) = false := decide_eq_false (by omega)
    have d1 : decide (7 ≤ o) = true := decide_eq_true (by omega)
    by_cases c19 : o ≤ 19
    · have d3 : decide (o ≤ 19) = true := decide_eq_true (by omega)
      go_enter Tryz.func184, Tryz.ntmps184
      go_wp2_with ((go_at_call 201; refine (counting_any _ _ (by omega) (by omega)).mono ?_); rintro e w1 ⟨k, rfl, hk, hb⟩; have HK := Lib.hid hk; obtain ⟨F, W, cF, cW, g, rfl⟩ := hk.shape; clear hk; obtain ⟨⟨z0, z1, z2⟩, ⟨f0, f1, f2⟩, hz⟩ := res_kind hb)
      exact bodyPost_ret (v := .tuple #[.agg #[.func (.func F) #[] cF, .slice (some ⟨g, 0, none⟩) (szI o).length (szI o).length, .func (.func W) #[] cW], .bool true]) (by simp [results, Tryz.results184, go_sem, z0, z1, z2, hz]) rfl
        ⟨_, rfl, ((HK.out.keep (by simp) (fun b hb _ => heap_set3 (by rw [World.size_alloc] at hb; omega))).mono (by rw [World.size_alloc]; omega)), below_at (below_at (below_at (below_box hb) (Nat.le_refl _) 0 _) (Nat.le_refl _) 1 _) (Nat.le_refl _) 2 _⟩
    · have d3 : decide (o ≤ 19) = false := decide_eq_false (by omega)
      go_enter Tryz.func184, Tryz.ntmps184
      go_wp2_with ((go_at_call 202; refine (other_any _ _ (by omega) (by omega)).mono ?_); rintro e w1 ⟨k, rfl, hk, hb⟩; have HK := Lib.hid hk; obtain ⟨F, W, cF, cW, g, rfl⟩ := hk.shape; clear hk; obtain ⟨⟨z0, z1, z2⟩, ⟨f0, f1, f2⟩, hz⟩ := res_kind hb)
      exact bodyPost_ret (v := .tuple #[.agg #[.func (.func F) #[] cF, .slice (some ⟨g, 0, none⟩) (szI o).length (szI o).length, .func (.func W) #[] cW], .bool true]) (by simp [results, Tryz.results184, go_sem, z0, z1, z2, hz]) rfl
        ⟨_, rfl, ((HK.out.keep (by simp) (fun b hb _ => heap_set3 (by rw [World.size_alloc] at hb; omega))).mono (by rw [World.size_alloc]; omega)), below_at (below_at (below_at (below_box hb) (Nat.le_refl _) 0 _) (Nat.le_refl _) 1 _) (Nat.le_refl _) 2 _⟩
def IdxOk (r z : Int) (l : List Int) : Prop := decide (0 ≤ r) = l.contains z
theorem index_int (l : List Int) (v : Value) (z : Int) (w : World) (hv : Ints .i64 w v l) : Calls Tryz.prog 203 #[v, .int .i64 z] w fun e w' => ∃ r : Int, e = .returned (.int .i64 r) ∧ IdxOk r z l ∧ w = w' := by
  have HV := Lib.hid hv
  obtain ⟨a, c, rfl, h1, h2⟩ := hv.shape
  clear hv
  go_enter Tryz.func203, Tryz.ntmps203
  go_wp2_with fail
  go_loop [8] (fun i => ∃ j : Nat, j ≤ l.length ∧ i = .int .i64 j ∧ Hid (¬ z ∈ l.take j)) (fun i => l.length - (intOf i).toNat)
  case atStart => exact ⟨0, Nat.zero_le _, rfl, by simp [Hid]⟩
  case round =>
    obtain ⟨j, hj, rfl, hno⟩ := hrel
    by_cases hlt : j < l.length
    · obtain ⟨b, q, c2, e', _, hbl, hc⟩ := HV.out.at hlt
      cases e'
      have i0 : (0 : Int) ≤ (j : Int) := by omega
      have i1 : (j : Int) < l.length := by omega
      have HG : Hid (l.getD j 0 = l[j]) := by show _ = _; rw [List.getD_eq_getElem?_getD, List.getElem?_eq_getElem hlt]; rfl
      have HT : Hid (l.take (j + 1) = l.take j ++ [l[j]]) := List.take_succ_eq_append_getElem hlt
      rw [HG.out] at hc
      have HM : Hid (l[j] ∈ l) := List.getElem_mem hlt
      generalize l[j] = y at *
      cases hz : (z == y)
      · have HZ : Hid (z ≠ y) := by show z ≠ y; simpa using hz
        go_wp2_with fail
        go_round
        case rel => exact ⟨j + 1, by omega, by go_num, by show ¬ _; rw [HT.out, List.mem_append]; rintro (h | h); exact hno.out h; exact HZ.out (by simpa using h)⟩
        case measure => simp [intOf]; omega
      · have HZ : Hid (z = y) := by show z = y; simpa using hz
        go_wp2_with fail
        go_ret
        exact ⟨_, rfl, by unfold IdxOk; rw [HZ.out]; simp [HM.out], rfl⟩
    · obtain rfl : j = l.length := by omega
      go_wp2_with fail
      go_ret
      refine ⟨_, rfl, ?_, rfl⟩
      have := hno.out
      rw [List.take_length] at this
      unfold IdxOk
      simp [this]
theorem contains_int (l : List Int) (v : Value) (z : Int) (w : World) (hv : Ints .i64 w v l) : Calls Tryz.prog 185 #[v, .int .i64 z] w fun e w' => e = .returned (.bool (l.contains z)) ∧ w = w' := by
  have HV := Lib.hid hv
  obtain ⟨a, c, rfl, h1, h2⟩ := hv.shape
  clear hv
  go_enter Tryz.func185, Tryz.ntmps185
  go_wp2_with ((go_at_call 203; refine (index_int l _ z _ HV.out).mono ?_); rintro e w1 ⟨r, rfl, hr, rfl⟩)
  go_ret
  exact ⟨ret_b hr, rfl⟩
theorem Knd.use {base : Nat} {w : World} {o : Int} {FF WW : FuncId} {cF cW : Array Value} {g n m : Nat} (h : Knd base w (.agg #[.func (.func FF) #[] cF, .slice (some ⟨g, 0, none⟩) n m, .func (.func WW) #[] cW]) o) :
    (∀ (args : Array Value) (w : World), (callFunc FF args).run Tryz.prog w = .ok (.enter FF args) w) ∧ (∀ (args : Array Value) (w : World), (callFunc WW args).run Tryz.prog w = .ok (.enter WW args) w) ∧ ∀ wk, Since w wk →
      Ints .i64 wk (.slice (some ⟨g, 0, none⟩) n m) (szI o) ∧
      (∀ x : Ins, x.o = o → x.z ∈ szI o → Calls Tryz.prog FF (#[InsV x] ++ cF) wk fun e w' => e = .returned (.bool (fitI x)) ∧ Below wk.heap.size wk w') ∧
      (∀ x : Ins, x.o = o → okI x = true → Calls Tryz.prog WW (#[InsV x] ++ cW) wk fun e w' => ∃ v, e = .returned v ∧ RowI w' wk.heap.size 5 .u8 v (bodyI x) ∧ Below wk.heap.size wk w') := by
  obtain ⟨F, W, cF', cW', g', T, h1, h2, h3, h4, h5⟩ := h
  simp only [Value.agg.injEq, Array.mk.injEq, List.cons.injEq, Value.func.injEq, Fn.func.injEq, Value.slice.injEq, Option.some.injEq, Addr.mk.injEq, and_true, true_and] at h1
  obtain ⟨⟨rfl, rfl⟩, ⟨rfl, rfl, rfl⟩, rfl, rfl⟩ := h1
  exact ⟨h2, h3, fun wk hs => h5 wk hs.size fun b hb => hs.block b (h4 b hb).2⟩
def vaI (x : Ins) : Int := if okI x = true then 0 else 1
theorem va_z (o d s z i : Int) (w : World) (o0 : 0 ≤ o) (o1 : o ≤ 36) (hz : (szI o).contains z = false) : Calls Tryz.prog 141 #[.agg #[.int .i64 o, .int .i64 d, .int .i64 s, .int .i64 z, .int .i64 i]] w fun e w' => e = .returned (.int .i64 1) ∧ Below w.heap.size w w' := by
  have C0 := Lib.hid (fun w => kindOf_any o w o0 o1)
  have C1 : Hid (∀ (w : World) (v : Value), Ints .i64 w v (szI o) → Calls Tryz.prog 185 #[v, .int .i64 z] w fun e w' => e = .returned (.bool false) ∧ w = w') := fun w v h => by have h1 := contains_int (szI o) v z w h; rw [hz] at h1; exact h1
  clear o0 o1 hz
  go_enter Tryz.func141, Tryz.ntmps141
  go_wp2_with (first | ((go_at_call 184; refine (C0.out _).mono ?_); rintro e w1 ⟨k, rfl, hk, hb⟩; obtain ⟨F, W, cF, cW, g, rfl⟩ := hk.shape; obtain ⟨eF, eW, hu⟩ := hk.use; clear hk; have HU := Lib.hid (hu _ (show Since w1 (w1.alloc (.cells #[.func (.func F) #[] cF, .slice (some ⟨g, 0, none⟩) (szI o).length (szI o).length, .func (.func W) #[] cW] 237)) from (Below.refl _ _).alloc (Nat.le_refl _) _)); clear hu; have HB := Lib.hid hb; have x0 : w1.cell? ⟨w.heap.size, 0, none⟩ = some (.int .i64 o) := box_kept hb 0; have x1 : w1.cell? ⟨w.heap.size, 1, none⟩ = some (.int .i64 d) := box_kept hb 1; have x2 : w1.cell? ⟨w.heap.size, 2, none⟩ = some (.int .i64 s) := box_kept hb 2; have x3 : w1.cell? ⟨w.heap.size, 3, none⟩ = some (.int .i64 z) := box_kept hb 3; have x4 : w1.cell? ⟨w.heap.size, 4, none⟩ = some (.int .i64 i) := box_kept hb 4; have hlt : w.heap.size < w1.heap.size := (by have := hb.size; simp at this; omega); clear hb) | ((go_at_call 185; refine (C1.out _ _ HU.out.1).mono ?_); rintro e w2 ⟨rfl, rfl⟩))
  go_ret
  exact ⟨rfl, below_hop (below_box HB.out) ((Below.refl _ _).alloc (Nat.le_refl _) _)⟩
theorem va_f (o d s z i : Int) (w : World) (o0 : 0 ≤ o) (o1 : o ≤ 36) (hz : (szI o).contains z = true) (hf : fitI ⟨o, d, s, z, i⟩ = false) : Calls Tryz.prog 141 #[.agg #[.int .i64 o, .int .i64 d, .int .i64 s, .int .i64 z, .int .i64 i]] w fun e w' => e = .returned (.int .i64 1) ∧ Below w.heap.size w w' := by
  have C0 := Lib.hid (fun w => kindOf_any o w o0 o1)
  have C1 : Hid (∀ (w : World) (v : Value), Ints .i64 w v (szI o) → Calls Tryz.prog 185 #[v, .int .i64 z] w fun e w' => e = .returned (.bool true) ∧ w = w') := fun w v h => by have h1 := contains_int (szI o) v z w h; rw [hz] at h1; exact h1
  have C2 : Hid (∀ (w : World) (G : FuncId) (cs : Array Value), (∀ x : Ins, x.o = o → x.z ∈ szI o → Calls Tryz.prog G (#[InsV x] ++ cs) w fun e w' => e = .returned (.bool (fitI x)) ∧ Below w.heap.size w w') → Calls Tryz.prog G (#[.agg #[.int .i64 o, .int .i64 d, .int .i64 s, .int .i64 z, .int .i64 i]] ++ cs) w fun e w' => e = .returned (.bool false) ∧ Below w.heap.size w w') := fun w G cs h => by
    have h1 := h ⟨o, d, s, z, i⟩ rfl (by simpa using hz)
    rw [hf] at h1
    exact h1
  clear o0 o1 hz hf
  go_enter Tryz.func141, Tryz.ntmps141
  go_wp2_with (first | ((go_at_call 184; refine (C0.out _).mono ?_); rintro e w1 ⟨k, rfl, hk, hb⟩; obtain ⟨F, W, cF, cW, g, rfl⟩ := hk.shape; obtain ⟨eF, eW, hu⟩ := hk.use; clear hk; have HU := Lib.hid (hu _ (show Since w1 (w1.alloc (.cells #[.func (.func F) #[] cF, .slice (some ⟨g, 0, none⟩) (szI o).length (szI o).length, .func (.func W) #[] cW] 237)) from (Below.refl _ _).alloc (Nat.le_refl _) _)); clear hu; have HB := Lib.hid hb; have x0 : w1.cell? ⟨w.heap.size, 0, none⟩ = some (.int .i64 o) := box_kept hb 0; have x1 : w1.cell? ⟨w.heap.size, 1, none⟩ = some (.int .i64 d) := box_kept hb 1; have x2 : w1.cell? ⟨w.heap.size, 2, none⟩ = some (.int .i64 s) := box_kept hb 2; have x3 : w1.cell? ⟨w.heap.size, 3, none⟩ = some (.int .i64 z) := box_kept hb 3; have x4 : w1.cell? ⟨w.heap.size, 4, none⟩ = some (.int .i64 i) := box_kept hb 4; have hlt : w.heap.size < w1.heap.size := (by have := hb.size; simp at this; omega); clear hb) | ((go_at_call 185; refine (C1.out _ _ HU.out.1).mono ?_); rintro e w2 ⟨rfl, rfl⟩) | (with_reducible refine (C2.out _ _ _ HU.out.2.1).mono ?_; rintro e w3 ⟨rfl, hb3⟩))
  go_ret
  exact ⟨rfl, below_hop (below_hop (below_box HB.out) ((Below.refl _ _).alloc (Nat.le_refl _) _)) hb3⟩
theorem va_t (o d s z i : Int) (w : World) (o0 : 0 ≤ o) (o1 : o ≤ 36) (hz : (szI o).contains z = true) (hf : fitI ⟨o, d, s, z, i⟩ = true) : Calls Tryz.prog 141 #[.agg #[.int .i64 o, .int .i64 d, .int .i64 s, .int .i64 z, .int .i64 i]] w fun e w' => e = .returned (.int .i64 0) ∧ Below w.heap.size w w' := by
  have C0 := Lib.hid (fun w => kindOf_any o w o0 o1)
  have C1 : Hid (∀ (w : World) (v : Value), Ints .i64 w v (szI o) → Calls Tryz.prog 185 #[v, .int .i64 z] w fun e w' => e = .returned (.bool true) ∧ w = w') := fun w v h => by have h1 := contains_int (szI o) v z w h; rw [hz] at h1; exact h1
  have C2 : Hid (∀ (w : World) (G : FuncId) (cs : Array Value), (∀ x : Ins, x.o = o → x.z ∈ szI o → Calls Tryz.prog G (#[InsV x] ++ cs) w fun e w' => e = .returned (.bool (fitI x)) ∧ Below w.heap.size w w') → Calls Tryz.prog G (#[.agg #[.int .i64 o, .int .i64 d, .int .i64 s, .int .i64 z, .int .i64 i]] ++ cs) w fun e w' => e = .returned (.bool true) ∧ Below w.heap.size w w') := fun w G cs h => by
    have h1 := h ⟨o, d, s, z, i⟩ rfl (by simpa using hz)
    rw [hf] at h1
    exact h1
  clear o0 o1 hz hf
  go_enter Tryz.func141, Tryz.ntmps141
  go_wp2_with (first | ((go_at_call 184; refine (C0.out _).mono ?_); rintro e w1 ⟨k, rfl, hk, hb⟩; obtain ⟨F, W, cF, cW, g, rfl⟩ := hk.shape; obtain ⟨eF, eW, hu⟩ := hk.use; clear hk; have HU := Lib.hid (hu _ (show Since w1 (w1.alloc (.cells #[.func (.func F) #[] cF, .slice (some ⟨g, 0, none⟩) (szI o).length (szI o).length, .func (.func W) #[] cW] 237)) from (Below.refl _ _).alloc (Nat.le_refl _) _)); clear hu; have HB := Lib.hid hb; have x0 : w1.cell? ⟨w.heap.size, 0, none⟩ = some (.int .i64 o) := box_kept hb 0; have x1 : w1.cell? ⟨w.heap.size, 1, none⟩ = some (.int .i64 d) := box_kept hb 1; have x2 : w1.cell? ⟨w.heap.size, 2, none⟩ = some (.int .i64 s) := box_kept hb 2; have x3 : w1.cell? ⟨w.heap.size, 3, none⟩ = some (.int .i64 z) := box_kept hb 3; have x4 : w1.cell? ⟨w.heap.size, 4, none⟩ = some (.int .i64 i) := box_kept hb 4; have hlt : w.heap.size < w1.heap.size := (by have := hb.size; simp at this; omega); clear hb) | ((go_at_call 185; refine (C1.out _ _ HU.out.1).mono ?_); rintro e w2 ⟨rfl, rfl⟩) | (with_reducible refine (C2.out _ _ _ HU.out.2.1).mono ?_; rintro e w3 ⟨rfl, hb3⟩))
  go_ret
  exact ⟨rfl, below_hop (below_hop (below_box HB.out) ((Below.refl _ _).alloc (Nat.le_refl _) _)) hb3⟩
theorem va_o (o d s z i : Int) (w : World) (ho : o < 0 ∨ 36 < o) : Calls Tryz.prog 141 #[.agg #[.int .i64 o, .int .i64 d, .int .i64 s, .int .i64 z, .int .i64 i]] w fun e w' => e = .returned (.int .i64 1) ∧ Below w.heap.size w w' := by
  have C0 := Lib.hid (fun w => kindOf_bad o w ho)
  clear ho
  go_enter Tryz.func141, Tryz.ntmps141
  go_wp2_with ((go_at_call 184; refine (C0.out _).mono ?_); rintro e w1 ⟨rfl, hb⟩)
  go_ret
  exact ⟨rfl, below_hop (below_box hb) ((Below.refl _ _).alloc (Nat.le_refl _) _)⟩
theorem validate_any (x : Ins) (w : World) : Calls Tryz.prog 141 #[InsV x] w fun e w' => e = .returned (.int .i64 (vaI x)) ∧ Below w.heap.size w w' := by
  obtain ⟨o, d, s, z, i⟩ := x
  by_cases ho : 0 ≤ o ∧ o ≤ 36
  · cases hz : (szI o).contains z
    · have e : vaI ⟨o, d, s, z, i⟩ = 1 := by unfold vaI okI; rw [hz]; rfl
      rw [e]
      exact va_z o d s z i w ho.1 ho.2 hz
    · cases hf : fitI ⟨o, d, s, z, i⟩
      · have e : vaI ⟨o, d, s, z, i⟩ = 1 := by unfold vaI okI; rw [hz, hf]; rfl
        rw [e]
        exact va_f o d s z i w ho.1 ho.2 hz hf
      · have e : vaI ⟨o, d, s, z, i⟩ = 0 := by unfold vaI okI; rw [hz, hf]; rfl
        rw [e]
        exact va_t o d s z i w ho.1 ho.2 hz hf
  · have e : vaI ⟨o, d, s, z, i⟩ = 1 := by
      unfold vaI
      rw [if_neg fun h => ho (ok_op h)]
    rw [e]
    exact va_o o d s z i w (by omega)
theorem body_len {x : Ins} (h : okI x = true) : 0 < (bodyI x).length ∧ (bodyI x).length ≤ 8 := by
  obtain ⟨o, d, s, z, i⟩ := x
  have hz := ok_sz h
  have ho := ok_op h
  simp only at ho hz
  have hz3 : z = 8 ∨ z = 16 ∨ z = 32 := by
    unfold szI at hz
    repeat (first | (split at hz; · simp at hz; omega) | (simp at hz; done))
  rcases (show o = 0 ∨ o = 1 ∨ o = 2 ∨ o = 3 ∨ o = 4 ∨ o = 5 ∨ o = 6 ∨ o = 7 ∨ o = 8 ∨ o = 9 ∨ o = 10 ∨ o = 11 ∨ o = 12 ∨ o = 13 ∨ o = 14 ∨ o = 15 ∨ o = 16 ∨ o = 17 ∨ o = 18 ∨ o = 19 ∨ o = 20 ∨ o = 21 ∨ o = 22 ∨ o = 23 ∨ o = 24 ∨ o = 25 ∨ o = 26 ∨ o = 27 ∨ o = 28 ∨ o = 29 ∨ o = 30 ∨ o = 31 ∨ o = 32 ∨ o = 33 ∨ o = 34 ∨ o = 35 ∨ o = 36 by omega) with rfl | rfl | rfl | rfl | rfl | rfl | rfl | rfl | rfl | rfl | rfl | rfl | rfl | rfl | rfl | rfl | rfl | rfl | rfl | rfl | rfl | rfl | rfl | rfl | rfl | rfl | rfl | rfl | rfl | rfl | rfl | rfl | rfl | rfl | rfl | rfl | rfl
  all_goals rcases hz3 with rfl | rfl | rfl
  all_goals first | (simp [bodyI, mmB, leB_length]; done) | (unfold bodyI; simp [mmB, leB_length]; split <;> simp [leB_length])
theorem by_n (o d s z i : Int) (w : World) (hok : okI ⟨o, d, s, z, i⟩ = true) (hz : (z == 16) = false) : Calls Tryz.prog 143 #[.agg #[.int .i64 o, .int .i64 d, .int .i64 s, .int .i64 z, .int .i64 i]] w fun e w' => ∃ v, e = .returned v ∧ RowI w' w.heap.size 5 .u8 v (bodyI ⟨o, d, s, z, i⟩) ∧ Below w.heap.size w w' := by
  obtain ⟨i0, hi0, hz0, hz1, hz2⟩ := info_parts info_u8
  obtain ⟨o0, o1⟩ := ok_op hok
  have C0 := Lib.hid (fun w => kindOf_any o w o0 o1)
  have hlen := body_len hok
  have C2 : Hid (∀ (w : World) (G : FuncId) (cs : Array Value), (∀ x : Ins, x.o = o → okI x = true → Calls Tryz.prog G (#[InsV x] ++ cs) w fun e w' => ∃ v, e = .returned v ∧ RowI w' w.heap.size 5 .u8 v (bodyI x) ∧ Below w.heap.size w w') → Calls Tryz.prog G (#[.agg #[.int .i64 o, .int .i64 d, .int .i64 s, .int .i64 z, .int .i64 i]] ++ cs) w fun e w' => ∃ v, e = .returned v ∧ RowI w' w.heap.size 5 .u8 v (bodyI ⟨o, d, s, z, i⟩) ∧ Below w.heap.size w w') := fun w G cs h => h ⟨o, d, s, z, i⟩ rfl hok
  generalize bodyI ⟨o, d, s, z, i⟩ = ys at *
  have HPOS : Hid (0 < ys.length) := hlen.1
  have HLEN : Hid (([(102 : Int)]).length + ys.length ≤ 100000) := by show _ ≤ _; simp; omega
  have HY5 : Hid (ys.length ≤ 140737488351232) := by show _ ≤ _; omega
  clear o0 o1 hok hlen
  go_enter Tryz.func143, Tryz.ntmps143
  go_wp2_with (first | ((go_at_call 184; refine (C0.out _).mono ?_); rintro e w1 ⟨k, rfl, hk, hb⟩; obtain ⟨F, W, cF, cW, g, rfl⟩ := hk.shape; obtain ⟨eF, eW, hu⟩ := hk.use; clear hk; have HU := Lib.hid (hu _ (show Since w1 (w1.alloc (.cells #[.func (.func F) #[] cF, .slice (some ⟨g, 0, none⟩) (szI o).length (szI o).length, .func (.func W) #[] cW] 237)) from (Below.refl _ _).alloc (Nat.le_refl _) _)); clear hu; have HB := Lib.hid hb; have x0 : w1.cell? ⟨w.heap.size, 0, none⟩ = some (.int .i64 o) := box_kept hb 0; have x1 : w1.cell? ⟨w.heap.size, 1, none⟩ = some (.int .i64 d) := box_kept hb 1; have x2 : w1.cell? ⟨w.heap.size, 2, none⟩ = some (.int .i64 s) := box_kept hb 2; have x3 : w1.cell? ⟨w.heap.size, 3, none⟩ = some (.int .i64 z) := box_kept hb 3; have x4 : w1.cell? ⟨w.heap.size, 4, none⟩ = some (.int .i64 i) := box_kept hb 4; have hlt : w.heap.size < w1.heap.size := (by have := hb.size; simp at this; omega); clear hb) | ((with_reducible refine (C2.out _ _ _ HU.out.2.2).mono ?_); rintro e w3 ⟨v3, rfl, hr3, hb3⟩; have HB3 := Lib.hid (below_hop (below_hop HB.out ((Below.refl _ _).alloc (Nat.le_refl _) (.cells #[.func (.func F) #[] cF, .slice (some ⟨g, 0, none⟩) (szI o).length (szI o).length, .func (.func W) #[] cW] 237))) hb3); have y3 : w3.cell? ⟨w.heap.size, 3, none⟩ = some (.int .i64 z) := box_kept HB3.out 3; have HS3 := Lib.hid (below_box HB3.out).size; have HR3 := Lib.hid (hr3.mono (show w.heap.size ≤ _ by simp; omega)); clear hr3 hb3; obtain ⟨a3, n3, rfl⟩ := HR3.out.shape))
  go_ret
  exact ⟨_, rfl, HR3.out, below_box HB3.out⟩
theorem by_16 (o d s z i : Int) (w : World) (hok : okI ⟨o, d, s, z, i⟩ = true) (hz : (z == 16) = true) : Calls Tryz.prog 143 #[.agg #[.int .i64 o, .int .i64 d, .int .i64 s, .int .i64 z, .int .i64 i]] w fun e w' => ∃ v, e = .returned v ∧ RowI w' w.heap.size 5 .u8 v (102 :: bodyI ⟨o, d, s, z, i⟩) ∧ Below w.heap.size w w' := by
  obtain ⟨i0, hi0, hz0, hz1, hz2⟩ := info_parts info_u8
  obtain ⟨o0, o1⟩ := ok_op hok
  have C0 := Lib.hid (fun w => kindOf_any o w o0 o1)
  have hlen := body_len hok
  have C2 : Hid (∀ (w : World) (G : FuncId) (cs : Array Value), (∀ x : Ins, x.o = o → okI x = true → Calls Tryz.prog G (#[InsV x] ++ cs) w fun e w' => ∃ v, e = .returned v ∧ RowI w' w.heap.size 5 .u8 v (bodyI x) ∧ Below w.heap.size w w') → Calls Tryz.prog G (#[.agg #[.int .i64 o, .int .i64 d, .int .i64 s, .int .i64 z, .int .i64 i]] ++ cs) w fun e w' => ∃ v, e = .returned v ∧ RowI w' w.heap.size 5 .u8 v (bodyI ⟨o, d, s, z, i⟩) ∧ Below w.heap.size w w') := fun w G cs h => h ⟨o, d, s, z, i⟩ rfl hok
  generalize bodyI ⟨o, d, s, z, i⟩ = ys at *
  have HPOS : Hid (0 < ys.length) := hlen.1
  have HLEN : Hid (([(102 : Int)]).length + ys.length ≤ 100000) := by show _ ≤ _; simp; omega
  have HY5 : Hid (ys.length ≤ 140737488351232) := by show _ ≤ _; omega
  clear o0 o1 hok hlen
  go_enter Tryz.func143, Tryz.ntmps143
  go_wp2_with (first | ((go_at_call 184; refine (C0.out _).mono ?_); rintro e w1 ⟨k, rfl, hk, hb⟩; obtain ⟨F, W, cF, cW, g, rfl⟩ := hk.shape; obtain ⟨eF, eW, hu⟩ := hk.use; clear hk; have HU := Lib.hid (hu _ (show Since w1 (w1.alloc (.cells #[.func (.func F) #[] cF, .slice (some ⟨g, 0, none⟩) (szI o).length (szI o).length, .func (.func W) #[] cW] 237)) from (Below.refl _ _).alloc (Nat.le_refl _) _)); clear hu; have HB := Lib.hid hb; have x0 : w1.cell? ⟨w.heap.size, 0, none⟩ = some (.int .i64 o) := box_kept hb 0; have x1 : w1.cell? ⟨w.heap.size, 1, none⟩ = some (.int .i64 d) := box_kept hb 1; have x2 : w1.cell? ⟨w.heap.size, 2, none⟩ = some (.int .i64 s) := box_kept hb 2; have x3 : w1.cell? ⟨w.heap.size, 3, none⟩ = some (.int .i64 z) := box_kept hb 3; have x4 : w1.cell? ⟨w.heap.size, 4, none⟩ = some (.int .i64 i) := box_kept hb 4; have hlt : w.heap.size < w1.heap.size := (by have := hb.size; simp at this; omega); clear hb) | ((with_reducible refine (C2.out _ _ _ HU.out.2.2).mono ?_); rintro e w3 ⟨v3, rfl, hr3, hb3⟩; have HB3 := Lib.hid (below_hop (below_hop HB.out ((Below.refl _ _).alloc (Nat.le_refl _) (.cells #[.func (.func F) #[] cF, .slice (some ⟨g, 0, none⟩) (szI o).length (szI o).length, .func (.func W) #[] cW] 237))) hb3); have y3 : w3.cell? ⟨w.heap.size, 3, none⟩ = some (.int .i64 z) := box_kept HB3.out 3; have HS3 := Lib.hid (below_box HB3.out).size; have HR3 := Lib.hid (hr3.mono (show w.heap.size ≤ _ by simp; omega)); clear hr3 hb3; obtain ⟨a3, n3, rfl⟩ := HR3.out.shape) | (at_builtin; refine wpList_app_row rfl _ _ 22 rfl w.heap.size 5 i0 1 Tryz.underlying22 hi0 hz0 hz1 hz2 (by decide) _ [102] rfl (RowI.lit w3 #[.int .u8 102] [102] .u8 5 w.heap.size 1 HS3.out rfl rfl (by unfold maxLen; simp)) _ ys rfl ((HR3.out.below ((Below.refl _ _).alloc (Nat.le_refl _) _)).ints HY5.out) HPOS.out HLEN.out ?c5 ?_))
  case c5 => have := HS3.out; simp; omega
  intro v9 w9 hr9 hb9
  have HR9 := Lib.hid hr9
  have HB9 : Hid (Below w.heap.size w w9) := ((below_box HB3.out).trans (((Below.refl w3.heap.size w3).alloc (Nat.le_refl _) _).mono HS3.out)).trans hb9
  clear hr9 hb9
  go_wp2_with fail
  go_ret
  exact ⟨_, rfl, HR9.out, HB9.out⟩
theorem bytes_any (x : Ins) (w : World) (hok : okI x = true) : Calls Tryz.prog 143 #[InsV x] w fun e w' => ∃ v, e = .returned v ∧ RowI w' w.heap.size 5 .u8 v (encI x) ∧ Below w.heap.size w w' := by
  obtain ⟨o, d, s, z, i⟩ := x
  unfold encI
  by_cases c : z = 16
  · rw [if_pos c]
    exact by_16 o d s z i w hok (by simpa using c)
  · rw [if_neg c]
    exact by_n o d s z i w hok (by simpa using c)
theorem enc_len {x : Ins} (h : okI x = true) : 0 < (encI x).length ∧ (encI x).length ≤ 9 := by
  have := body_len h
  unfold encI
  split
  · simp; omega
  · omega
section
variable {P : Program} {l : List Oper} {Q : Exit → Act → World → Prop} {md : Region.Mode} {S : World → Prop}
theorem wpAnyH_takeL (i : Nat) {oi : Oper} {v : Value} {fuel : Nat} {listed : Array Bool} {a : Act} {w : World} (hi : (l.drop i).head? = some oi)
    (hs : Region.noSelect l.toArray = true) (hf : Region.free md l.toArray listed i = true) (hr : (Region.ready md l.toArray listed).contains i = true)
    (hQ : ∀ c a w, Q (.panic c) (a.put oi.dst v) w → Q (.panic c) a w) (hy : YieldsIf P l.toArray S oi v a) (hS : S w)
    (h : wpAnyH P md l.toArray Q S fuel (listed.setIfInBounds i true) (a.put oi.dst v) w) : wpAnyH P md l.toArray Q S (fuel + 1) listed a w :=
  wpAnyH_take (i := i) (by rw [← hi, List.head?_drop]; simp) hs hf hr hQ hy hS h
theorem AllReadyH_consL (i : Nat) {fuel : Nat} {listed : Array Bool} {a : Act} {w : World} {o : Oper} {rs : List Nat} (ho : (l.drop i).head? = some o)
    (h : ∀ K' : Act → World → Prop, Shut (∀ a w, S w → (S w → wpAnyH P md l.toArray Q S fuel (listed.setIfInBounds i true) a w) → K' a w) → if Region.wanted o (yielded l.toArray a.tmps) = true then Oper.wp P o a w K' Q else K' (a.put o.dst undef) w)
    (hs : AllReadyH P md l.toArray Q S fuel listed a w rs) : AllReadyH P md l.toArray Q S fuel listed a w (i :: rs) :=
  AllReadyH.cons (by rw [← ho, List.head?_drop]; simp) h hs
end
def MRet (x : Ins) (w : World) (e : Ending) (w' : World) : Prop := ∃ v ok, e = .returned (.tuple #[v, .bool ok]) ∧ ok = okI x ∧ (okI x = true → RowI w' w.heap.size 5 .u8 v (bodyI x)) ∧ Below w.heap.size w w'
theorem MRet.mk {x : Ins} {w w' : World} {v : Value} {ok : Bool} (h1 : ok = okI x) (h2 : okI x = true → RowI w' w.heap.size 5 .u8 v (bodyI x)) (h3 : Below w.heap.size w w') : MRet x w (.returned (.tuple #[v, .bool ok])) w' := ⟨v, ok, rfl, h1, h2, h3⟩
section
variable {w : World}
theorem wpList_app_u8 {ops : Array Oper} {rest : List Oper} {o : Oper} {a : Act} {Q : Exit → Act → World → Prop} (hgd : o.guard = none) (s x : Operand)
    (ho : o.op = .call { callee := .builtin .append, args := #[s, x], argTypes := #[22, 22] }) (base : Nat) (v : Value) (xs : List Int) (hs : a.eval s = v) (hown : RowI w base 5 .u8 v xs)
    (u : Value) (ys : List Int) (hx : a.eval x = u) (hu : Ints .u8 w u ys) (hm : 0 < ys.length) (hl : xs.length + ys.length ≤ 100000) (hbase : base ≤ w.heap.size)
    (h : ∀ v' w', RowI w' base 5 .u8 v' (xs ++ ys) → Below base w w' → wpList Tryz.prog ops Q rest (a.put o.dst v') w') : wpList Tryz.prog ops Q (o :: rest) a w := by
  obtain ⟨i0, hi0, hz0, hz1, hz2⟩ := info_parts info_u8
  exact wpList_app_row hgd s x _ ho base _ i0 1 Tryz.underlying22 hi0 hz0 hz1 hz2 (by decide) v xs hs hown u ys hx hu hm hl hbase h
end
end Go.Proofs.YtaegpeofecdhfaaGreat
namespace Go.Proofs.YtaegpeofecdhfaaGreat
open Go.RowKit Go.Maps
set_option linter.unusedVariables false
set_option linter.unusedSimpArgs false
def bysI : List Ins → List Int
  | [] => []
  | x :: r => encI x ++ bysI r
theorem bysI_append (a b : List Ins) : bysI (a ++ b) = bysI a ++ bysI b := by
  induction a with
  | nil => rfl
  | cons x r ih => simp only [List.cons_append, bysI, ih, List.append_assoc]
theorem bysI_snoc (a : List Ins) (x : Ins) : bysI (a ++ [x]) = bysI a ++ encI x := by rw [bysI_append]; simp [bysI]
def allI (xs : List Ins) : Prop := ∀ x ∈ xs, okI x = true
theorem bysI_len {xs : List Ins} (h : allI xs) : (bysI xs).length ≤ 9 * xs.length := by
  induction xs with
  | nil => exact Nat.le_refl _
  | cons x r ih =>
    have h1 := (enc_len (h x (List.mem_cons_self ..))).2
    have h2 := ih (fun y hy => h y (List.mem_cons_of_mem _ hy))
    simp only [bysI, List.length_append, List.length_cons]; omega
/-! ### memory -/
def IaAt (w : World) (b o : Nat) (x : Ins) : Prop :=
  w.cell? ⟨b, o, none⟩ = some (.int .i64 x.o) ∧ w.cell? ⟨b, o + 1, none⟩ = some (.int .i64 x.d) ∧ w.cell? ⟨b, o + 2, none⟩ = some (.int .i64 x.s) ∧ w.cell? ⟨b, o + 3, none⟩ = some (.int .i64 x.z) ∧ w.cell? ⟨b, o + 4, none⟩ = some (.int .i64 x.i)
def Ias (w : World) (v : Value) (xs : List Ins) : Prop := Slc w v xs.length 5 fun i b o => IaAt w b o (xs.getD i default)
theorem Ias.stays {w w' : World} {v : Value} {xs : List Ins} (h : Ias w v xs) (hb : Below w.heap.size w w') : Ias w' v xs :=
  Slc.stays h hb fun _ _ _ hlt hc => ⟨below_cell hb hlt hc.1, below_cell hb hlt hc.2.1, below_cell hb hlt hc.2.2.1, below_cell hb hlt hc.2.2.2.1, below_cell hb hlt hc.2.2.2.2⟩
theorem Ias.shape {w : World} {v : Value} {xs : List Ins} (h : Ias w v xs) : ∃ a c, v = .slice a xs.length c ∧ xs.length ≤ c ∧ xs.length ≤ 140737488351232 := by
  obtain ⟨a, c, e, h1, h2, _⟩ := h
  exact ⟨a, c, e, h1, h2.1⟩
theorem Ias.at {w : World} {v : Value} {xs : List Ins} (h : Ias w v xs) {j : Nat} (hj : j < xs.length) : ∃ b q c, v = .slice (some ⟨b, q, none⟩) xs.length c ∧ xs.length ≤ c ∧ b < w.heap.size ∧ IaAt w b (q + j * 5) (xs.getD j default) := by
  obtain ⟨a, c, e, h1, h2, h3, h4⟩ := h
  obtain ⟨b, q, rfl, h5, h6⟩ := h4 j hj
  exact ⟨b, q, c, e, h1, h5, h6⟩
def iaC (x : Ins) : List Value := [.int .i64 x.o, .int .i64 x.d, .int .i64 x.s, .int .i64 x.z, .int .i64 x.i]
def iasC : List Ins → List Value
  | [] => []
  | x :: r => iaC x ++ iasC r
theorem iasC_get : ∀ (xs : List Ins) (i j : Nat), i < xs.length → j < 5 → (iasC xs)[i * 5 + j]? = (iaC (xs.getD i default))[j]?
  | [], i, j, h, _ => absurd h (Nat.not_lt_zero _)
  | x :: r, 0, j, _, hj => by
    show (iaC x ++ iasC r)[0 * 5 + j]? = _
    rw [List.getElem?_append_left (by simp [iaC]; omega)]
    simp
  | x :: r, i + 1, j, h, hj => by
    show (iaC x ++ iasC r)[(i + 1) * 5 + j]? = _
    rw [List.getElem?_append_right (by simp [iaC]; omega)]
    have e : (i + 1) * 5 + j - (iaC x).length = i * 5 + j := by simp [iaC]; omega
    rw [e, iasC_get r i j (by simpa using h) hj]
    simp
def RowA (w : World) (base : Nat) (v : Value) (xs : List Ins) : Prop := w.ownsRow base 157 5 v xs.length (iasC xs)
theorem RowA.nil (w : World) (base : Nat) : RowA w base (.slice none 0 0) [] := World.ownsRow_nil w base _ 5
theorem RowA.below {w w' : World} {base : Nat} {v : Value} {xs : List Ins} (h : RowA w base v xs) (hb : Below w.heap.size w w') : RowA w' base v xs := by
  obtain ⟨h0, ⟨e, h1⟩ | ⟨g, cap, cur, e, hb', hg, h1, h2, h3, h4⟩⟩ := h
  · exact ⟨h0, Or.inl ⟨e, h1⟩⟩
  · have hlt : g < w.heap.size := by
      rcases Nat.lt_or_ge g w.heap.size with h | h
      · exact h
      · rw [Array.getElem?_eq_none h] at hg; cases hg
    exact ⟨h0, Or.inr ⟨g, cap, cur, e, hb', by rw [hb.block g hlt]; exact hg, h1, h2, h3, h4⟩⟩
theorem RowA.ias {w : World} {base : Nat} {v : Value} {xs : List Ins} (h : RowA w base v xs) (hl : xs.length ≤ 100000) : Ias w v xs := by
  obtain ⟨h0, ⟨e, h1⟩ | ⟨g, cap, cur, e, hb', hg, h1, h2, h3, h4⟩⟩ := h
  · exact ⟨none, 0, by rw [e, h1], by omega, ⟨by omega, by omega⟩, fun _ => rfl, fun i hi => absurd hi (by omega)⟩
  · have hlt : g < w.heap.size := by
      rcases Nat.lt_or_ge g w.heap.size with h | h
      · exact h
      · rw [Array.getElem?_eq_none h] at hg; cases hg
    refine ⟨some ⟨g, 0, none⟩, cap, e, h1, ⟨by omega, by unfold maxLen at h2; omega⟩, (fun hh => by cases hh), fun i hi => ⟨g, 0, rfl, hlt, ?_⟩⟩
    rw [Nat.zero_add]
    have cell : ∀ j, j < 5 → w.cell? ⟨g, i * 5 + j, none⟩ = (iaC (xs.getD i default))[j]? := by
      intro j hj
      have e1 : w.cell? ⟨g, i * 5 + j, none⟩ = cur.toList[i * 5 + j]? := by simp [World.cell?, hg]
      have e2 : (cur.toList.take (xs.length * 5))[i * 5 + j]? = cur.toList[i * 5 + j]? := by rw [List.getElem?_take, if_pos (by omega)]
      rw [e1, ← e2, h4]
      exact iasC_get xs i j hi hj
    exact ⟨cell 0 (by omega), cell 1 (by omega), cell 2 (by omega), cell 3 (by omega), cell 4 (by omega)⟩
theorem RowA.shape {w : World} {base : Nat} {v : Value} {xs : List Ins} (h : RowA w base v xs) : ∃ a c, v = .slice a xs.length c := by
  obtain ⟨h0, ⟨e, h1⟩ | ⟨g, cap, cur, e, _⟩⟩ := h
  · exact ⟨none, 0, by rw [e, h1]⟩
  · exact ⟨_, _, e⟩
theorem take_snoc {xs : List Ins} {j : Nat} (h : j < xs.length) : xs.take (j + 1) = xs.take j ++ [xs.getD j default] := by
  rw [List.take_add_one, List.getElem?_eq_getElem h, List.getD_eq_getElem?_getD, List.getElem?_eq_getElem h]; rfl
theorem take_all {xs : List Ins} (h : allI xs) (j : Nat) : allI (xs.take j) := fun x hx => h x (List.mem_of_mem_take hx)
theorem getD_mem {xs : List Ins} {j : Nat} (h : j < xs.length) : xs.getD j default ∈ xs := by
  rw [List.getD_eq_getElem?_getD, List.getElem?_eq_getElem h]; exact List.getElem_mem h
theorem bytes_yes (xs : List Ins) (v : Value) (w : World) (hv : Ias w v xs) (hyes : allI xs) (hlen : xs.length ≤ 10000) : Calls Tryz.prog 290 #[v] w fun e w' => ∃ u, e = .returned (.tuple #[u, .int .i64 0]) ∧ RowI w' w.heap.size 5 .u8 u (bysI xs) ∧ Below w.heap.size w w' := by
  have HV := Lib.hid hv
  have HY := Lib.hid hyes
  obtain ⟨va, vc, rfl, hl1, hl2⟩ := hv.shape
  clear hv hyes
  go_enter Tryz.func290, Tryz.ntmps290
  go_wp2_with fail
  go_loopw [12] (fun i wr => ∃ j : Nat, j ≤ xs.length ∧ i = .int .i64 j ∧ Since w wr) (fun i _ => xs.length - (intOf i).toNat)
  case atStart => exact ⟨0, Nat.zero_le _, rfl, Since.refl _⟩
  case round =>
    obtain ⟨j, hj, rfl, hs⟩ := hrel
    by_cases hlt : j < xs.length
    · obtain ⟨b, q, c, e', hc, hb, x0, x1, x2, x3, x4⟩ := (HV.out.stays hs).at hlt
      cases e'
      have hok := HY.out _ (getD_mem hlt)
      have CV := Lib.hid (fun wk => validate_any (xs.getD j default) wk)
      rw [show vaI (xs.getD j default) = 0 by unfold vaI; rw [hok]; rfl] at CV
      have HS := Lib.hid hs
      clear hok hs
      generalize xs.getD j default = x at *
      obtain ⟨o, d, s, z, i⟩ := x
      have CV2 : Hid (∀ wk, Calls Tryz.prog 141 #[.agg #[.int .i64 o, .int .i64 d, .int .i64 s, .int .i64 z, .int .i64 i]] wk fun e w' => e = .returned (.int .i64 0) ∧ Below wk.heap.size wk w') := CV
      clear CV
      have hlt' : (j : Int) < xs.length := Int.ofNat_lt.2 hlt
      go_wp2_with ((go_at_call 141; with_reducible refine (CV2.out _).mono ?_); rintro e w1 ⟨rfl, hb1⟩)
      go_roundw
      case rel => exact ⟨j + 1, by omega, by go_num, below_hop HS.out (below_hop ((Below.refl _ _).alloc (Nat.le_refl _) _) hb1)⟩
      case measure => simp [intOf]; omega
    · obtain rfl : j = xs.length := by omega
      obtain ⟨wo, rfl⟩ : ∃ wo : World, wo = wr := ⟨_, rfl⟩
      have HS := Lib.hid hs
      clear hs
      go_wp2_with fail
      go_loopw [4, 24] (fun u i wr => ∃ j : Nat, j ≤ xs.length ∧ i = .int .i64 j ∧ RowI wr w.heap.size 5 .u8 u (bysI (xs.take j)) ∧ Since w wr) (fun _ i _ => xs.length - (intOf i).toNat)
      case atStart => exact ⟨0, Nat.zero_le _, rfl, RowI.nil _ _ _ _, HS.out⟩
      case round =>
        obtain ⟨j, hj, rfl, hrow, hs⟩ := hrel
        by_cases hlt : j < xs.length
        · obtain ⟨b, q, c, e', hc, hb, x0, x1, x2, x3, x4⟩ := (HV.out.stays hs).at hlt
          cases e'
          have hok := HY.out _ (getD_mem hlt)
          have CB := Lib.hid (fun wk => bytes_any (xs.getD j default) wk hok)
          have HEQ : Hid (bysI (xs.take j) ++ encI (xs.getD j default) = bysI (xs.take (j + 1))) := by show _ = _; rw [take_snoc hlt, bysI_snoc]
          have hen := enc_len hok
          have hbl := bysI_len (take_all HY.out j)
          have htl : (xs.take j).length ≤ 10000 := by rw [List.length_take]; omega
          have HLEN : Hid ((bysI (xs.take j)).length + (encI (xs.getD j default)).length ≤ 100000) := Lib.hid (by omega)
          have HPOS : Hid (0 < (encI (xs.getD j default)).length) := Lib.hid hen.1
          have HY5 : Hid ((encI (xs.getD j default)).length ≤ 140737488351232) := Lib.hid (by omega)
          obtain ⟨ua, uc, rfl⟩ := hrow.shape
          have HROW := Lib.hid hrow
          have HSZ : Hid (w.heap.size ≤ wr.heap.size) := Lib.hid hs.size
          have HS := Lib.hid hs
          clear hok hen hbl htl hrow hs
          generalize xs.getD j default = x at *
          generalize bysI (xs.take j) = bs at *
          obtain ⟨o, d, s, z, i⟩ := x
          have CB2 : Hid (∀ wk, Calls Tryz.prog 143 #[.agg #[.int .i64 o, .int .i64 d, .int .i64 s, .int .i64 z, .int .i64 i]] wk fun e w' => ∃ v, e = .returned v ∧ RowI w' wk.heap.size 5 .u8 v (encI ⟨o, d, s, z, i⟩) ∧ Below wk.heap.size wk w') := CB
          clear CB
          generalize encI ⟨o, d, s, z, i⟩ = en at *
          have hlt' : (j : Int) < xs.length := Int.ofNat_lt.2 hlt
          go_wp2_with (first | ((go_at_call 143; with_reducible refine (CB2.out _).mono ?_); rintro e w1 ⟨v1, rfl, hr1, hb1⟩; obtain ⟨a1, c1, rfl⟩ := hr1.shape; have HR1 := Lib.hid hr1; have HB1 := Lib.hid (below_hop ((Below.refl wr.heap.size wr).alloc (Nat.le_refl _) _) hb1); clear hr1 hb1) | (at_builtin; refine wpList_app_u8 rfl _ _ rfl w.heap.size _ bs rfl (HROW.out.below HB1.out) _ en rfl (HR1.out.ints HY5.out) HPOS.out HLEN.out (Nat.le_trans HSZ.out HB1.out.size) ?_; intro v9 w9 hr9 hb9; have HR9 := Lib.hid hr9; have HB9 := Lib.hid hb9; clear hr9 hb9))
          go_roundw
          case rel => exact ⟨j + 1, by omega, by go_num, RowI.to HR9.out HEQ.out, since_step (below_hop HS.out HB1.out) HB9.out⟩
          case measure => simp [intOf]; omega
        · obtain rfl : j = xs.length := by omega
          have HROW : Hid (RowI wr w.heap.size 5 .u8 _ (bysI xs)) := Lib.hid (by rw [List.take_length] at hrow; exact hrow)
          have HS := Lib.hid hs
          clear hrow hs
          go_wp2_with fail
          go_ret2
          exact ⟨_, rfl, HROW.out, HS.out⟩
def Ia34 (w : World) (g : Nat) : Prop := Cls w g [.int .i64 34, .int .i64 0, .int .i64 0, .int .i64 32, .int .i64 0]
theorem Ia34.ias {w : World} {g : Nat} (h : Ia34 w g) : Ias w (.slice (some ⟨g, 0, none⟩) 1 1) [⟨34, 0, 0, 32, 0⟩] := by
  refine ⟨some ⟨g, 0, none⟩, 1, rfl, Nat.le_refl _, ⟨by simp, by omega⟩, (fun hh => by cases hh), fun i hi => ⟨g, 0, rfl, h.lt (by decide), ?_⟩⟩
  obtain rfl : i = 0 := by simp at hi; omega
  exact ⟨h.at 0 _ rfl, h.at 1 _ rfl, h.at 2 _ rfl, h.at 3 _ rfl, h.at 4 _ rfl⟩
theorem all34 : allI [⟨34, 0, 0, 32, 0⟩] := fun x hx => by
  simp at hx; subst hx; decide
set_option maxHeartbeats 2000000 in
theorem bytesOf_34 (g : Nat) (w : World) (h : Ia34 w g) : Calls Tryz.prog 285 #[.agg #[], .slice (some ⟨g, 0, none⟩) 1 1] w fun e w' => ∃ v, e = .returned v ∧ RowI w' w.heap.size 5 .u8 v [244] ∧ Below w.heap.size w w' := by
  have hg : g < w.heap.size := h.lt (by decide)
  have B1 := Lib.hid ((Below.refl w.heap.size w).alloc (Nat.le_refl _) (.cells #[] 143))
  have C1 := Lib.hid (bytes_yes _ _ (w.alloc (.cells #[] 143)) (Ia34.ias (h.below hg B1.out)) all34 (by decide))
  go_enter Tryz.func285, Tryz.ntmps285
  go_wp2_with (go_at_call 290; with_reducible refine C1.out.mono ?_; rintro e w2 ⟨v, rfl, hr, hb⟩)
  go_ret
  exact ⟨_, rfl, RowI.base (show RowI w2 _ 5 .u8 v [244] from hr) (by simp), below_next B1.out (by simp) hb⟩
theorem reg_3 (w : World) : Calls Tryz.prog 286 #[.agg #[], .int .i64 0] w fun e w' => e = .returned (.int .i64 3) ∧ Below w.heap.size w w' := by
  have B1 := Lib.hid (((Below.refl w.heap.size w).alloc (Nat.le_refl _) (.cells #[] 143)).alloc (by simp) (.cells #[.int .i64 3, .int .i64 5, .int .i64 6, .int .i64 7] 3))
  go_enter Tryz.func286, Tryz.ntmps286
  go_wp2_with fail
  go_ret
  exact ⟨rfl, B1.out⟩
set_option maxHeartbeats 4000000 in
theorem plain_1 (w : World) : Calls Tryz.prog 281 #[.agg #[], haltC] w fun e w' => ∃ v, e = .returned v ∧ RowI w' w.heap.size 5 .u8 v [244] ∧ Below w.heap.size w w' := by
  unfold haltC
  have C1 := Lib.hid reg_3
  obtain ⟨W1, hW1⟩ : ∃ W, (w.alloc (.cells #[] 143)).alloc (.cells #[.int .i64 26, .int .i64 0, .int .i64 0, .int .i64 0, .int .u32 0, .int .i64 0] 76) = W := ⟨_, rfl⟩
  have BB : Hid (Below w.heap.size w W1) := by rw [← hW1]; exact ((Below.refl _ _).alloc (Nat.le_refl _) _).alloc (by simp) _
  have e1 : W1.heap.size = w.heap.size + 2 := by rw [← hW1]; simp
  have q0 : W1.cell? ⟨w.heap.size + 1, 0, none⟩ = some (.int .i64 26) := by rw [← hW1]; simp [go_sem]
  have q1 : W1.cell? ⟨w.heap.size + 1, 1, none⟩ = some (.int .i64 0) := by rw [← hW1]; simp [go_sem]
  have q2 : W1.cell? ⟨w.heap.size + 1, 2, none⟩ = some (.int .i64 0) := by rw [← hW1]; simp [go_sem]
  have q3 : W1.cell? ⟨w.heap.size + 1, 3, none⟩ = some (.int .i64 0) := by rw [← hW1]; simp [go_sem]
  have r1 : ∀ wk, Since W1 wk → wk.cell? ⟨w.heap.size + 1, 1, none⟩ = some (.int .i64 0) := fun wk h => h.cell q1
  have r2 : ∀ wk, Since W1 wk → wk.cell? ⟨w.heap.size + 1, 2, none⟩ = some (.int .i64 0) := fun wk h => h.cell q2
  have r3 : ∀ wk, Since W1 wk → wk.cell? ⟨w.heap.size + 1, 3, none⟩ = some (.int .i64 0) := fun wk h => h.cell q3
  have R0 : Hid (∀ wk, Since W1 wk → wk.cell? ⟨w.heap.size + 1, 0, none⟩ = some (.int .i64 26)) := fun wk h => h.cell q0
  have h00 := Since.refl W1
  go_enter Tryz.func281, Tryz.ntmps281
  go_wp2_with fail
  clear hW1 q0 q1 q2 q3
  have E1 := Lib.hid e1
  clear e1
  go_region_held3 (fun wk => Since W1 wk) (first | assumption | exact Since.drew (by assumption)) ((go_at_call 286; with_reducible refine (C1.out _).mono ?_; rintro e w1 ⟨rfl, hb1⟩; have hs1 := Since.next (by assumption) hb1))
  all_goals
    have hS : Since W1 w1 := by assumption
    have q0 := R0.out _ hS
    have hsz := hS.size
    have hE := E1.out
    have hlt : w.heap.size + 1 < w1.heap.size := by omega
    have C3 := Lib.hid (bytesOf_34 w1.heap.size (w1.alloc (.cells #[.int .i64 34, .int .i64 0, .int .i64 0, .int .i64 32, .int .i64 0] 157)) Cls.made)
    have B3 : Hid (Below w.heap.size w (w1.alloc (.cells #[.int .i64 34, .int .i64 0, .int .i64 0, .int .i64 32, .int .i64 0] 157))) := (below_next BB.out (by omega) hS).alloc (by omega) _
    clear hE hS r1 r2 r3 h00 hsz
    go_wp2_with (go_at_call 285; with_reducible refine C3.out.mono ?_; rintro e w3 ⟨v, rfl, hr3, hb3⟩)
    go_ret
    exact ⟨_, rfl, hr3.base (by simp; omega), below_next B3.out (by simp; omega) hb3⟩
set_option maxHeartbeats 4000000 in
theorem lay_1 (L b cb s g : Nat) (bv : Value) (w : World) (h : LayAt 143 L b cb s g bv 0 0 w) : Calls Tryz.prog 70 #[.pointer (some ⟨L, 0, none⟩)] w fun e w' => e = .returned (.tuple #[]) ∧ LayAt 143 L b cb s g bv 0 1 w' ∧ Below s w w' := by
  have C1 := Lib.hid isBranch_halt
  have C2 := Lib.hid plain_1
  unfold haltC at C2
  have H := Lib.hid h
  have l1 := h.hl.at 1 (.slice (some ⟨b, 0, none⟩) 1 cb) rfl
  have c0 := h.hc 0 (.int .i64 26) rfl
  have c1 := h.hc 1 (.int .i64 0) rfl
  have c2 := h.hc 2 (.int .i64 0) rfl
  have c3 := h.hc 3 (.int .i64 0) rfl
  have c4 := h.hc 4 (.int .u32 0) rfl
  have c5 := h.hc 5 (.int .i64 0) rfl
  have hL := h.hl.lt (by simp)
  have hb := cell_lt c0
  have hsl := h.hs.lt (by simp)
  obtain ⟨n1, n2, n3⟩ := h.hn
  have hm := meth_plain1 386
  simp only [String.reducePush, String.reduceAppend, Nat.reduceAdd] at hm
  clear h
  go_enter Tryz.func70, Tryz.ntmps70
  go_wp2_with fail
  go_loopw [2, 3, 10] (fun at' _ i wr => (i = .int .i64 0 ∧ at' = .int .i64 0 ∧ w = wr) ∨ (i = .int .i64 1 ∧ at' = .int .i64 1 ∧ LayAt 143 L b cb s g bv 0 0 wr ∧ Below s w wr)) (fun _ _ i _ => 1 - (intOf i).toNat)
  case atStart => exact .inl ⟨rfl, rfl, rfl⟩
  case round =>
    rcases hrel with ⟨rfl, rfl, rfl⟩ | ⟨rfl, rfl, hl4, hb4⟩
    · have hne1 : ¬ b = w.heap.size := by omega
      go_upto_region 4 with fail
      generalize hW1 : w.alloc (.cells #[.int .i64 26, .int .i64 0, .int .i64 0, .int .i64 0, .int .u32 0, .int .i64 0] 76) = W1
      have BB : Hid (Below w.heap.size w W1) := by rw [← hW1]; exact (Below.refl _ _).alloc (Nat.le_refl _) _
      have hsz : W1.heap.size = w.heap.size + 1 := by rw [← hW1]; simp
      have HB : Hid (Cls W1 w.heap.size [.int .i64 26, .int .i64 0, .int .i64 0, .int .i64 0, .int .u32 0, .int .i64 0]) := by rw [← hW1]; exact Cls.made
      have H1 : Hid (LayAt 143 L b cb s g bv 0 0 W1) := H.out.below BB.out
      have d3 := H1.out.hl.at 3 (.slice (some ⟨s, 0, none⟩) 2 2) rfl
      have e0 := H1.out.hs.at 0 (.int .i64 0) rfl
      have f0 := H1.out.hs.at' 0 (.int .i64 0) rfl
      have x0 := HB.out.at 0 (.int .i64 26) rfl
      have hne2 : ¬ s = w.heap.size := by omega
      have H2 : Hid (LayAt 143 L b cb s g bv 0 0 (W1.setCell ⟨s, 0, none⟩ (.int .i64 0))) := H1.out.set0 0
      have HB2 : Hid (Cls (W1.setCell ⟨s, 0, none⟩ (.int .i64 0)) w.heap.size [.int .i64 26, .int .i64 0, .int .i64 0, .int .i64 0, .int .u32 0, .int .i64 0]) := HB.out.other (by omega) _
      have B2 : Hid (Below s w (W1.setCell ⟨s, 0, none⟩ (.int .i64 0))) := below_at (BB.out.mono (by omega)) (Nat.le_refl _) _ _
      have hsz2 : (W1.setCell ⟨s, 0, none⟩ (.int .i64 0)).heap.size = w.heap.size + 1 := by simp [hsz]
      have HSZ := Lib.hid hsz2
      clear hsz2 hsz
      go_wp2_with (go_at_call 49; with_reducible refine (C1.out _).mono ?_; rintro e w' ⟨rfl, rfl⟩)
      generalize W1.setCell ⟨s, 0, none⟩ (.int .i64 0) = W2 at *
      have t0 := H2.out.hl.at 0 (.iface 143 (.agg #[])) rfl
      have r0 : ∀ wk, Since W2 wk → wk.cell? ⟨L, 0, none⟩ = some (.iface 143 (.agg #[])) := fun wk h => h.cell t0
      have y0 := HB2.out.at 0 (.int .i64 26) rfl
      have y1 := HB2.out.at 1 (.int .i64 0) rfl
      have y2 := HB2.out.at 2 (.int .i64 0) rfl
      have y3 := HB2.out.at 3 (.int .i64 0) rfl
      have y4 := HB2.out.at 4 (.int .u32 0) rfl
      have y5 := HB2.out.at 5 (.int .i64 0) rfl
      have k0 : ∀ wk, Since W2 wk → wk.cell? ⟨w.heap.size, 0, none⟩ = some (.int .i64 26) := fun wk h => h.cell y0
      have k1 : ∀ wk, Since W2 wk → wk.cell? ⟨w.heap.size, 1, none⟩ = some (.int .i64 0) := fun wk h => h.cell y1
      have k2 : ∀ wk, Since W2 wk → wk.cell? ⟨w.heap.size, 2, none⟩ = some (.int .i64 0) := fun wk h => h.cell y2
      have k3 : ∀ wk, Since W2 wk → wk.cell? ⟨w.heap.size, 3, none⟩ = some (.int .i64 0) := fun wk h => h.cell y3
      have k4 : ∀ wk, Since W2 wk → wk.cell? ⟨w.heap.size, 4, none⟩ = some (.int .u32 0) := fun wk h => h.cell y4
      have k5 : ∀ wk, Since W2 wk → wk.cell? ⟨w.heap.size, 5, none⟩ = some (.int .i64 0) := fun wk h => h.cell y5
      have h00 := Since.refl W2
      have hlt := cell_lt y0
      clear t0 y0 y1 y2 y3 y4 y5 hW1 x0 d3 e0 f0 l1 c0 c1 c2 c3 c4 c5
      go_region_held3 (fun wk => Since W2 wk) (first | assumption | exact Since.drew (by assumption)) ((go_at_call 281; with_reducible refine (C2.out _).mono ?_; rintro e w3 ⟨v, rfl, hr3, hb3⟩; obtain ⟨va, vc, rfl⟩ := hr3.shape; have hs1 := Since.next (by assumption) hb3))
      all_goals
        have hS : Since W2 w3 := by assumption
        have hA : Hid (LayAt 143 L b cb s g bv 0 0 w3) := H2.out.below hS
        have hsl2 := H2.out.hs.lt (by simp)
        have hBf : Hid (Below s w w3) := below_next B2.out (by omega) hS
        clear hS
        rw [show IntKind.i64.wrap 1 = 1 from rfl]
        go_wp2_with fail
        go_roundw
        case rel => exact .inr ⟨rfl, rfl, hA.out, hBf.out⟩
        case measure => simp [intOf]
    · have H4 := Lib.hid hl4
      have HB4 := Lib.hid hb4
      have d1 := hl4.hl.at 1 (.slice (some ⟨b, 0, none⟩) 1 cb) rfl
      have d3 := hl4.hl.at 3 (.slice (some ⟨s, 0, none⟩) 2 2) rfl
      have e1 := hl4.hs.at 1 (.int .i64 0) rfl
      have f1 := hl4.hs.at' 1 (.int .i64 0) rfl
      clear hl4 hb4
      go_wp2_with fail
      go_region
      refine bodyPost_end (v := .tuple #[]) (by simp [results, Tryz.results70, go_sem]) rfl ⟨rfl, (H4.out.below (below_drewN (Below.refl _ _) 1)).set1 1, below_at (HB4.out.trans (below_drewN (Below.refl _ _) 1)) (Nat.le_refl _) _ _⟩
theorem qtail1 {p : Prop} (h : p := by
  have C2 := Lib.hid (fun w' h => lay_1 w2.heap.size b cb sx gx bv w' h)
  clear l1 l3 g3 l4 g4 hm1 hm2
  go_wp2_with fail
  have hsw : w.heap.size ≤ sx := by have := HB2.out.size; omega
  clear hsx hgx
  go_loopw [11, 12, 13, 84] (fun ag _ _ _ wr => (ag = .bool true ∧ LayAt 143 w2.heap.size b cb sx gx bv 0 0 wr ∧ Below w.heap.size w wr) ∨ (ag = .bool false ∧ LayAt 143 w2.heap.size b cb sx gx bv 0 1 wr ∧ Below w.heap.size w wr)) (fun ag _ _ _ _ => match ag with | .bool true => 1 | _ => 0)
  case atStart => exact .inl ⟨rfl, HLay.out, HBz.out⟩
  case round =>
    rcases hrel with ⟨rfl, hA, hBq⟩ | ⟨rfl, hA, hBq⟩
    · have C3 := Lib.hid (C2.out _ hA)
      have HBq := Lib.hid hBq
      clear hA hBq
      go_wp2_with (go_at_call 70; with_reducible refine C3.out.mono ?_; rintro e w5 ⟨rfl, hA5, hb5⟩; have l15 := hA5.hl.at 1 (.slice (some ⟨b, 0, none⟩) 1 cb) rfl; have HA5 := Lib.hid hA5; have HB5 := Lib.hid (HBq.out.trans (hb5.mono hsw)); clear hA5 hb5)
      obtain ⟨wo, rfl⟩ : ∃ wo : World, wo = wr := ⟨_, rfl⟩
      have hBl := cell_lt l15
      have C1q := Lib.hid isBranch_halt
      go_loopw [11, 12, 13, 84] (fun ag _ _ i wr => (ag = .bool false ∧ i = .int .i64 0 ∧ w5 = wr) ∨ (ag = .bool false ∧ i = .int .i64 1 ∧ Below w5.heap.size w5 wr)) (fun _ _ _ i _ => 1 - (intOf i).toNat)
      case atStart => exact .inl ⟨rfl, rfl, rfl⟩
      case round =>
        rcases hrel with ⟨rfl, rfl, rfl⟩ | ⟨rfl, rfl, hb⟩
        · have c0 := HA5.out.hc 0 (.int .i64 26) rfl
          have c1 := HA5.out.hc 1 (.int .i64 0) rfl
          have c2 := HA5.out.hc 2 (.int .i64 0) rfl
          have c3 := HA5.out.hc 3 (.int .i64 0) rfl
          have c4 := HA5.out.hc 4 (.int .u32 0) rfl
          have c5 := HA5.out.hc 5 (.int .i64 0) rfl
          have hblt := cell_lt c0
          have hne : ¬ b = w5.heap.size := by omega
          go_upto_region 19 with fail
          generalize hW6 : w5.alloc (.cells #[.int .i64 26, .int .i64 0, .int .i64 0, .int .i64 0, .int .u32 0, .int .i64 0] 76) = W6
          have BB6 : Hid (Below w5.heap.size w5 W6) := by rw [← hW6]; exact (Below.refl _ _).alloc (Nat.le_refl _) _
          have k0 : W6.cell? ⟨w5.heap.size, 0, none⟩ = some (.int .i64 26) := by rw [← hW6]; simp [go_sem]
          clear hW6 c0 c1 c2 c3 c4 c5 l15
          go_quiet ((go_at_call 49; with_reducible exact quiet_same (C1q.out _)))
          go_wp2_with fail
          go_roundw
          case rel => exact .inr ⟨rfl, rfl, below_drewN BB6.out _⟩
          case measure => simp [intOf]
        · have HbN := Lib.hid hb
          clear hb
          go_wp2_with fail
          go_roundw
          case rel => exact .inr ⟨rfl, HA5.out.below HbN.out, HB5.out.trans (HbN.out.mono (by have := HB5.out.size; omega))⟩
          case measure => exact Nat.zero_lt_one
    · have HA := Lib.hid hA
      have HBq := Lib.hid hBq
      clear hA hBq
      go_wp2_with fail
      refine bodyPost_ret (v := .tuple #[.pointer (some ⟨w2.heap.size, 0, none⟩), .int .i64 0]) (by simp [results, Tryz.results48, go_sem]) rfl ⟨w2.heap.size, b, cb, sx, gx, bv, rfl, HA.out, HBq.out⟩
 ) : p := h
set_option maxHeartbeats 4000000 in
theorem layoutOf_1 (b1 b0 : Nat) (w : World) (h : HaltAt w b1 b0) : Calls Tryz.prog 48 #[.int .i64 1, .agg #[.int .i64 0, .slice (some ⟨b1, 0, none⟩) 1 1]] w fun e w' => ∃ L b cb s g bv, e = .returned (.tuple #[.pointer (some ⟨L, 0, none⟩), .int .i64 0]) ∧ LayAt 143 L b cb s g bv 0 1 w' ∧ Below w.heap.size w w' := by
  obtain ⟨W1, hW1⟩ : ∃ W, w.alloc (.cells #[.int .i64 0, .slice (some ⟨b1, 0, none⟩) 1 1] 46) = W := ⟨_, rfl⟩
  have BB : Hid (Below w.heap.size w W1) := by rw [← hW1]; exact (Below.refl _ _).alloc (Nat.le_refl _) _
  have hs : w.heap.size < W1.heap.size := by rw [← hW1]; simp
  have p0 : W1.cell? ⟨w.heap.size, 0, none⟩ = some (.int .i64 0) := by rw [← hW1]; simp [go_sem]
  have p1 : W1.cell? ⟨w.heap.size, 1, none⟩ = some (.slice (some ⟨b1, 0, none⟩) 1 1) := by rw [← hW1]; simp [go_sem]
  have P1 := Lib.hid p1
  have H1 : Hid (HaltAt W1 b1 b0) := h.below BB.out
  have C1 := Lib.hid (asked_1 b1 b0 W1 H1.out)
  clear h
  go_enter Tryz.func48, Tryz.ntmps48
  go_wp2_with (go_at_call 69; with_reducible refine C1.out.mono ?_; rintro e w2 ⟨rfl, hb2⟩; have p1b := below_cell hb2 hs P1.out; have hl2 := cell_lt p1b; have hne2 : ¬ w.heap.size = w2.heap.size := (by omega); have HB2 := Lib.hid hb2; clear hb2 p0 p1)
  generalize hW3 : w2.alloc (.cells #[.iface 143 (.agg #[]), .slice none 0 0, .slice none 0 0, .slice none 0 0, .slice none 0 0] 106) = W3
  have B3 : Hid (Below w2.heap.size w2 W3) := by rw [← hW3]; exact (Below.refl _ _).alloc (Nat.le_refl _) _
  have hs3 : W3.heap.size = w2.heap.size + 1 := by rw [← hW3]; simp
  have HL : Hid (Cls W3 w2.heap.size [.iface 143 (.agg #[]), .slice none 0 0, .slice none 0 0, .slice none 0 0, .slice none 0 0]) := by rw [← hW3]; exact Cls.made
  have H3 : Hid (HaltAt W3 b1 b0) := (H1.out.below HB2.out).below B3.out
  have p13 := below_cell B3.out hl2 p1b
  have P13 := Lib.hid p13
  clear hW3 p1b
  go_loopw [10, 29] (fun _ i wr => (i = .int .i64 0 ∧ W3 = wr) ∨ (i = .int .i64 1 ∧ ∃ b cb bv, Cls wr w2.heap.size [.iface 143 (.agg #[]), .slice (some ⟨b, 0, none⟩) 1 cb, bv, .slice none 0 0, .slice none 0 0] ∧ (∀ k v, haltL[k]? = some v → wr.cell? ⟨b, k, none⟩ = some v) ∧ w2.heap.size < b ∧ Below w2.heap.size w2 wr)) (fun _ i _ => 1 - (intOf i).toNat)
  case atStart => exact .inl ⟨rfl, rfl⟩
  case round =>
    rcases hrel with ⟨rfl, rfl⟩ | ⟨rfl, b, cb, bv, hL, hc, hlb, hb⟩
    · have s1 := H3.out.s
      have l1 := HL.out.at 1 (.slice none 0 0) rfl
      have l2 := HL.out.at 2 (.slice none 0 0) rfl
      have f2 := HL.out.at' 2 (.slice none 0 0) rfl
      obtain ⟨i0, hi0, hz0, hz1, hz2⟩ := info_parts info_int64
      have HS3 := Lib.hid hs3
      have hLW : w2.heap.size < W3.heap.size := by omega
      have hLne : ¬ w2.heap.size = W3.heap.size := by omega
      clear hs3
      go_wp2_with fail
      go_region_law ((refine step_append_lies _ (by rfl) _ _ _ (by rfl) (w2.heap.size + 1) 3 i0 (.int .i64 0) 1 8 Tryz.underlying69 hi0 hz0 hz1 hz2 rfl (by decide) (.slice none 0 0) 0 [] (by rfl) (World.ownsRow_nil _ _ _ _) ⟨W3.heap.size, 0, none⟩ 1 1 [.int .i64 0] (by rfl) (by rfl) (World.news_of_block (cs := #[.int .i64 0]) (t := 3) (fr := (0, 0)) (show _ from Array.getElem?_push_size)) (by simp [Value.oneCell']) (by decide) (by unfold maxLen; decide) (by decide) (by have := HS3.out; simp; omega) (W3.heap.size + 1) (by simp) ?_); intro gg cap w4 hown4 hgrow4 hat4 hlt4; have HC4 := Lib.hid (((HL.out.below (HL.out.lt (by simp)) ((Below.refl _ _).alloc (Nat.le_refl _) (.cells #[.int .i64 0] 3))).block (hgrow4.block w2.heap.size (by have := HS3.out; simp; omega) (by simp [Value.ownBlock]) : w4.heap[w2.heap.size]? = (W3.alloc (.cells #[.int .i64 0] 3)).heap[w2.heap.size]?))); have l24 := HC4.out.at 2 (.slice none 0 0) rfl; have f24 := HC4.out.at' 2 (.slice none 0 0) rfl)
      all_goals
        have hB4 : Hid (Below w2.heap.size w2 (w4.setCell ⟨w2.heap.size, 2, none⟩ (.slice (some ⟨gg, 0, none⟩) 1 cap))) := by
          have e3 := HS3.out
          refine below_at (Below.grown (B := w2.heap.size) (((B3.out.alloc (by omega) (.cells #[.int .i64 0] 3))).drew) hgrow4 (by show w2.heap.size ≤ (W3.alloc _).heap.size; simp; omega) (fun k hk => by cases hk)) (Nat.le_refl _) _ _
        have HC5 : Hid (Cls (w4.setCell ⟨w2.heap.size, 2, none⟩ (.slice (some ⟨gg, 0, none⟩) 1 cap)) w2.heap.size [.iface 143 (.agg #[]), .slice none 0 0, .slice (some ⟨gg, 0, none⟩) 1 cap, .slice none 0 0, .slice none 0 0]) := HC4.out.set (k := 2) (by simp) _
        have hH5 : Hid (HaltAt (w4.setCell ⟨w2.heap.size, 2, none⟩ (.slice (some ⟨gg, 0, none⟩) 1 cap)) b1 b0) := (H1.out.below HB2.out).below hB4.out
        have hl5 : w2.heap.size < (w4.setCell ⟨w2.heap.size, 2, none⟩ (.slice (some ⟨gg, 0, none⟩) 1 cap)).heap.size := HC5.out.lt (by simp)
        clear l24 f24 hown4 hgrow4 hat4 hlt4
        generalize w4.setCell ⟨w2.heap.size, 2, none⟩ (.slice (some ⟨gg, 0, none⟩) 1 cap) = W5 at *
        have l15 := HC5.out.at 1 (.slice none 0 0) rfl
        obtain ⟨ic, hic, hcz, hcs, hcb⟩ := info_parts info_code
        go_wp2_with (at_builtin; refine wpList_append_lies _ rfl _ _ _ rfl (w2.heap.size + 1) 76 ic _ 6 48 Tryz.underlying74 hic hcz hcs hcb rfl (by decide) (.slice none 0 0) 0 [] rfl (World.ownsRow_nil _ _ _ _) ⟨b0, 0, none⟩ 1 1 haltL rfl rfl hH5.out.cells (by simp [haltL, Value.oneCell']) (by decide) (by unfold maxLen; decide) (by decide) (by omega) W5.heap.size rfl (fun gc capc w6 ho6 hg6 hat6 hl6 => ?_); have HC6 := Lib.hid (HC5.out.block (hg6.block w2.heap.size hl5 (by simp [Value.ownBlock]))); have l16 := HC6.out.at 1 (.slice none 0 0) rfl; have f16 := HC6.out.at' 1 (.slice none 0 0) rfl)
        refine ⟨.inr ⟨rfl, gc, capc, .slice (some ⟨gg, 0, none⟩) 1 cap, HC6.out.set (k := 1) (by simp) _, fun k v hv => ?_, ?_, ?_⟩, by simp [intOf]⟩
        · have hg1 := (ho6.lt gc rfl).1
          rw [World.cell?_setCell_other _ _ _ _ (by intro hh; cases hh; omega)]
          have hk6 : k < 6 := by
            rcases Nat.lt_or_ge k 6 with h | h
            · exact h
            · rw [List.getElem?_eq_none (by simpa [haltL] using h)] at hv; cases hv
          rw [ho6.cellAt k (by omega)]
          exact hv
        · have hg1 := (ho6.lt gc rfl).1
          omega
        · exact below_at (Below.grown (B := w2.heap.size) hB4.out hg6 (by omega) (fun k hk => by cases hk)) (Nat.le_refl _) _ _
    · have HLx := Lib.hid hL
      have HCx := Lib.hid hc
      have HBx := Lib.hid hb
      have l1 := hL.at 1 (.slice (some ⟨b, 0, none⟩) 1 cb) rfl
      have l3 := hL.at 3 (.slice none 0 0) rfl
      have g3 := hL.at' 3 (.slice none 0 0) rfl
      have l4 := hL.at 4 (.slice none 0 0) rfl
      have g4 := hL.at' 4 (.slice none 0 0) rfl
      have hlL := cell_lt l1
      have hbs := hb.size
      have hm1 : ∀ w : World, (Instr.makeSlice 69 (.int .i64 2) (.int .i64 2)).run Tryz.prog w = .ok (.slice (some ⟨w.heap.size, 0, none⟩) 2 2) (w.alloc (.cells #[.int .i64 0, .int .i64 0] 3)) := fun _ => by kernel_rfl
      have hm2 : ∀ w : World, (Instr.makeSlice 104 (.int .i64 1) (.int .i64 1)).run Tryz.prog w = .ok (.slice (some ⟨w.heap.size, 0, none⟩) 1 1) (w.alloc (.cells #[.bool false] 4)) := fun _ => by kernel_rfl
      clear hL hc hb
      go_wp2_with fail
      go_region
      · generalize hst : (wr.setCell ⟨w2.heap.size, 3, none⟩ (.slice (some ⟨wr.heap.size, 0, none⟩) 2 2)).setCell ⟨w2.heap.size, 4, none⟩ (.slice (some ⟨wr.heap.size + 1, 0, none⟩) 1 1) = Wst
        have hsz : Wst.heap.size = wr.heap.size := by rw [← hst]; simp
        have HLay := Lib.hid (LayAt.made (T := 143) (s := wr.heap.size) (g := wr.heap.size + 1) (W' := ((Wst.alloc (.cells #[.int .i64 0, .int .i64 0] 3)).alloc (.cells #[.bool false] 4)).drew) HLx.out HCx.out hlb (by omega) (by omega) (by omega) hst.symm ((((Below.refl _ _).alloc (Nat.le_refl _) _).alloc (by simp) _).drew) (fun k v hv => by
          match k, hv with
          | 0, hv => simp at hv; rw [← hv]; simp [go_sem, hsz]
          | 1, hv => simp at hv; rw [← hv]; simp [go_sem, hsz]
          | k + 2, hv => simp at hv) (by simp [go_sem, hsz]))
        have HBz : Hid (Below w.heap.size w (((Wst.alloc (.cells #[.int .i64 0, .int .i64 0] 3)).alloc (.cells #[.bool false] 4)).drew)) := by
          have e2 := HB2.out.size
          have h2 : Below w2.heap.size w2 Wst := by rw [← hst]; exact below_at (below_at HBx.out (Nat.le_refl _) _ _) (Nat.le_refl _) _ _
          exact below_next (below_next BB.out (by omega) HB2.out) (by omega) (((h2.alloc (by omega) _).alloc (by simp; omega) _).drew)
        clear hst hsz
        generalize ((Wst.alloc (.cells #[.int .i64 0, .int .i64 0] 3)).alloc (.cells #[.bool false] 4)).drew = Wz at *
        generalize hgx : wr.heap.size + 1 = gx at HLay ⊢
        generalize hsx : wr.heap.size = sx at HLay ⊢
        exact qtail1
      · generalize hst : (wr.setCell ⟨w2.heap.size, 3, none⟩ (.slice (some ⟨wr.heap.size + 1, 0, none⟩) 2 2)).setCell ⟨w2.heap.size, 4, none⟩ (.slice (some ⟨wr.heap.size, 0, none⟩) 1 1) = Wst
        have hsz : Wst.heap.size = wr.heap.size := by rw [← hst]; simp
        have HLay := Lib.hid (LayAt.made (T := 143) (s := wr.heap.size + 1) (g := wr.heap.size) (W' := ((Wst.alloc (.cells #[.bool false] 4)).alloc (.cells #[.int .i64 0, .int .i64 0] 3)).drew) HLx.out HCx.out hlb (by omega) (by omega) (by omega) hst.symm ((((Below.refl _ _).alloc (Nat.le_refl _) _).alloc (by simp) _).drew) (fun k v hv => by
          match k, hv with
          | 0, hv => simp at hv; rw [← hv]; simp [go_sem, hsz]
          | 1, hv => simp at hv; rw [← hv]; simp [go_sem, hsz]
          | k + 2, hv => simp at hv) (by simp [go_sem, hsz]))
        have HBz : Hid (Below w.heap.size w (((Wst.alloc (.cells #[.bool false] 4)).alloc (.cells #[.int .i64 0, .int .i64 0] 3)).drew)) := by
          have e2 := HB2.out.size
          have h2 : Below w2.heap.size w2 Wst := by rw [← hst]; exact below_at (below_at HBx.out (Nat.le_refl _) _ _) (Nat.le_refl _) _ _
          exact below_next (below_next BB.out (by omega) HB2.out) (by omega) (((h2.alloc (by omega) _).alloc (by simp; omega) _).drew)
        clear hst hsz
        generalize ((Wst.alloc (.cells #[.bool false] 4)).alloc (.cells #[.int .i64 0, .int .i64 0] 3)).drew = Wz at *
        generalize hsx : wr.heap.size + 1 = sx at HLay ⊢
        generalize hgx : wr.heap.size = gx at HLay ⊢
        exact qtail1
end Go.Proofs.YtaegpeofecdhfaaGreat
namespace Go.Proofs.YtaegpeofecdhfaaGreat
open Go.RowKit
set_option linter.unusedVariables false
set_option linter.unusedSimpArgs false
section
variable {P : Program} {l : List Oper} {Q : Exit → Act → World → Prop} {md : Region.Mode} {S : World → Prop}
theorem tk (i : Nat) {oi : Oper} {v : Value} {fuel : Nat} {listed : Array Bool} {a a' : Act} {w : World}
    (h : wpAnyH P md l.toArray Q S fuel (listed.setIfInBounds i true) a' w)
    (hi : (l.drop i).head? = some oi := by rfl)
    (hs : Region.noSelect l.toArray = true := by kernel_rfl) (hf : Region.free md l.toArray listed i = true := by kernel_rfl) (hr : (Region.ready md l.toArray listed).contains i = true := by kernel_rfl)
    (hw : Region.wanted oi (yielded l.toArray a.tmps) = true := by rfl)
    (hv : ∀ w, S w → (execOp a.eval oi).run P w = .ok (.value v) w := by (intro w hSw; (try dsimp only at hSw); go_simp; (try with_reducible rfl)))
    (hQ : ∀ c a w, Q (.panic c) (a.put oi.dst v) w → Q (.panic c) a w := by exact fun _ _ _ h => h)
    (hS : S w := by assumption)
    (ha : a.put oi.dst v = a' := by first | (go_frame; done) | (go_frame; rfl) | rfl) : wpAnyH P md l.toArray Q S (fuel + 1) listed a w := by
  subst ha
  exact wpAnyH_takeL i hi hs hf hr hQ (Or.inl ⟨hw, hv⟩) hS h
theorem rd1 (i : Nat) {oi : Oper} {fuel : Nat} {listed : Array Bool} {a : Act} {w : World}
    (h : ∀ K' : Act → World → Prop, Shut (∀ a w, S w → (S w → wpAnyH P md l.toArray Q S fuel (listed.setIfInBounds i true) a w) → K' a w) → if Region.wanted oi (yielded l.toArray a.tmps) = true then Oper.wp P oi a w K' Q else K' (a.put oi.dst undef) w)
    (hi : (l.drop i).head? = some oi := by rfl) (hr : Region.ready md l.toArray listed = [i] := by kernel_rfl) : wpAnyH P md l.toArray Q S (fuel + 1) listed a w :=
  wpAnyH_ready hr (by simp) (AllReadyH_consL i hi h AllReadyH.nil)
end
section
variable {W0 w : World}
end
end Go.Proofs.YtaegpeofecdhfaaGreat
namespace Go.Proofs.YtaegpeofecdhfaaGreat
open Go.RowKit Go.Maps
set_option linter.unusedVariables false
set_option linter.unusedSimpArgs false
theorem Cls.cells {b D : Nat} (hb : b ≠ D) {cs : List Value} : ∀ (vs : List Value) (o : Nat) (w : World), Cls w b cs → Cls (w.setCells D o vs) b cs
  | [], _, _, h => h
  | v :: vs, o, w, h => Cls.cells hb vs (o + 1) _ (h.other hb v)
theorem LayAt.other {T : TypeId} {L b cb s g : Nat} {bv : Value} {s0 s1 : Int} {w : World} (h : LayAt T L b cb s g bv s0 s1 w) {D : Nat} (i : Nat) (hd : D ≠ L ∧ D ≠ b ∧ D ≠ s ∧ D ≠ g) (u : Value) : LayAt T L b cb s g bv s0 s1 (w.setCell ⟨D, i, none⟩ u) := by
  obtain ⟨d1, d2, d3, d4⟩ := hd
  refine ⟨h.hl.other (Ne.symm d1) _, fun k v hv => ?_, h.hs.other (Ne.symm d3) _, ?_, h.hn⟩
  · rw [World.cell?_setCell_other _ _ _ _ (by intro hh; cases hh; exact d2 rfl)]; exact h.hc k v hv
  · rw [World.cell?_setCell_other _ _ _ _ (by intro hh; cases hh; exact d4 rfl)]; exact h.hg
theorem LayAt.lts {T : TypeId} {L b cb s g : Nat} {bv : Value} {s0 s1 : Int} {w : World} (h : LayAt T L b cb s g bv s0 s1 w) : L < w.heap.size ∧ b < w.heap.size ∧ s < w.heap.size ∧ g < w.heap.size := ⟨h.hl.lt (by simp), cell_lt (h.hc 0 _ rfl), h.hs.lt (by simp), cell_lt h.hg⟩
structure EmS (T : TypeId) (L b cb s g : Nat) (bv : Value) (z : Int) (n D O S1 C : Nat) (cs : List Value) (w0 w : World) : Prop where
  lay : LayAt T L b cb s g bv 0 z w
  d : ∃ bs : List Int, bs.length = n ∧ OInts .u8 w D bs
  o : Cls w O [.slice (some ⟨D, 0, none⟩) n n, .slice (some ⟨S1, 0, none⟩) 1 1, .slice none 0 0]
  c : Cls w C cs
  cl : C < w.heap.size
  k : Below w0.heap.size w0 w
  ne : D ≠ L ∧ D ≠ b ∧ D ≠ s ∧ D ≠ g
  no : O ≠ D ∧ C ≠ D ∧ w0.heap.size ≤ D
section
variable {T : TypeId} {L b cb s g : Nat} {bv : Value} {z : Int} {n D O S1 C : Nat} {cs : List Value} {w0 w w' : World}
theorem EmS.below (h : EmS T L b cb s g bv z n D O S1 C cs w0 w) (hb : Below w.heap.size w w') : EmS T L b cb s g bv z n D O S1 C cs w0 w' := by
  obtain ⟨bs, h1, h2⟩ := h.d
  exact ⟨h.lay.below hb, ⟨bs, h1, h2.below hb⟩, h.o.below (h.o.lt (by simp)) hb, h.c.below h.cl hb, Nat.lt_of_lt_of_le h.cl hb.size, below_hop h.k hb, h.ne, h.no⟩
theorem EmS.drew (h : EmS T L b cb s g bv z n D O S1 C cs w0 w) : EmS T L b cb s g bv z n D O S1 C cs w0 w.drew := h.below (below_drewN (Below.refl _ _) 1)
theorem EmS.put (h : EmS T L b cb s g bv z n D O S1 C cs w0 w) {i : Nat} (hi : i < n) (x : Int) : EmS T L b cb s g bv z n D O S1 C cs w0 (w.setCell ⟨D, i, none⟩ (.int .u8 x)) := by
  obtain ⟨bs, h1, h2⟩ := h.d
  exact ⟨h.lay.other i h.ne _, ⟨bs.set i x, by simpa using h1, h2.set (by omega) x⟩, h.o.other h.no.1 _, h.c.other h.no.2.1 _, by simpa using h.cl, below_at h.k h.no.2.2 _ _, h.ne, h.no⟩
theorem EmS.copy : ∀ (bs : List Int) (q : Nat) (w : World), EmS T L b cb s g bv z n D O S1 C cs w0 w → q + bs.length ≤ n → EmS T L b cb s g bv z n D O S1 C cs w0 (w.setCells D q (bs.map (Value.int .u8)))
  | [], _, _, h, _ => h
  | x :: bs, q, w, h, hq => by
    rw [List.length_cons] at hq
    exact EmS.copy bs (q + 1) _ (h.put (by omega) x) (by omega)
theorem EmS.copied (h : EmS T L b cb s g bv z n D O S1 C cs w0 w) {v : Value} {bs : List Int} (hv : Ints .u8 w v bs) (hl : bs.length = n) (ty : TypeId) :
    (Builtin.copy_ #[22, 22] ty #[.slice (some ⟨D, 0, none⟩) n n, v]).run Tryz.prog w = .ok (goInt bs.length) (w.setCells D 0 (bs.map (Value.int .u8))) ∧ EmS T L b cb s g bv z n D O S1 C cs w0 (w.setCells D 0 (bs.map (Value.int .u8))) := by
  obtain ⟨xs, h1, h2⟩ := h.d
  exact ⟨copy_in hv h2 (by omega) (by omega), EmS.copy bs 0 w h (by omega)⟩
theorem EmS.with (h : EmS T L b cb s g bv z n D O S1 C cs w0 w) (hb : Below w.heap.size w w') {C' : Nat} {cs' : List Value} (hc : Cls w' C' cs') (h0 : 0 < cs'.length) (hC : w.heap.size ≤ C') : EmS T L b cb s g bv z n D O S1 C' cs' w0 w' := by
  have h1 := h.below hb
  obtain ⟨bs, h2, h3⟩ := h.d
  have := h3.1
  exact ⟨h1.lay, h1.d, h1.o, hc, hc.lt h0, h1.k, h1.ne, h1.no.1, by omega, h1.no.2.2⟩
end
set_option maxHeartbeats 4000000 in
theorem Emit_0 (b1 b0 : Nat) (w : World) (h : HaltAt w b1 b0) : Calls Tryz.prog 21 #[.int .i64 0, .agg #[.int .i64 0, .slice (some ⟨b1, 0, none⟩) 1 1]] w fun e w' => (∃ D S1, e = .returned (.tuple #[.agg #[.slice (some ⟨D, 0, none⟩) 4 4, .slice (some ⟨S1, 0, none⟩) 1 1, .slice none 0 0], .int .i64 0])) ∧ Below w.heap.size w w' := by
  obtain ⟨W1, hW1⟩ : ∃ W, (w.alloc (.cells #[.int .i64 0, .slice (some ⟨b1, 0, none⟩) 1 1] 46)).alloc (.cells #[.slice none 0 0, .slice none 0 0, .slice none 0 0] 26) = W := ⟨_, rfl⟩
  have BB : Hid (Below w.heap.size w W1) := by rw [← hW1]; exact ((Below.refl _ _).alloc (Nat.le_refl _) _).alloc (by simp) _
  have hs : W1.heap.size = w.heap.size + 2 := by rw [← hW1]; simp
  have p0 : W1.cell? ⟨w.heap.size, 0, none⟩ = some (.int .i64 0) := by rw [← hW1]; simp [go_sem]
  have p1 : W1.cell? ⟨w.heap.size, 1, none⟩ = some (.slice (some ⟨b1, 0, none⟩) 1 1) := by rw [← hW1]; simp [go_sem]
  have HR : Hid (Cls W1 (w.heap.size + 1) [.slice none 0 0, .slice none 0 0, .slice none 0 0]) := by
    refine Lib.hid ?_
    rw [← hW1]
    have := Cls.made (w := w.alloc (.cells #[.int .i64 0, .slice (some ⟨b1, 0, none⟩) 1 1] 46)) (cs := [.slice none 0 0, .slice none 0 0, .slice none 0 0]) (t := 26)
    simpa using this
  have H1 : Hid (HaltAt W1 b1 b0) := h.below BB.out
  have C1 := Lib.hid (layoutOf_0 b1 b0 W1 H1.out)
  have CP := Lib.hid plain_0
  have CB := Lib.hid isBranch_halt
  unfold haltC at CP
  have HS := Lib.hid hs
  have hm := meth_plain0 386
  simp only [String.reducePush, String.reduceAppend, Nat.reduceAdd] at hm
  have hm1 : ∀ w : World, (Instr.makeSlice 22 (.int .i64 4) (.int .i64 4)).run Tryz.prog w = .ok (.slice (some ⟨w.heap.size, 0, none⟩) 4 4) (w.alloc (.cells #[.int .u8 0, .int .u8 0, .int .u8 0, .int .u8 0] 5)) := fun _ => by kernel_rfl
  have HM1 := Lib.hid hm1
  clear h hs hm1
  go_enter Tryz.func21, Tryz.ntmps21
  go_wp2_with (go_at_call 48; with_reducible refine C1.out.mono ?_; rintro e w2 ⟨L, b, cb, s, g, bv, rfl, hlay, hb2⟩; have HL2 := Lib.hid hlay; have HB2 := Lib.hid hb2; have l1 := hlay.hl.at 1 (.slice (some ⟨b, 0, none⟩) 1 cb) rfl; have l3 := hlay.hl.at 3 (.slice (some ⟨s, 0, none⟩) 2 2) rfl; have e1 := hlay.hs.at 1 (.int .i64 4) rfl; have hlL := cell_lt l1; have hls := cell_lt e1; clear hlay hb2 p0 p1)
  go_quiet (fail)
  have hw3 : W1.heap.size ≤ (w2.drewN nq).heap.size := HB2.out.size
  have HL3 : Hid (LayAt 142 L b cb s g bv 0 4 (w2.drewN nq)) := HL2.out.below (below_drewN (Below.refl _ _) _)
  have HB3 : Hid (Below W1.heap.size W1 (w2.drewN nq)) := below_drewN HB2.out _
  clear l1 l3 e1 hls hlL HL2 HB2
  generalize w2.drewN nq = w3 at *
  have hm1 := HM1.out
  go_upto_region 8 with fail
  have HE4 : Hid (EmS 142 L b cb s g bv 4 4 w3.heap.size (w3.heap.size + 2) (w3.heap.size + 1) (w3.heap.size + 2) [.slice (some ⟨w3.heap.size, 0, none⟩) 4 4, .slice (some ⟨w3.heap.size + 1, 0, none⟩) 1 1, .slice none 0 0] W1 (((w3.alloc (.cells #[.int .u8 0, .int .u8 0, .int .u8 0, .int .u8 0] 5)).alloc (.cells #[.int .i64 0, .int .i64 0] 41)).alloc (.cells #[.slice (some ⟨w3.heap.size, 0, none⟩) 4 4, .slice (some ⟨w3.heap.size + 1, 0, none⟩) 1 1, .slice none 0 0] 26))) := by
    have hb4 : Below w3.heap.size w3 (((w3.alloc (.cells #[.int .u8 0, .int .u8 0, .int .u8 0, .int .u8 0] 5)).alloc (.cells #[.int .i64 0, .int .i64 0] 41)).alloc (.cells #[.slice (some ⟨w3.heap.size, 0, none⟩) 4 4, .slice (some ⟨w3.heap.size + 1, 0, none⟩) 1 1, .slice none 0 0] 26)) := (((Below.refl _ _).alloc (Nat.le_refl _) _).alloc (by simp) _).alloc (by simp; omega) _
    obtain ⟨l1, l2, l3, l4⟩ := HL3.out.lts
    have hcl : ∀ {v0 v1 v2 : Value} {w : World}, Cls (w.alloc (.cells #[v0, v1, v2] 26)) w.heap.size [v0, v1, v2] := fun {_ _ _ _} => Cls.made
    have hO : Cls (((w3.alloc (.cells #[.int .u8 0, .int .u8 0, .int .u8 0, .int .u8 0] 5)).alloc (.cells #[.int .i64 0, .int .i64 0] 41)).alloc (.cells #[.slice (some ⟨w3.heap.size, 0, none⟩) 4 4, .slice (some ⟨w3.heap.size + 1, 0, none⟩) 1 1, .slice none 0 0] 26)) (w3.heap.size + 2) [.slice (some ⟨w3.heap.size, 0, none⟩) 4 4, .slice (some ⟨w3.heap.size + 1, 0, none⟩) 1 1, .slice none 0 0] := by
      have := @hcl (.slice (some ⟨w3.heap.size, 0, none⟩) 4 4) (.slice (some ⟨w3.heap.size + 1, 0, none⟩) 1 1) (.slice none 0 0) ((w3.alloc (.cells #[.int .u8 0, .int .u8 0, .int .u8 0, .int .u8 0] 5)).alloc (.cells #[.int .i64 0, .int .i64 0] 41))
      simpa using this
    refine ⟨HL3.out.below hb4, ⟨List.replicate 4 0, rfl, by simp; omega, fun i hi => ?_⟩, hO, hO, by simp, below_next HB3.out hw3 hb4, ⟨by omega, by omega, by omega, by omega⟩, by omega, by omega, hw3⟩
    have hi' : i = 0 ∨ i = 1 ∨ i = 2 ∨ i = 3 := by simp at hi; omega
    rcases hi' with rfl | rfl | rfl | rfl <;> simp [go_sem]
  have HS1 : Hid (w.heap.size + 1 < W1.heap.size) := Lib.hid (by have := HS.out; omega)
  generalize ((w3.alloc (.cells #[.int .u8 0, .int .u8 0, .int .u8 0, .int .u8 0] 5)).alloc (.cells #[.int .i64 0, .int .i64 0] 41)).alloc (.cells #[.slice (some ⟨w3.heap.size, 0, none⟩) 4 4, .slice (some ⟨w3.heap.size + 1, 0, none⟩) 1 1, .slice none 0 0] 26) = w4 at *
  have l1 := HE4.out.lay.hl.at 1 (.slice (some ⟨b, 0, none⟩) 1 cb) rfl
  rw [show w3.heap.size + 1 + 1 = w3.heap.size + 2 from rfl]
  generalize w3.heap.size + 2 = O at *
  generalize w3.heap.size + 1 = S1 at *
  generalize w3.heap.size = D at *
  clear hm1 HM1 hw3
  go_wp2_with fail
  clear l1
  go_loopw [10, 11, 46] (fun _ _ i wr => ∃ j : Int, (j = 0 ∨ j = 1) ∧ i = .int .i64 j ∧ ∃ C cs, EmS 142 L b cb s g bv 4 4 D O S1 C cs W1 wr) (fun _ _ i _ => 1 - (intOf i).toNat)
  case atStart => exact ⟨0, .inl rfl, rfl, _, _, HE4.out⟩
  case round =>
    obtain ⟨j, hj, rfl, C, cs, he⟩ := hrel
    have HE := Lib.hid he
    rcases hj with rfl | rfl
    · have c0 := he.lay.hc 0 (.int .i64 26) rfl
      have c1 := he.lay.hc 1 (.int .i64 0) rfl
      have c2 := he.lay.hc 2 (.int .i64 0) rfl
      have c3 := he.lay.hc 3 (.int .i64 0) rfl
      have c4 := he.lay.hc 4 (.int .u32 0) rfl
      have c5 := he.lay.hc 5 (.int .i64 0) rfl
      have hbl := cell_lt c0
      have hne : ¬ b = wr.heap.size := by omega
      clear he
      go_upto_region 11 with fail
      generalize hW6 : wr.alloc (.cells #[.int .i64 26, .int .i64 0, .int .i64 0, .int .i64 0, .int .u32 0, .int .i64 0] 76) = W6
      have HE6 : Hid (EmS 142 L b cb s g bv 4 4 D O S1 wr.heap.size haltL W1 W6) := by
        rw [← hW6]
        exact HE.out.with ((Below.refl _ _).alloc (Nat.le_refl _) _) Cls.made (by simp [haltL]) (Nat.le_refl _)
      clear hW6 c0 c1 c2 c3 c4 c5
      have k0 := HE6.out.c.at 0 (.int .i64 26) rfl
      go_wp2_with (go_at_call 49; with_reducible refine (CB.out _).mono ?_; rintro e w' ⟨rfl, rfl⟩)
      clear k0
      have hE6 := HE6.out
      have r0 : ∀ wk, EmS 142 L b cb s g bv 4 4 D O S1 wr.heap.size haltL W1 wk → wk.cell? ⟨O, 0, none⟩ = some (.slice (some ⟨D, 0, none⟩) 4 4) := fun wk h => h.o.at 0 _ rfl
      have r1 : ∀ wk, EmS 142 L b cb s g bv 4 4 D O S1 wr.heap.size haltL W1 wk → wk.cell? ⟨L, 3, none⟩ = some (.slice (some ⟨s, 0, none⟩) 2 2) := fun wk h => h.lay.hl.at 3 _ rfl
      have r2 : ∀ wk, EmS 142 L b cb s g bv 4 4 D O S1 wr.heap.size haltL W1 wk → wk.cell? ⟨L, 0, none⟩ = some (.iface 142 (.agg #[])) := fun wk h => h.lay.hl.at 0 _ rfl
      have r3 : ∀ wk, EmS 142 L b cb s g bv 4 4 D O S1 wr.heap.size haltL W1 wk → wk.cell? ⟨s, 0, none⟩ = some (.int .i64 0) := fun wk h => h.lay.hs.at 0 _ rfl
      have q0 : ∀ wk, EmS 142 L b cb s g bv 4 4 D O S1 wr.heap.size haltL W1 wk → wk.cell? ⟨wr.heap.size, 0, none⟩ = some (.int .i64 26) := fun wk h => h.c.at 0 _ rfl
      have q1 : ∀ wk, EmS 142 L b cb s g bv 4 4 D O S1 wr.heap.size haltL W1 wk → wk.cell? ⟨wr.heap.size, 1, none⟩ = some (.int .i64 0) := fun wk h => h.c.at 1 _ rfl
      have q2 : ∀ wk, EmS 142 L b cb s g bv 4 4 D O S1 wr.heap.size haltL W1 wk → wk.cell? ⟨wr.heap.size, 2, none⟩ = some (.int .i64 0) := fun wk h => h.c.at 2 _ rfl
      have q3 : ∀ wk, EmS 142 L b cb s g bv 4 4 D O S1 wr.heap.size haltL W1 wk → wk.cell? ⟨wr.heap.size, 3, none⟩ = some (.int .i64 0) := fun wk h => h.c.at 3 _ rfl
      have q4 : ∀ wk, EmS 142 L b cb s g bv 4 4 D O S1 wr.heap.size haltL W1 wk → wk.cell? ⟨wr.heap.size, 4, none⟩ = some (.int .u32 0) := fun wk h => h.c.at 4 _ rfl
      have q5 : ∀ wk, EmS 142 L b cb s g bv 4 4 D O S1 wr.heap.size haltL W1 wk → wk.cell? ⟨wr.heap.size, 5, none⟩ = some (.int .i64 0) := fun wk h => h.c.at 5 _ rfl
      refine wp_region_held_drew (S := (EmS 142 L b cb s g bv 4 4 D O S1 wr.heap.size haltL W1)) (by kernel_rfl) ?_ (fun hHeld => ?_)
      · (first | assumption | exact EmS.drew (by assumption))
      refine tk 0 ?_; refine tk 1 ?_; refine tk 2 ?_; refine tk 3 ?_; refine tk 4 ?_; refine tk 5 ?_; refine tk 6 ?_; refine tk 7 ?_
      refine tk 8 ?_; refine tk 9 ?_; refine tk 10 ?_; refine tk 11 ?_; refine tk 12 ?_; refine tk 13 ?_; refine tk 14 ?_
      refine rd1 15 (fun K hK => ?_)
      (go_simp; (go_at_call 267; with_reducible refine (CP.out _).mono ?_); rintro e w3 ⟨v3, rfl, hr3, hb3⟩; have hsz3 := hr3.ints (by simp); have hs3 := EmS.below (by assumption) hb3)
      refine hK.out _ _ ?_ (fun hHeld => ?_)
      · (first | assumption | exact EmS.drew (by assumption))
      clear hK K
      try go_frame
      refine rd1 16 (fun K hK => ?_)
      (obtain ⟨hcpy, hs4⟩ := EmS.copied (by assumption) hsz3 (by rfl) 3; go_simp)
      refine hK.out _ _ ?_ (fun hHeld => ?_)
      · (first | assumption | exact EmS.drew (by assumption))
      clear hK K
      try go_frame
      refine wpAnyH_done (by kernel_rfl) ?_ _
      have HF := Lib.hid hs4
      clear hs4 hcpy r0 r1 r2 r3 q0 q1 q2 q3 q4 q5 hE6
      go_wp2_with fail
      go_roundw
      case rel => exact ⟨1, .inr rfl, rfl, _, _, HF.out⟩
      case measure => simp [intOf]
    · have r0 := he.o.at 0 (.slice (some ⟨D, 0, none⟩) 4 4) rfl
      have r1 := he.o.at 1 (.slice (some ⟨S1, 0, none⟩) 1 1) rfl
      have r2 := he.o.at 2 (.slice none 0 0) rfl
      have HRr : Hid (Cls wr (w.heap.size + 1) [.slice none 0 0, .slice none 0 0, .slice none 0 0]) := HR.out.below HS1.out he.k
      have t0 := HRr.out.at 0 _ rfl
      have t1 := HRr.out.at 1 _ rfl
      have t2 := HRr.out.at 2 _ rfl
      have g0 := HRr.out.at' 0 _ rfl
      have g1 := HRr.out.at' 1 _ rfl
      have g2 := HRr.out.at' 2 _ rfl
      have HBW : Hid (Below w.heap.size w wr) := below_next BB.out BB.out.size he.k
      clear he
      go_wp2_with fail
      refine bodyPost_ret (v := .tuple #[.agg #[.slice (some ⟨D, 0, none⟩) 4 4, .slice (some ⟨S1, 0, none⟩) 1 1, .slice none 0 0], .int .i64 0]) (Cls.res2 (cs := [.slice (some ⟨D, 0, none⟩) 4 4, .slice (some ⟨S1, 0, none⟩) 1 1, .slice none 0 0]) (((HRr.out.set (k := 0) (by simp) _).set (k := 1) (by simp) _).set (k := 2) (by simp) _) rfl rfl rfl Tryz.underlying26 rfl (by kernel_rfl)) rfl ⟨⟨D, S1, rfl⟩, below_at (below_at (below_at HBW.out (by omega) _ _) (by omega) _ _) (by omega) _ _⟩
end Go.Proofs.YtaegpeofecdhfaaGreat
