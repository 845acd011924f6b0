/- What the kind of an operation promises, and that each kind keeps it. -/
import Derived.Test.YtdojafpjipcbjaaF5
namespace Go.Proofs.Ytdojafpjipcbjaa
open Go.RowKit
set_option linter.unusedVariables false
set_option linter.unusedSimpArgs false
theorem ints_blk {w : World} {g : Nat} {cs : Array Value} {t : TypeId} {k : IntKind} {xs : List Int} (h : blk w g cs t) (hc : cs.toList = xs.map (Value.int k)) (hl : xs.length ≤ 1000) : Ints k w (.slice (some ⟨g, 0, none⟩) xs.length xs.length) xs := by
  refine ⟨some ⟨g, 0, none⟩, xs.length, rfl, Nat.le_refl _, ⟨by omega, by omega⟩, (fun h => by cases h), fun i hi => ⟨g, 0, rfl, blk_lt h, ?_⟩⟩
  show w.cell? ⟨g, 0 + i * 1, none⟩ = some (.int k (xs.getD i 0))
  rw [Nat.mul_one, Nat.zero_add, blk_cell h, ← Array.getElem?_toList, hc, List.getElem?_map, List.getD_eq_getElem?_getD, List.getElem?_eq_getElem hi]
  rfl
/-- What a kind of the operation o promises, whatever is written elsewhere; base: where its blocks begin. -/
def Knd (base : Nat) (w : World) (k : Value) (o : Int) : Prop :=
  ∃ (FF WW : FuncId) (cF cW : Array Value) (g : Nat) (T : Nat → Prop), k = .agg #[.func (.func FF) #[] cF, .slice (some ⟨g, 0, none⟩) (szI o).length (szI o).length, .func (.func WW) #[] cW] ∧
    (∀ (args : Array Value) (w : World), (callFunc FF args).run Try.prog w = .ok (.enter FF args) w) ∧ (∀ (args : Array Value) (w : World), (callFunc WW args).run Try.prog w = .ok (.enter WW args) w) ∧
    (∀ b, T b → base ≤ b ∧ b < w.heap.size) ∧ ∀ wk : World, w.heap.size ≤ wk.heap.size → (∀ b, T b → wk.heap[b]? = w.heap[b]?) →
      Ints .i64 wk (.slice (some ⟨g, 0, none⟩) (szI o).length (szI o).length) (szI o) ∧
      (∀ x : Ins, x.o = o → x.z ∈ szI o → Calls Try.prog FF (#[InsV x] ++ cF) wk fun e w' => e = .returned (.bool (fitI x)) ∧ Below wk.heap.size wk w') ∧
      (∀ x : Ins, x.o = o → okI x = true → Calls Try.prog WW (#[InsV x] ++ cW) wk fun e w' => ∃ v, e = .returned v ∧ RowI w' wk.heap.size 5 .u8 v (bodyI x) ∧ Below wk.heap.size wk w')
theorem Knd.keep {base : Nat} {w w' : World} {k : Value} {o : Int} (h : Knd base w k o) (hs : w.heap.size ≤ w'.heap.size) (hk : ∀ b, base ≤ b → b < w.heap.size → w'.heap[b]? = w.heap[b]?) : Knd base w' k o := by
  obtain ⟨F, W, cF, cW, g, T, h1, h2, h3, h4, h5⟩ := h
  refine ⟨F, W, cF, cW, g, T, h1, h2, h3, fun b hb => ⟨(h4 b hb).1, by have := (h4 b hb).2; omega⟩, fun wk hz hT => h5 wk (by omega) fun b hb => ?_⟩
  rw [hT b hb, hk b (h4 b hb).1 (h4 b hb).2]
theorem Knd.mono {base base' : Nat} {w : World} {k : Value} {o : Int} (h : Knd base w k o) (hb : base' ≤ base) : Knd base' w k o := by
  obtain ⟨F, W, cF, cW, g, T, h1, h2, h3, h4, h5⟩ := h
  exact ⟨F, W, cF, cW, g, T, h1, h2, h3, fun b hb' => ⟨by have := (h4 b hb').1; omega, (h4 b hb').2⟩, h5⟩
theorem Knd.below {base : Nat} {w w' : World} {k : Value} {o : Int} (h : Knd base w k o) (hb : Below w.heap.size w w') : Knd base w' k o := h.keep hb.size fun b _ hl => hb.block b hl
theorem knd_0 (base : Nat) (w : World) (g b : Nat) (hg : blk w g #[.int .i64 32, .int .i64 16] 3) (hb : blk w b #[.int .u8 137] 5) (lg : base ≤ g) (lb : base ≤ b) : Knd base w (.agg #[.func (.func 111) #[] #[], .slice (some ⟨g, 0, none⟩) 2 2, .func (.func 112) #[] #[.pointer (some ⟨b, 0, none⟩)]]) 0 := by
  refine ⟨111, 112, #[], #[.pointer (some ⟨b, 0, none⟩)], g, fun x => x = g ∨ x = b, rfl, fun _ _ => by kernel_rfl, fun _ _ => by kernel_rfl, ?_, ?_⟩
  · rintro x (rfl | rfl)
    · exact ⟨lg, blk_lt hg⟩
    · exact ⟨lb, blk_lt hb⟩
  · intro wk hs hT
    have kg := hT g (.inl rfl)
    have bg : blk wk g #[.int .i64 32, .int .i64 16] 3 := by unfold blk at hg ⊢; rw [kg]; exact hg
    have kb := hT b (.inr (rfl))
    have bb : blk wk b #[.int .u8 137] 5 := by unfold blk at hb ⊢; rw [kb]; exact hb
    refine ⟨ints_blk (xs := [32, 16]) bg rfl (by decide), fun x hx hz => ?_, fun x hx hok => ?_⟩
    · obtain ⟨o, d, s, z, i⟩ := x
      simp only at hx
      subst hx
      exact fit_pair 0 d s z i wk
    · have hf := ok_fit hok
      have hz := ok_sz hok
      clear hok
      obtain ⟨o, d, s, z, i⟩ := x
      simp only at hx
      subst hx
      exact wr_pair 0 d s z i 137 b wk (blk_cell bb 0)
theorem knd_1 (base : Nat) (w : World) (g : Nat) (hg : blk w g #[.int .i64 32, .int .i64 16] 3) (lg : base ≤ g) : Knd base w (.agg #[.func (.func 74) #[] #[], .slice (some ⟨g, 0, none⟩) 2 2, .func (.func 77) #[] #[]]) 1 := by
  refine ⟨74, 77, #[], #[], g, fun x => x = g, rfl, fun _ _ => by kernel_rfl, fun _ _ => by kernel_rfl, ?_, ?_⟩
  · rintro x rfl
    exact ⟨lg, blk_lt hg⟩
  · intro wk hs hT
    have kg := hT g (rfl)
    have bg : blk wk g #[.int .i64 32, .int .i64 16] 3 := by unfold blk at hg ⊢; rw [kg]; exact hg
    refine ⟨ints_blk (xs := [32, 16]) bg rfl (by decide), fun x hx hz => ?_, fun x hx hok => ?_⟩
    · obtain ⟨o, d, s, z, i⟩ := x
      simp only at hx
      subst hx
      simp [szI] at hz
      rcases hz with rfl | rfl
      · exact fit_movi_32 1 d s i wk
      · exact fit_movi_16 1 d s i wk
    · have hf := ok_fit hok
      have hz := ok_sz hok
      clear hok
      obtain ⟨o, d, s, z, i⟩ := x
      simp only at hx
      subst hx
      simp [szI] at hz
      simp [fitI, isR, inZ] at hf
      have p32 : pwZ 32 = 4294967296 := rfl
      have p16 : pwZ 16 = 65536 := rfl
      rcases hz with rfl | rfl
      · exact wr_movi_32 1 d s i wk ⟨by omega, by omega⟩
      · exact wr_movi_16 1 d s i wk ⟨by omega, by omega⟩
theorem knd_2 (base : Nat) (w : World) (g b go : Nat) (hg : blk w g #[.int .i64 32, .int .i64 16] 3) (hb : blk w b #[.slice (some ⟨go, 0, none⟩) 1 1] 22) (hgo : blk w go #[.int .u8 139] 5) (lg : base ≤ g) (lb : base ≤ b) (lgo : base ≤ go) : Knd base w (.agg #[.func (.func 113) #[] #[], .slice (some ⟨g, 0, none⟩) 2 2, .func (.func 116) #[] #[.pointer (some ⟨b, 0, none⟩)]]) 2 := by
  refine ⟨113, 116, #[], #[.pointer (some ⟨b, 0, none⟩)], g, fun x => x = g ∨ x = b ∨ x = go, rfl, fun _ _ => by kernel_rfl, fun _ _ => by kernel_rfl, ?_, ?_⟩
  · rintro x (rfl | rfl | rfl)
    · exact ⟨lg, blk_lt hg⟩
    · exact ⟨lb, blk_lt hb⟩
    · exact ⟨lgo, blk_lt hgo⟩
  · intro wk hs hT
    have kg := hT g (.inl rfl)
    have bg : blk wk g #[.int .i64 32, .int .i64 16] 3 := by unfold blk at hg ⊢; rw [kg]; exact hg
    have kb := hT b (.inr (.inl rfl))
    have bb : blk wk b #[.slice (some ⟨go, 0, none⟩) 1 1] 22 := by unfold blk at hb ⊢; rw [kb]; exact hb
    have kgo := hT go (.inr (.inr (rfl)))
    have bgo : blk wk go #[.int .u8 139] 5 := by unfold blk at hgo ⊢; rw [kgo]; exact hgo
    refine ⟨ints_blk (xs := [32, 16]) bg rfl (by decide), fun x hx hz => ?_, fun x hx hok => ?_⟩
    · obtain ⟨o, d, s, z, i⟩ := x
      simp only at hx
      subst hx
      exact fit_load 2 d s z i wk
    · have hf := ok_fit hok
      have hz := ok_sz hok
      clear hok
      obtain ⟨o, d, s, z, i⟩ := x
      simp only at hx
      subst hx
      simp [fitI, fitJ, isR, isM, isL, isC, isB, isW4] at hf
      exact wr_load 2 d s z i _ [139] b wk (blk_cell bb 0) (ints_blk (xs := [139]) bgo rfl (by decide)) (by decide) (by decide) ⟨by omega, by omega⟩
theorem knd_3 (base : Nat) (w : World) (g b b2 : Nat) (hg : blk w g #[.int .i64 32, .int .i64 16] 3) (hb : blk w b #[.int .u8 137] 5) (hb2 : blk w b2 #[.func (.func 75) #[] #[]] 68) (lg : base ≤ g) (lb : base ≤ b) (lb2 : base ≤ b2) : Knd base w (.agg #[.func (.func 119) #[] #[.pointer (some ⟨b2, 0, none⟩)], .slice (some ⟨g, 0, none⟩) 2 2, .func (.func 120) #[] #[.pointer (some ⟨b, 0, none⟩)]]) 3 := by
  refine ⟨119, 120, #[.pointer (some ⟨b2, 0, none⟩)], #[.pointer (some ⟨b, 0, none⟩)], g, fun x => x = g ∨ x = b ∨ x = b2, rfl, fun _ _ => by kernel_rfl, fun _ _ => by kernel_rfl, ?_, ?_⟩
  · rintro x (rfl | rfl | rfl)
    · exact ⟨lg, blk_lt hg⟩
    · exact ⟨lb, blk_lt hb⟩
    · exact ⟨lb2, blk_lt hb2⟩
  · intro wk hs hT
    have kg := hT g (.inl rfl)
    have bg : blk wk g #[.int .i64 32, .int .i64 16] 3 := by unfold blk at hg ⊢; rw [kg]; exact hg
    have kb := hT b (.inr (.inl rfl))
    have bb : blk wk b #[.int .u8 137] 5 := by unfold blk at hb ⊢; rw [kb]; exact hb
    have kb2 := hT b2 (.inr (.inr (rfl)))
    have bb2 : blk wk b2 #[.func (.func 75) #[] #[]] 68 := by unfold blk at hb2 ⊢; rw [kb2]; exact hb2
    refine ⟨ints_blk (xs := [32, 16]) bg rfl (by decide), fun x hx hz => ?_, fun x hx hok => ?_⟩
    · obtain ⟨o, d, s, z, i⟩ := x
      simp only at hx
      subst hx
      exact fit_storeR 3 d s z i b2 wk (blk_cell bb2 0)
    · have hf := ok_fit hok
      have hz := ok_sz hok
      clear hok
      obtain ⟨o, d, s, z, i⟩ := x
      simp only at hx
      subst hx
      simp [fitI, fitJ, isR, isM, isL, isC, isB, isW4] at hf
      exact wr_store 3 d s z i 137 b wk (blk_cell bb 0) ⟨by omega, by omega⟩
theorem knd_4 (base : Nat) (w : World) (g b go : Nat) (hg : blk w g #[.int .i64 32] 3) (hb : blk w b #[.slice (some ⟨go, 0, none⟩) 2 2] 22) (hgo : blk w go #[.int .u8 15, .int .u8 182] 5) (lg : base ≤ g) (lb : base ≤ b) (lgo : base ≤ go) : Knd base w (.agg #[.func (.func 113) #[] #[], .slice (some ⟨g, 0, none⟩) 1 1, .func (.func 116) #[] #[.pointer (some ⟨b, 0, none⟩)]]) 4 := by
  refine ⟨113, 116, #[], #[.pointer (some ⟨b, 0, none⟩)], g, fun x => x = g ∨ x = b ∨ x = go, rfl, fun _ _ => by kernel_rfl, fun _ _ => by kernel_rfl, ?_, ?_⟩
  · rintro x (rfl | rfl | rfl)
    · exact ⟨lg, blk_lt hg⟩
    · exact ⟨lb, blk_lt hb⟩
    · exact ⟨lgo, blk_lt hgo⟩
  · intro wk hs hT
    have kg := hT g (.inl rfl)
    have bg : blk wk g #[.int .i64 32] 3 := by unfold blk at hg ⊢; rw [kg]; exact hg
    have kb := hT b (.inr (.inl rfl))
    have bb : blk wk b #[.slice (some ⟨go, 0, none⟩) 2 2] 22 := by unfold blk at hb ⊢; rw [kb]; exact hb
    have kgo := hT go (.inr (.inr (rfl)))
    have bgo : blk wk go #[.int .u8 15, .int .u8 182] 5 := by unfold blk at hgo ⊢; rw [kgo]; exact hgo
    refine ⟨ints_blk (xs := [32]) bg rfl (by decide), fun x hx hz => ?_, fun x hx hok => ?_⟩
    · obtain ⟨o, d, s, z, i⟩ := x
      simp only at hx
      subst hx
      exact fit_load 4 d s z i wk
    · have hf := ok_fit hok
      have hz := ok_sz hok
      clear hok
      obtain ⟨o, d, s, z, i⟩ := x
      simp only at hx
      subst hx
      simp [fitI, fitJ, isR, isM, isL, isC, isB, isW4] at hf
      exact wr_load 4 d s z i _ [15, 182] b wk (blk_cell bb 0) (ints_blk (xs := [15, 182]) bgo rfl (by decide)) (by decide) (by decide) ⟨by omega, by omega⟩
theorem knd_5 (base : Nat) (w : World) (g b go : Nat) (hg : blk w g #[.int .i64 32] 3) (hb : blk w b #[.slice (some ⟨go, 0, none⟩) 2 2] 22) (hgo : blk w go #[.int .u8 15, .int .u8 183] 5) (lg : base ≤ g) (lb : base ≤ b) (lgo : base ≤ go) : Knd base w (.agg #[.func (.func 113) #[] #[], .slice (some ⟨g, 0, none⟩) 1 1, .func (.func 116) #[] #[.pointer (some ⟨b, 0, none⟩)]]) 5 := by
  refine ⟨113, 116, #[], #[.pointer (some ⟨b, 0, none⟩)], g, fun x => x = g ∨ x = b ∨ x = go, rfl, fun _ _ => by kernel_rfl, fun _ _ => by kernel_rfl, ?_, ?_⟩
  · rintro x (rfl | rfl | rfl)
    · exact ⟨lg, blk_lt hg⟩
    · exact ⟨lb, blk_lt hb⟩
    · exact ⟨lgo, blk_lt hgo⟩
  · intro wk hs hT
    have kg := hT g (.inl rfl)
    have bg : blk wk g #[.int .i64 32] 3 := by unfold blk at hg ⊢; rw [kg]; exact hg
    have kb := hT b (.inr (.inl rfl))
    have bb : blk wk b #[.slice (some ⟨go, 0, none⟩) 2 2] 22 := by unfold blk at hb ⊢; rw [kb]; exact hb
    have kgo := hT go (.inr (.inr (rfl)))
    have bgo : blk wk go #[.int .u8 15, .int .u8 183] 5 := by unfold blk at hgo ⊢; rw [kgo]; exact hgo
    refine ⟨ints_blk (xs := [32]) bg rfl (by decide), fun x hx hz => ?_, fun x hx hok => ?_⟩
    · obtain ⟨o, d, s, z, i⟩ := x
      simp only at hx
      subst hx
      exact fit_load 5 d s z i wk
    · have hf := ok_fit hok
      have hz := ok_sz hok
      clear hok
      obtain ⟨o, d, s, z, i⟩ := x
      simp only at hx
      subst hx
      simp [fitI, fitJ, isR, isM, isL, isC, isB, isW4] at hf
      exact wr_load 5 d s z i _ [15, 183] b wk (blk_cell bb 0) (ints_blk (xs := [15, 183]) bgo rfl (by decide)) (by decide) (by decide) ⟨by omega, by omega⟩
theorem knd_6 (base : Nat) (w : World) (g b b2 : Nat) (hg : blk w g #[.int .i64 32] 3) (hb : blk w b #[.int .u8 136] 5) (hb2 : blk w b2 #[.func (.func 82) #[] #[]] 68) (lg : base ≤ g) (lb : base ≤ b) (lb2 : base ≤ b2) : Knd base w (.agg #[.func (.func 119) #[] #[.pointer (some ⟨b2, 0, none⟩)], .slice (some ⟨g, 0, none⟩) 1 1, .func (.func 120) #[] #[.pointer (some ⟨b, 0, none⟩)]]) 6 := by
  refine ⟨119, 120, #[.pointer (some ⟨b2, 0, none⟩)], #[.pointer (some ⟨b, 0, none⟩)], g, fun x => x = g ∨ x = b ∨ x = b2, rfl, fun _ _ => by kernel_rfl, fun _ _ => by kernel_rfl, ?_, ?_⟩
  · rintro x (rfl | rfl | rfl)
    · exact ⟨lg, blk_lt hg⟩
    · exact ⟨lb, blk_lt hb⟩
    · exact ⟨lb2, blk_lt hb2⟩
  · intro wk hs hT
    have kg := hT g (.inl rfl)
    have bg : blk wk g #[.int .i64 32] 3 := by unfold blk at hg ⊢; rw [kg]; exact hg
    have kb := hT b (.inr (.inl rfl))
    have bb : blk wk b #[.int .u8 136] 5 := by unfold blk at hb ⊢; rw [kb]; exact hb
    have kb2 := hT b2 (.inr (.inr (rfl)))
    have bb2 : blk wk b2 #[.func (.func 82) #[] #[]] 68 := by unfold blk at hb2 ⊢; rw [kb2]; exact hb2
    refine ⟨ints_blk (xs := [32]) bg rfl (by decide), fun x hx hz => ?_, fun x hx hok => ?_⟩
    · obtain ⟨o, d, s, z, i⟩ := x
      simp only at hx
      subst hx
      exact fit_storeL 6 d s z i b2 wk (blk_cell bb2 0)
    · have hf := ok_fit hok
      have hz := ok_sz hok
      clear hok
      obtain ⟨o, d, s, z, i⟩ := x
      simp only at hx
      subst hx
      simp [fitI, fitJ, isR, isM, isL, isC, isB, isW4] at hf
      exact wr_store 6 d s z i 136 b wk (blk_cell bb 0) ⟨by omega, by omega⟩
theorem knd_7 (base : Nat) (w : World) (g b : Nat) (hg : blk w g #[.int .i64 32, .int .i64 16] 3) (hb : blk w b #[.int .u8 1] 5) (lg : base ≤ g) (lb : base ≤ b) : Knd base w (.agg #[.func (.func 111) #[] #[], .slice (some ⟨g, 0, none⟩) 2 2, .func (.func 112) #[] #[.pointer (some ⟨b, 0, none⟩)]]) 7 := by
  refine ⟨111, 112, #[], #[.pointer (some ⟨b, 0, none⟩)], g, fun x => x = g ∨ x = b, rfl, fun _ _ => by kernel_rfl, fun _ _ => by kernel_rfl, ?_, ?_⟩
  · rintro x (rfl | rfl)
    · exact ⟨lg, blk_lt hg⟩
    · exact ⟨lb, blk_lt hb⟩
  · intro wk hs hT
    have kg := hT g (.inl rfl)
    have bg : blk wk g #[.int .i64 32, .int .i64 16] 3 := by unfold blk at hg ⊢; rw [kg]; exact hg
    have kb := hT b (.inr (rfl))
    have bb : blk wk b #[.int .u8 1] 5 := by unfold blk at hb ⊢; rw [kb]; exact hb
    refine ⟨ints_blk (xs := [32, 16]) bg rfl (by decide), fun x hx hz => ?_, fun x hx hok => ?_⟩
    · obtain ⟨o, d, s, z, i⟩ := x
      simp only at hx
      subst hx
      exact fit_pair 7 d s z i wk
    · have hf := ok_fit hok
      have hz := ok_sz hok
      clear hok
      obtain ⟨o, d, s, z, i⟩ := x
      simp only at hx
      subst hx
      exact wr_pair 7 d s z i 1 b wk (blk_cell bb 0)
theorem knd_8 (base : Nat) (w : World) (g b : Nat) (hg : blk w g #[.int .i64 32, .int .i64 16] 3) (hb : blk w b #[.int .u8 9] 5) (lg : base ≤ g) (lb : base ≤ b) : Knd base w (.agg #[.func (.func 111) #[] #[], .slice (some ⟨g, 0, none⟩) 2 2, .func (.func 112) #[] #[.pointer (some ⟨b, 0, none⟩)]]) 8 := by
  refine ⟨111, 112, #[], #[.pointer (some ⟨b, 0, none⟩)], g, fun x => x = g ∨ x = b, rfl, fun _ _ => by kernel_rfl, fun _ _ => by kernel_rfl, ?_, ?_⟩
  · rintro x (rfl | rfl)
    · exact ⟨lg, blk_lt hg⟩
    · exact ⟨lb, blk_lt hb⟩
  · intro wk hs hT
    have kg := hT g (.inl rfl)
    have bg : blk wk g #[.int .i64 32, .int .i64 16] 3 := by unfold blk at hg ⊢; rw [kg]; exact hg
    have kb := hT b (.inr (rfl))
    have bb : blk wk b #[.int .u8 9] 5 := by unfold blk at hb ⊢; rw [kb]; exact hb
    refine ⟨ints_blk (xs := [32, 16]) bg rfl (by decide), fun x hx hz => ?_, fun x hx hok => ?_⟩
    · obtain ⟨o, d, s, z, i⟩ := x
      simp only at hx
      subst hx
      exact fit_pair 8 d s z i wk
    · have hf := ok_fit hok
      have hz := ok_sz hok
      clear hok
      obtain ⟨o, d, s, z, i⟩ := x
      simp only at hx
      subst hx
      exact wr_pair 8 d s z i 9 b wk (blk_cell bb 0)
theorem knd_9 (base : Nat) (w : World) (g b : Nat) (hg : blk w g #[.int .i64 32, .int .i64 16] 3) (hb : blk w b #[.int .u8 33] 5) (lg : base ≤ g) (lb : base ≤ b) : Knd base w (.agg #[.func (.func 111) #[] #[], .slice (some ⟨g, 0, none⟩) 2 2, .func (.func 112) #[] #[.pointer (some ⟨b, 0, none⟩)]]) 9 := by
  refine ⟨111, 112, #[], #[.pointer (some ⟨b, 0, none⟩)], g, fun x => x = g ∨ x = b, rfl, fun _ _ => by kernel_rfl, fun _ _ => by kernel_rfl, ?_, ?_⟩
  · rintro x (rfl | rfl)
    · exact ⟨lg, blk_lt hg⟩
    · exact ⟨lb, blk_lt hb⟩
  · intro wk hs hT
    have kg := hT g (.inl rfl)
    have bg : blk wk g #[.int .i64 32, .int .i64 16] 3 := by unfold blk at hg ⊢; rw [kg]; exact hg
    have kb := hT b (.inr (rfl))
    have bb : blk wk b #[.int .u8 33] 5 := by unfold blk at hb ⊢; rw [kb]; exact hb
    refine ⟨ints_blk (xs := [32, 16]) bg rfl (by decide), fun x hx hz => ?_, fun x hx hok => ?_⟩
    · obtain ⟨o, d, s, z, i⟩ := x
      simp only at hx
      subst hx
      exact fit_pair 9 d s z i wk
    · have hf := ok_fit hok
      have hz := ok_sz hok
      clear hok
      obtain ⟨o, d, s, z, i⟩ := x
      simp only at hx
      subst hx
      exact wr_pair 9 d s z i 33 b wk (blk_cell bb 0)
theorem knd_10 (base : Nat) (w : World) (g b : Nat) (hg : blk w g #[.int .i64 32, .int .i64 16] 3) (hb : blk w b #[.int .u8 41] 5) (lg : base ≤ g) (lb : base ≤ b) : Knd base w (.agg #[.func (.func 111) #[] #[], .slice (some ⟨g, 0, none⟩) 2 2, .func (.func 112) #[] #[.pointer (some ⟨b, 0, none⟩)]]) 10 := by
  refine ⟨111, 112, #[], #[.pointer (some ⟨b, 0, none⟩)], g, fun x => x = g ∨ x = b, rfl, fun _ _ => by kernel_rfl, fun _ _ => by kernel_rfl, ?_, ?_⟩
  · rintro x (rfl | rfl)
    · exact ⟨lg, blk_lt hg⟩
    · exact ⟨lb, blk_lt hb⟩
  · intro wk hs hT
    have kg := hT g (.inl rfl)
    have bg : blk wk g #[.int .i64 32, .int .i64 16] 3 := by unfold blk at hg ⊢; rw [kg]; exact hg
    have kb := hT b (.inr (rfl))
    have bb : blk wk b #[.int .u8 41] 5 := by unfold blk at hb ⊢; rw [kb]; exact hb
    refine ⟨ints_blk (xs := [32, 16]) bg rfl (by decide), fun x hx hz => ?_, fun x hx hok => ?_⟩
    · obtain ⟨o, d, s, z, i⟩ := x
      simp only at hx
      subst hx
      exact fit_pair 10 d s z i wk
    · have hf := ok_fit hok
      have hz := ok_sz hok
      clear hok
      obtain ⟨o, d, s, z, i⟩ := x
      simp only at hx
      subst hx
      exact wr_pair 10 d s z i 41 b wk (blk_cell bb 0)
theorem knd_11 (base : Nat) (w : World) (g b : Nat) (hg : blk w g #[.int .i64 32, .int .i64 16] 3) (hb : blk w b #[.int .u8 49] 5) (lg : base ≤ g) (lb : base ≤ b) : Knd base w (.agg #[.func (.func 111) #[] #[], .slice (some ⟨g, 0, none⟩) 2 2, .func (.func 112) #[] #[.pointer (some ⟨b, 0, none⟩)]]) 11 := by
  refine ⟨111, 112, #[], #[.pointer (some ⟨b, 0, none⟩)], g, fun x => x = g ∨ x = b, rfl, fun _ _ => by kernel_rfl, fun _ _ => by kernel_rfl, ?_, ?_⟩
  · rintro x (rfl | rfl)
    · exact ⟨lg, blk_lt hg⟩
    · exact ⟨lb, blk_lt hb⟩
  · intro wk hs hT
    have kg := hT g (.inl rfl)
    have bg : blk wk g #[.int .i64 32, .int .i64 16] 3 := by unfold blk at hg ⊢; rw [kg]; exact hg
    have kb := hT b (.inr (rfl))
    have bb : blk wk b #[.int .u8 49] 5 := by unfold blk at hb ⊢; rw [kb]; exact hb
    refine ⟨ints_blk (xs := [32, 16]) bg rfl (by decide), fun x hx hz => ?_, fun x hx hok => ?_⟩
    · obtain ⟨o, d, s, z, i⟩ := x
      simp only at hx
      subst hx
      exact fit_pair 11 d s z i wk
    · have hf := ok_fit hok
      have hz := ok_sz hok
      clear hok
      obtain ⟨o, d, s, z, i⟩ := x
      simp only at hx
      subst hx
      exact wr_pair 11 d s z i 49 b wk (blk_cell bb 0)
theorem knd_12 (base : Nat) (w : World) (g b : Nat) (hg : blk w g #[.int .i64 32, .int .i64 16] 3) (hb : blk w b #[.int .u8 57] 5) (lg : base ≤ g) (lb : base ≤ b) : Knd base w (.agg #[.func (.func 111) #[] #[], .slice (some ⟨g, 0, none⟩) 2 2, .func (.func 112) #[] #[.pointer (some ⟨b, 0, none⟩)]]) 12 := by
  refine ⟨111, 112, #[], #[.pointer (some ⟨b, 0, none⟩)], g, fun x => x = g ∨ x = b, rfl, fun _ _ => by kernel_rfl, fun _ _ => by kernel_rfl, ?_, ?_⟩
  · rintro x (rfl | rfl)
    · exact ⟨lg, blk_lt hg⟩
    · exact ⟨lb, blk_lt hb⟩
  · intro wk hs hT
    have kg := hT g (.inl rfl)
    have bg : blk wk g #[.int .i64 32, .int .i64 16] 3 := by unfold blk at hg ⊢; rw [kg]; exact hg
    have kb := hT b (.inr (rfl))
    have bb : blk wk b #[.int .u8 57] 5 := by unfold blk at hb ⊢; rw [kb]; exact hb
    refine ⟨ints_blk (xs := [32, 16]) bg rfl (by decide), fun x hx hz => ?_, fun x hx hok => ?_⟩
    · obtain ⟨o, d, s, z, i⟩ := x
      simp only at hx
      subst hx
      exact fit_pair 12 d s z i wk
    · have hf := ok_fit hok
      have hz := ok_sz hok
      clear hok
      obtain ⟨o, d, s, z, i⟩ := x
      simp only at hx
      subst hx
      exact wr_pair 12 d s z i 57 b wk (blk_cell bb 0)
theorem knd_13 (base : Nat) (w : World) (g b : Nat) (hg : blk w g #[.int .i64 32, .int .i64 16] 3) (hb : blk w b #[.int .u8 133] 5) (lg : base ≤ g) (lb : base ≤ b) : Knd base w (.agg #[.func (.func 111) #[] #[], .slice (some ⟨g, 0, none⟩) 2 2, .func (.func 112) #[] #[.pointer (some ⟨b, 0, none⟩)]]) 13 := by
  refine ⟨111, 112, #[], #[.pointer (some ⟨b, 0, none⟩)], g, fun x => x = g ∨ x = b, rfl, fun _ _ => by kernel_rfl, fun _ _ => by kernel_rfl, ?_, ?_⟩
  · rintro x (rfl | rfl)
    · exact ⟨lg, blk_lt hg⟩
    · exact ⟨lb, blk_lt hb⟩
  · intro wk hs hT
    have kg := hT g (.inl rfl)
    have bg : blk wk g #[.int .i64 32, .int .i64 16] 3 := by unfold blk at hg ⊢; rw [kg]; exact hg
    have kb := hT b (.inr (rfl))
    have bb : blk wk b #[.int .u8 133] 5 := by unfold blk at hb ⊢; rw [kb]; exact hb
    refine ⟨ints_blk (xs := [32, 16]) bg rfl (by decide), fun x hx hz => ?_, fun x hx hok => ?_⟩
    · obtain ⟨o, d, s, z, i⟩ := x
      simp only at hx
      subst hx
      exact fit_pair 13 d s z i wk
    · have hf := ok_fit hok
      have hz := ok_sz hok
      clear hok
      obtain ⟨o, d, s, z, i⟩ := x
      simp only at hx
      subst hx
      exact wr_pair 13 d s z i 133 b wk (blk_cell bb 0)
theorem knd_14 (base : Nat) (w : World) (g b : Nat) (hg : blk w g #[.int .i64 32, .int .i64 16] 3) (hb : blk w b #[.int .i64 0] 3) (lg : base ≤ g) (lb : base ≤ b) : Knd base w (.agg #[.func (.func 121) #[] #[], .slice (some ⟨g, 0, none⟩) 2 2, .func (.func 122) #[] #[.pointer (some ⟨b, 0, none⟩)]]) 14 := by
  refine ⟨121, 122, #[], #[.pointer (some ⟨b, 0, none⟩)], g, fun x => x = g ∨ x = b, rfl, fun _ _ => by kernel_rfl, fun _ _ => by kernel_rfl, ?_, ?_⟩
  · rintro x (rfl | rfl)
    · exact ⟨lg, blk_lt hg⟩
    · exact ⟨lb, blk_lt hb⟩
  · intro wk hs hT
    have kg := hT g (.inl rfl)
    have bg : blk wk g #[.int .i64 32, .int .i64 16] 3 := by unfold blk at hg ⊢; rw [kg]; exact hg
    have kb := hT b (.inr (rfl))
    have bb : blk wk b #[.int .i64 0] 3 := by unfold blk at hb ⊢; rw [kb]; exact hb
    refine ⟨ints_blk (xs := [32, 16]) bg rfl (by decide), fun x hx hz => ?_, fun x hx hok => ?_⟩
    · obtain ⟨o, d, s, z, i⟩ := x
      simp only at hx
      subst hx
      simp [szI] at hz
      rcases hz with rfl | rfl
      · exact fit_num_32 14 d s i wk
      · exact fit_num_16 14 d s i wk
    · have hf := ok_fit hok
      have hz := ok_sz hok
      clear hok
      obtain ⟨o, d, s, z, i⟩ := x
      simp only at hx
      subst hx
      simp [szI] at hz
      simp [fitI, isR, inZ] at hf
      have p32 : pwZ 32 = 4294967296 := rfl
      have p16 : pwZ 16 = 65536 := rfl
      rcases hz with rfl | rfl
      · by_cases hs : -128 ≤ sgB i 32 ∧ sgB i 32 ≤ 127
        · rw [show bodyI ⟨14, d, s, 32, i⟩ = [131, mrB 0 d, i % 256] by simp [bodyI, hs, digI]]
          exact wr_num_32_s 14 d s i 0 b wk (blk_cell bb 0) (by omega) (by omega) hs
        · rw [show bodyI ⟨14, d, s, 32, i⟩ = 129 :: mrB 0 d :: leB i 4 by simp [bodyI, hs, digI]]
          exact wr_num_32_b 14 d s i 0 b wk (blk_cell bb 0) (by omega) (by omega) hs
      · by_cases hs : -128 ≤ sgB i 16 ∧ sgB i 16 ≤ 127
        · rw [show bodyI ⟨14, d, s, 16, i⟩ = [131, mrB 0 d, i % 256] by simp [bodyI, hs, digI]]
          exact wr_num_16_s 14 d s i 0 b wk (blk_cell bb 0) (by omega) (by omega) hs
        · rw [show bodyI ⟨14, d, s, 16, i⟩ = 129 :: mrB 0 d :: leB i 2 by simp [bodyI, hs, digI]]
          exact wr_num_16_b 14 d s i 0 b wk (blk_cell bb 0) (by omega) (by omega) hs
theorem knd_15 (base : Nat) (w : World) (g b : Nat) (hg : blk w g #[.int .i64 32, .int .i64 16] 3) (hb : blk w b #[.int .i64 1] 3) (lg : base ≤ g) (lb : base ≤ b) : Knd base w (.agg #[.func (.func 121) #[] #[], .slice (some ⟨g, 0, none⟩) 2 2, .func (.func 122) #[] #[.pointer (some ⟨b, 0, none⟩)]]) 15 := by
  refine ⟨121, 122, #[], #[.pointer (some ⟨b, 0, none⟩)], g, fun x => x = g ∨ x = b, rfl, fun _ _ => by kernel_rfl, fun _ _ => by kernel_rfl, ?_, ?_⟩
  · rintro x (rfl | rfl)
    · exact ⟨lg, blk_lt hg⟩
    · exact ⟨lb, blk_lt hb⟩
  · intro wk hs hT
    have kg := hT g (.inl rfl)
    have bg : blk wk g #[.int .i64 32, .int .i64 16] 3 := by unfold blk at hg ⊢; rw [kg]; exact hg
    have kb := hT b (.inr (rfl))
    have bb : blk wk b #[.int .i64 1] 3 := by unfold blk at hb ⊢; rw [kb]; exact hb
    refine ⟨ints_blk (xs := [32, 16]) bg rfl (by decide), fun x hx hz => ?_, fun x hx hok => ?_⟩
    · obtain ⟨o, d, s, z, i⟩ := x
      simp only at hx
      subst hx
      simp [szI] at hz
      rcases hz with rfl | rfl
      · exact fit_num_32 15 d s i wk
      · exact fit_num_16 15 d s i wk
    · have hf := ok_fit hok
      have hz := ok_sz hok
      clear hok
      obtain ⟨o, d, s, z, i⟩ := x
      simp only at hx
      subst hx
      simp [szI] at hz
      simp [fitI, isR, inZ] at hf
      have p32 : pwZ 32 = 4294967296 := rfl
      have p16 : pwZ 16 = 65536 := rfl
      rcases hz with rfl | rfl
      · by_cases hs : -128 ≤ sgB i 32 ∧ sgB i 32 ≤ 127
        · rw [show bodyI ⟨15, d, s, 32, i⟩ = [131, mrB 1 d, i % 256] by simp [bodyI, hs, digI]]
          exact wr_num_32_s 15 d s i 1 b wk (blk_cell bb 0) (by omega) (by omega) hs
        · rw [show bodyI ⟨15, d, s, 32, i⟩ = 129 :: mrB 1 d :: leB i 4 by simp [bodyI, hs, digI]]
          exact wr_num_32_b 15 d s i 1 b wk (blk_cell bb 0) (by omega) (by omega) hs
      · by_cases hs : -128 ≤ sgB i 16 ∧ sgB i 16 ≤ 127
        · rw [show bodyI ⟨15, d, s, 16, i⟩ = [131, mrB 1 d, i % 256] by simp [bodyI, hs, digI]]
          exact wr_num_16_s 15 d s i 1 b wk (blk_cell bb 0) (by omega) (by omega) hs
        · rw [show bodyI ⟨15, d, s, 16, i⟩ = 129 :: mrB 1 d :: leB i 2 by simp [bodyI, hs, digI]]
          exact wr_num_16_b 15 d s i 1 b wk (blk_cell bb 0) (by omega) (by omega) hs
theorem knd_16 (base : Nat) (w : World) (g b : Nat) (hg : blk w g #[.int .i64 32, .int .i64 16] 3) (hb : blk w b #[.int .i64 4] 3) (lg : base ≤ g) (lb : base ≤ b) : Knd base w (.agg #[.func (.func 121) #[] #[], .slice (some ⟨g, 0, none⟩) 2 2, .func (.func 122) #[] #[.pointer (some ⟨b, 0, none⟩)]]) 16 := by
  refine ⟨121, 122, #[], #[.pointer (some ⟨b, 0, none⟩)], g, fun x => x = g ∨ x = b, rfl, fun _ _ => by kernel_rfl, fun _ _ => by kernel_rfl, ?_, ?_⟩
  · rintro x (rfl | rfl)
    · exact ⟨lg, blk_lt hg⟩
    · exact ⟨lb, blk_lt hb⟩
  · intro wk hs hT
    have kg := hT g (.inl rfl)
    have bg : blk wk g #[.int .i64 32, .int .i64 16] 3 := by unfold blk at hg ⊢; rw [kg]; exact hg
    have kb := hT b (.inr (rfl))
    have bb : blk wk b #[.int .i64 4] 3 := by unfold blk at hb ⊢; rw [kb]; exact hb
    refine ⟨ints_blk (xs := [32, 16]) bg rfl (by decide), fun x hx hz => ?_, fun x hx hok => ?_⟩
    · obtain ⟨o, d, s, z, i⟩ := x
      simp only at hx
      subst hx
      simp [szI] at hz
      rcases hz with rfl | rfl
      · exact fit_num_32 16 d s i wk
      · exact fit_num_16 16 d s i wk
    · have hf := ok_fit hok
      have hz := ok_sz hok
      clear hok
      obtain ⟨o, d, s, z, i⟩ := x
      simp only at hx
      subst hx
      simp [szI] at hz
      simp [fitI, isR, inZ] at hf
      have p32 : pwZ 32 = 4294967296 := rfl
      have p16 : pwZ 16 = 65536 := rfl
      rcases hz with rfl | rfl
      · by_cases hs : -128 ≤ sgB i 32 ∧ sgB i 32 ≤ 127
        · rw [show bodyI ⟨16, d, s, 32, i⟩ = [131, mrB 4 d, i % 256] by simp [bodyI, hs, digI]]
          exact wr_num_32_s 16 d s i 4 b wk (blk_cell bb 0) (by omega) (by omega) hs
        · rw [show bodyI ⟨16, d, s, 32, i⟩ = 129 :: mrB 4 d :: leB i 4 by simp [bodyI, hs, digI]]
          exact wr_num_32_b 16 d s i 4 b wk (blk_cell bb 0) (by omega) (by omega) hs
      · by_cases hs : -128 ≤ sgB i 16 ∧ sgB i 16 ≤ 127
        · rw [show bodyI ⟨16, d, s, 16, i⟩ = [131, mrB 4 d, i % 256] by simp [bodyI, hs, digI]]
          exact wr_num_16_s 16 d s i 4 b wk (blk_cell bb 0) (by omega) (by omega) hs
        · rw [show bodyI ⟨16, d, s, 16, i⟩ = 129 :: mrB 4 d :: leB i 2 by simp [bodyI, hs, digI]]
          exact wr_num_16_b 16 d s i 4 b wk (blk_cell bb 0) (by omega) (by omega) hs
theorem knd_17 (base : Nat) (w : World) (g b : Nat) (hg : blk w g #[.int .i64 32, .int .i64 16] 3) (hb : blk w b #[.int .i64 5] 3) (lg : base ≤ g) (lb : base ≤ b) : Knd base w (.agg #[.func (.func 121) #[] #[], .slice (some ⟨g, 0, none⟩) 2 2, .func (.func 122) #[] #[.pointer (some ⟨b, 0, none⟩)]]) 17 := by
  refine ⟨121, 122, #[], #[.pointer (some ⟨b, 0, none⟩)], g, fun x => x = g ∨ x = b, rfl, fun _ _ => by kernel_rfl, fun _ _ => by kernel_rfl, ?_, ?_⟩
  · rintro x (rfl | rfl)
    · exact ⟨lg, blk_lt hg⟩
    · exact ⟨lb, blk_lt hb⟩
  · intro wk hs hT
    have kg := hT g (.inl rfl)
    have bg : blk wk g #[.int .i64 32, .int .i64 16] 3 := by unfold blk at hg ⊢; rw [kg]; exact hg
    have kb := hT b (.inr (rfl))
    have bb : blk wk b #[.int .i64 5] 3 := by unfold blk at hb ⊢; rw [kb]; exact hb
    refine ⟨ints_blk (xs := [32, 16]) bg rfl (by decide), fun x hx hz => ?_, fun x hx hok => ?_⟩
    · obtain ⟨o, d, s, z, i⟩ := x
      simp only at hx
      subst hx
      simp [szI] at hz
      rcases hz with rfl | rfl
      · exact fit_num_32 17 d s i wk
      · exact fit_num_16 17 d s i wk
    · have hf := ok_fit hok
      have hz := ok_sz hok
      clear hok
      obtain ⟨o, d, s, z, i⟩ := x
      simp only at hx
      subst hx
      simp [szI] at hz
      simp [fitI, isR, inZ] at hf
      have p32 : pwZ 32 = 4294967296 := rfl
      have p16 : pwZ 16 = 65536 := rfl
      rcases hz with rfl | rfl
      · by_cases hs : -128 ≤ sgB i 32 ∧ sgB i 32 ≤ 127
        · rw [show bodyI ⟨17, d, s, 32, i⟩ = [131, mrB 5 d, i % 256] by simp [bodyI, hs, digI]]
          exact wr_num_32_s 17 d s i 5 b wk (blk_cell bb 0) (by omega) (by omega) hs
        · rw [show bodyI ⟨17, d, s, 32, i⟩ = 129 :: mrB 5 d :: leB i 4 by simp [bodyI, hs, digI]]
          exact wr_num_32_b 17 d s i 5 b wk (blk_cell bb 0) (by omega) (by omega) hs
      · by_cases hs : -128 ≤ sgB i 16 ∧ sgB i 16 ≤ 127
        · rw [show bodyI ⟨17, d, s, 16, i⟩ = [131, mrB 5 d, i % 256] by simp [bodyI, hs, digI]]
          exact wr_num_16_s 17 d s i 5 b wk (blk_cell bb 0) (by omega) (by omega) hs
        · rw [show bodyI ⟨17, d, s, 16, i⟩ = 129 :: mrB 5 d :: leB i 2 by simp [bodyI, hs, digI]]
          exact wr_num_16_b 17 d s i 5 b wk (blk_cell bb 0) (by omega) (by omega) hs
theorem knd_18 (base : Nat) (w : World) (g b : Nat) (hg : blk w g #[.int .i64 32, .int .i64 16] 3) (hb : blk w b #[.int .i64 6] 3) (lg : base ≤ g) (lb : base ≤ b) : Knd base w (.agg #[.func (.func 121) #[] #[], .slice (some ⟨g, 0, none⟩) 2 2, .func (.func 122) #[] #[.pointer (some ⟨b, 0, none⟩)]]) 18 := by
  refine ⟨121, 122, #[], #[.pointer (some ⟨b, 0, none⟩)], g, fun x => x = g ∨ x = b, rfl, fun _ _ => by kernel_rfl, fun _ _ => by kernel_rfl, ?_, ?_⟩
  · rintro x (rfl | rfl)
    · exact ⟨lg, blk_lt hg⟩
    · exact ⟨lb, blk_lt hb⟩
  · intro wk hs hT
    have kg := hT g (.inl rfl)
    have bg : blk wk g #[.int .i64 32, .int .i64 16] 3 := by unfold blk at hg ⊢; rw [kg]; exact hg
    have kb := hT b (.inr (rfl))
    have bb : blk wk b #[.int .i64 6] 3 := by unfold blk at hb ⊢; rw [kb]; exact hb
    refine ⟨ints_blk (xs := [32, 16]) bg rfl (by decide), fun x hx hz => ?_, fun x hx hok => ?_⟩
    · obtain ⟨o, d, s, z, i⟩ := x
      simp only at hx
      subst hx
      simp [szI] at hz
      rcases hz with rfl | rfl
      · exact fit_num_32 18 d s i wk
      · exact fit_num_16 18 d s i wk
    · have hf := ok_fit hok
      have hz := ok_sz hok
      clear hok
      obtain ⟨o, d, s, z, i⟩ := x
      simp only at hx
      subst hx
      simp [szI] at hz
      simp [fitI, isR, inZ] at hf
      have p32 : pwZ 32 = 4294967296 := rfl
      have p16 : pwZ 16 = 65536 := rfl
      rcases hz with rfl | rfl
      · by_cases hs : -128 ≤ sgB i 32 ∧ sgB i 32 ≤ 127
        · rw [show bodyI ⟨18, d, s, 32, i⟩ = [131, mrB 6 d, i % 256] by simp [bodyI, hs, digI]]
          exact wr_num_32_s 18 d s i 6 b wk (blk_cell bb 0) (by omega) (by omega) hs
        · rw [show bodyI ⟨18, d, s, 32, i⟩ = 129 :: mrB 6 d :: leB i 4 by simp [bodyI, hs, digI]]
          exact wr_num_32_b 18 d s i 6 b wk (blk_cell bb 0) (by omega) (by omega) hs
      · by_cases hs : -128 ≤ sgB i 16 ∧ sgB i 16 ≤ 127
        · rw [show bodyI ⟨18, d, s, 16, i⟩ = [131, mrB 6 d, i % 256] by simp [bodyI, hs, digI]]
          exact wr_num_16_s 18 d s i 6 b wk (blk_cell bb 0) (by omega) (by omega) hs
        · rw [show bodyI ⟨18, d, s, 16, i⟩ = 129 :: mrB 6 d :: leB i 2 by simp [bodyI, hs, digI]]
          exact wr_num_16_b 18 d s i 6 b wk (blk_cell bb 0) (by omega) (by omega) hs
theorem knd_19 (base : Nat) (w : World) (g b : Nat) (hg : blk w g #[.int .i64 32, .int .i64 16] 3) (hb : blk w b #[.int .i64 7] 3) (lg : base ≤ g) (lb : base ≤ b) : Knd base w (.agg #[.func (.func 121) #[] #[], .slice (some ⟨g, 0, none⟩) 2 2, .func (.func 122) #[] #[.pointer (some ⟨b, 0, none⟩)]]) 19 := by
  refine ⟨121, 122, #[], #[.pointer (some ⟨b, 0, none⟩)], g, fun x => x = g ∨ x = b, rfl, fun _ _ => by kernel_rfl, fun _ _ => by kernel_rfl, ?_, ?_⟩
  · rintro x (rfl | rfl)
    · exact ⟨lg, blk_lt hg⟩
    · exact ⟨lb, blk_lt hb⟩
  · intro wk hs hT
    have kg := hT g (.inl rfl)
    have bg : blk wk g #[.int .i64 32, .int .i64 16] 3 := by unfold blk at hg ⊢; rw [kg]; exact hg
    have kb := hT b (.inr (rfl))
    have bb : blk wk b #[.int .i64 7] 3 := by unfold blk at hb ⊢; rw [kb]; exact hb
    refine ⟨ints_blk (xs := [32, 16]) bg rfl (by decide), fun x hx hz => ?_, fun x hx hok => ?_⟩
    · obtain ⟨o, d, s, z, i⟩ := x
      simp only at hx
      subst hx
      simp [szI] at hz
      rcases hz with rfl | rfl
      · exact fit_num_32 19 d s i wk
      · exact fit_num_16 19 d s i wk
    · have hf := ok_fit hok
      have hz := ok_sz hok
      clear hok
      obtain ⟨o, d, s, z, i⟩ := x
      simp only at hx
      subst hx
      simp [szI] at hz
      simp [fitI, isR, inZ] at hf
      have p32 : pwZ 32 = 4294967296 := rfl
      have p16 : pwZ 16 = 65536 := rfl
      rcases hz with rfl | rfl
      · by_cases hs : -128 ≤ sgB i 32 ∧ sgB i 32 ≤ 127
        · rw [show bodyI ⟨19, d, s, 32, i⟩ = [131, mrB 7 d, i % 256] by simp [bodyI, hs, digI]]
          exact wr_num_32_s 19 d s i 7 b wk (blk_cell bb 0) (by omega) (by omega) hs
        · rw [show bodyI ⟨19, d, s, 32, i⟩ = 129 :: mrB 7 d :: leB i 4 by simp [bodyI, hs, digI]]
          exact wr_num_32_b 19 d s i 7 b wk (blk_cell bb 0) (by omega) (by omega) hs
      · by_cases hs : -128 ≤ sgB i 16 ∧ sgB i 16 ≤ 127
        · rw [show bodyI ⟨19, d, s, 16, i⟩ = [131, mrB 7 d, i % 256] by simp [bodyI, hs, digI]]
          exact wr_num_16_s 19 d s i 7 b wk (blk_cell bb 0) (by omega) (by omega) hs
        · rw [show bodyI ⟨19, d, s, 16, i⟩ = 129 :: mrB 7 d :: leB i 2 by simp [bodyI, hs, digI]]
          exact wr_num_16_b 19 d s i 7 b wk (blk_cell bb 0) (by omega) (by omega) hs
theorem knd_20 (base : Nat) (w : World) (g : Nat) (hg : blk w g #[.int .i64 32] 3) (lg : base ≤ g) : Knd base w (.agg #[.func (.func 84) #[] #[], .slice (some ⟨g, 0, none⟩) 1 1, .func (.func 85) #[] #[]]) 20 := by
  refine ⟨84, 85, #[], #[], g, fun x => x = g, rfl, fun _ _ => by kernel_rfl, fun _ _ => by kernel_rfl, ?_, ?_⟩
  · rintro x rfl
    exact ⟨lg, blk_lt hg⟩
  · intro wk hs hT
    have kg := hT g (rfl)
    have bg : blk wk g #[.int .i64 32] 3 := by unfold blk at hg ⊢; rw [kg]; exact hg
    refine ⟨ints_blk (xs := [32]) bg rfl (by decide), fun x hx hz => ?_, fun x hx hok => ?_⟩
    · obtain ⟨o, d, s, z, i⟩ := x
      simp only at hx
      subst hx
      exact fit_mul 20 d s z i wk
    · have hf := ok_fit hok
      have hz := ok_sz hok
      clear hok
      obtain ⟨o, d, s, z, i⟩ := x
      simp only at hx
      subst hx
      simp [fitI, fitJ, isR, isM, isL, isC, isB, isW4] at hf
      exact wr_mul 20 d s z i wk
theorem knd_21 (base : Nat) (w : World) (g b b2 : Nat) (hg : blk w g #[.int .i64 32, .int .i64 16] 3) (hb : blk w b #[.int .u8 211] 5) (hb2 : blk w b2 #[.int .i64 4] 3) (lg : base ≤ g) (lb : base ≤ b) (lb2 : base ≤ b2) : Knd base w (.agg #[.func (.func 124) #[] #[], .slice (some ⟨g, 0, none⟩) 2 2, .func (.func 125) #[] #[.pointer (some ⟨b, 0, none⟩), .pointer (some ⟨b2, 0, none⟩)]]) 21 := by
  refine ⟨124, 125, #[], #[.pointer (some ⟨b, 0, none⟩), .pointer (some ⟨b2, 0, none⟩)], g, fun x => x = g ∨ x = b ∨ x = b2, rfl, fun _ _ => by kernel_rfl, fun _ _ => by kernel_rfl, ?_, ?_⟩
  · rintro x (rfl | rfl | rfl)
    · exact ⟨lg, blk_lt hg⟩
    · exact ⟨lb, blk_lt hb⟩
    · exact ⟨lb2, blk_lt hb2⟩
  · intro wk hs hT
    have kg := hT g (.inl rfl)
    have bg : blk wk g #[.int .i64 32, .int .i64 16] 3 := by unfold blk at hg ⊢; rw [kg]; exact hg
    have kb := hT b (.inr (.inl rfl))
    have bb : blk wk b #[.int .u8 211] 5 := by unfold blk at hb ⊢; rw [kb]; exact hb
    have kb2 := hT b2 (.inr (.inr (rfl)))
    have bb2 : blk wk b2 #[.int .i64 4] 3 := by unfold blk at hb2 ⊢; rw [kb2]; exact hb2
    refine ⟨ints_blk (xs := [32, 16]) bg rfl (by decide), fun x hx hz => ?_, fun x hx hok => ?_⟩
    · obtain ⟨o, d, s, z, i⟩ := x
      simp only at hx
      subst hx
      exact fit_single 21 d s z i wk
    · have hf := ok_fit hok
      have hz := ok_sz hok
      clear hok
      obtain ⟨o, d, s, z, i⟩ := x
      simp only at hx
      subst hx
      exact wr_single 21 d s z i 211 4 b b2 wk (blk_cell bb 0) (blk_cell bb2 0)
theorem knd_22 (base : Nat) (w : World) (g b b2 : Nat) (hg : blk w g #[.int .i64 32, .int .i64 16] 3) (hb : blk w b #[.int .u8 211] 5) (hb2 : blk w b2 #[.int .i64 5] 3) (lg : base ≤ g) (lb : base ≤ b) (lb2 : base ≤ b2) : Knd base w (.agg #[.func (.func 124) #[] #[], .slice (some ⟨g, 0, none⟩) 2 2, .func (.func 125) #[] #[.pointer (some ⟨b, 0, none⟩), .pointer (some ⟨b2, 0, none⟩)]]) 22 := by
  refine ⟨124, 125, #[], #[.pointer (some ⟨b, 0, none⟩), .pointer (some ⟨b2, 0, none⟩)], g, fun x => x = g ∨ x = b ∨ x = b2, rfl, fun _ _ => by kernel_rfl, fun _ _ => by kernel_rfl, ?_, ?_⟩
  · rintro x (rfl | rfl | rfl)
    · exact ⟨lg, blk_lt hg⟩
    · exact ⟨lb, blk_lt hb⟩
    · exact ⟨lb2, blk_lt hb2⟩
  · intro wk hs hT
    have kg := hT g (.inl rfl)
    have bg : blk wk g #[.int .i64 32, .int .i64 16] 3 := by unfold blk at hg ⊢; rw [kg]; exact hg
    have kb := hT b (.inr (.inl rfl))
    have bb : blk wk b #[.int .u8 211] 5 := by unfold blk at hb ⊢; rw [kb]; exact hb
    have kb2 := hT b2 (.inr (.inr (rfl)))
    have bb2 : blk wk b2 #[.int .i64 5] 3 := by unfold blk at hb2 ⊢; rw [kb2]; exact hb2
    refine ⟨ints_blk (xs := [32, 16]) bg rfl (by decide), fun x hx hz => ?_, fun x hx hok => ?_⟩
    · obtain ⟨o, d, s, z, i⟩ := x
      simp only at hx
      subst hx
      exact fit_single 22 d s z i wk
    · have hf := ok_fit hok
      have hz := ok_sz hok
      clear hok
      obtain ⟨o, d, s, z, i⟩ := x
      simp only at hx
      subst hx
      exact wr_single 22 d s z i 211 5 b b2 wk (blk_cell bb 0) (blk_cell bb2 0)
theorem knd_23 (base : Nat) (w : World) (g b b2 : Nat) (hg : blk w g #[.int .i64 32, .int .i64 16] 3) (hb : blk w b #[.int .u8 211] 5) (hb2 : blk w b2 #[.int .i64 7] 3) (lg : base ≤ g) (lb : base ≤ b) (lb2 : base ≤ b2) : Knd base w (.agg #[.func (.func 124) #[] #[], .slice (some ⟨g, 0, none⟩) 2 2, .func (.func 125) #[] #[.pointer (some ⟨b, 0, none⟩), .pointer (some ⟨b2, 0, none⟩)]]) 23 := by
  refine ⟨124, 125, #[], #[.pointer (some ⟨b, 0, none⟩), .pointer (some ⟨b2, 0, none⟩)], g, fun x => x = g ∨ x = b ∨ x = b2, rfl, fun _ _ => by kernel_rfl, fun _ _ => by kernel_rfl, ?_, ?_⟩
  · rintro x (rfl | rfl | rfl)
    · exact ⟨lg, blk_lt hg⟩
    · exact ⟨lb, blk_lt hb⟩
    · exact ⟨lb2, blk_lt hb2⟩
  · intro wk hs hT
    have kg := hT g (.inl rfl)
    have bg : blk wk g #[.int .i64 32, .int .i64 16] 3 := by unfold blk at hg ⊢; rw [kg]; exact hg
    have kb := hT b (.inr (.inl rfl))
    have bb : blk wk b #[.int .u8 211] 5 := by unfold blk at hb ⊢; rw [kb]; exact hb
    have kb2 := hT b2 (.inr (.inr (rfl)))
    have bb2 : blk wk b2 #[.int .i64 7] 3 := by unfold blk at hb2 ⊢; rw [kb2]; exact hb2
    refine ⟨ints_blk (xs := [32, 16]) bg rfl (by decide), fun x hx hz => ?_, fun x hx hok => ?_⟩
    · obtain ⟨o, d, s, z, i⟩ := x
      simp only at hx
      subst hx
      exact fit_single 23 d s z i wk
    · have hf := ok_fit hok
      have hz := ok_sz hok
      clear hok
      obtain ⟨o, d, s, z, i⟩ := x
      simp only at hx
      subst hx
      exact wr_single 23 d s z i 211 7 b b2 wk (blk_cell bb 0) (blk_cell bb2 0)
theorem knd_24 (base : Nat) (w : World) (g b b2 : Nat) (hg : blk w g #[.int .i64 32, .int .i64 16] 3) (hb : blk w b #[.int .u8 247] 5) (hb2 : blk w b2 #[.int .i64 2] 3) (lg : base ≤ g) (lb : base ≤ b) (lb2 : base ≤ b2) : Knd base w (.agg #[.func (.func 124) #[] #[], .slice (some ⟨g, 0, none⟩) 2 2, .func (.func 125) #[] #[.pointer (some ⟨b, 0, none⟩), .pointer (some ⟨b2, 0, none⟩)]]) 24 := by
  refine ⟨124, 125, #[], #[.pointer (some ⟨b, 0, none⟩), .pointer (some ⟨b2, 0, none⟩)], g, fun x => x = g ∨ x = b ∨ x = b2, rfl, fun _ _ => by kernel_rfl, fun _ _ => by kernel_rfl, ?_, ?_⟩
  · rintro x (rfl | rfl | rfl)
    · exact ⟨lg, blk_lt hg⟩
    · exact ⟨lb, blk_lt hb⟩
    · exact ⟨lb2, blk_lt hb2⟩
  · intro wk hs hT
    have kg := hT g (.inl rfl)
    have bg : blk wk g #[.int .i64 32, .int .i64 16] 3 := by unfold blk at hg ⊢; rw [kg]; exact hg
    have kb := hT b (.inr (.inl rfl))
    have bb : blk wk b #[.int .u8 247] 5 := by unfold blk at hb ⊢; rw [kb]; exact hb
    have kb2 := hT b2 (.inr (.inr (rfl)))
    have bb2 : blk wk b2 #[.int .i64 2] 3 := by unfold blk at hb2 ⊢; rw [kb2]; exact hb2
    refine ⟨ints_blk (xs := [32, 16]) bg rfl (by decide), fun x hx hz => ?_, fun x hx hok => ?_⟩
    · obtain ⟨o, d, s, z, i⟩ := x
      simp only at hx
      subst hx
      exact fit_single 24 d s z i wk
    · have hf := ok_fit hok
      have hz := ok_sz hok
      clear hok
      obtain ⟨o, d, s, z, i⟩ := x
      simp only at hx
      subst hx
      exact wr_single 24 d s z i 247 2 b b2 wk (blk_cell bb 0) (blk_cell bb2 0)
theorem knd_25 (base : Nat) (w : World) (g b b2 : Nat) (hg : blk w g #[.int .i64 32, .int .i64 16] 3) (hb : blk w b #[.int .u8 247] 5) (hb2 : blk w b2 #[.int .i64 3] 3) (lg : base ≤ g) (lb : base ≤ b) (lb2 : base ≤ b2) : Knd base w (.agg #[.func (.func 124) #[] #[], .slice (some ⟨g, 0, none⟩) 2 2, .func (.func 125) #[] #[.pointer (some ⟨b, 0, none⟩), .pointer (some ⟨b2, 0, none⟩)]]) 25 := by
  refine ⟨124, 125, #[], #[.pointer (some ⟨b, 0, none⟩), .pointer (some ⟨b2, 0, none⟩)], g, fun x => x = g ∨ x = b ∨ x = b2, rfl, fun _ _ => by kernel_rfl, fun _ _ => by kernel_rfl, ?_, ?_⟩
  · rintro x (rfl | rfl | rfl)
    · exact ⟨lg, blk_lt hg⟩
    · exact ⟨lb, blk_lt hb⟩
    · exact ⟨lb2, blk_lt hb2⟩
  · intro wk hs hT
    have kg := hT g (.inl rfl)
    have bg : blk wk g #[.int .i64 32, .int .i64 16] 3 := by unfold blk at hg ⊢; rw [kg]; exact hg
    have kb := hT b (.inr (.inl rfl))
    have bb : blk wk b #[.int .u8 247] 5 := by unfold blk at hb ⊢; rw [kb]; exact hb
    have kb2 := hT b2 (.inr (.inr (rfl)))
    have bb2 : blk wk b2 #[.int .i64 3] 3 := by unfold blk at hb2 ⊢; rw [kb2]; exact hb2
    refine ⟨ints_blk (xs := [32, 16]) bg rfl (by decide), fun x hx hz => ?_, fun x hx hok => ?_⟩
    · obtain ⟨o, d, s, z, i⟩ := x
      simp only at hx
      subst hx
      exact fit_single 25 d s z i wk
    · have hf := ok_fit hok
      have hz := ok_sz hok
      clear hok
      obtain ⟨o, d, s, z, i⟩ := x
      simp only at hx
      subst hx
      exact wr_single 25 d s z i 247 3 b b2 wk (blk_cell bb 0) (blk_cell bb2 0)
theorem knd_26 (base : Nat) (w : World) (g b b2 : Nat) (hg : blk w g #[.int .i64 32] 3) (hb : blk w b #[.int .u8 247] 5) (hb2 : blk w b2 #[.int .i64 6] 3) (lg : base ≤ g) (lb : base ≤ b) (lb2 : base ≤ b2) : Knd base w (.agg #[.func (.func 124) #[] #[], .slice (some ⟨g, 0, none⟩) 1 1, .func (.func 125) #[] #[.pointer (some ⟨b, 0, none⟩), .pointer (some ⟨b2, 0, none⟩)]]) 26 := by
  refine ⟨124, 125, #[], #[.pointer (some ⟨b, 0, none⟩), .pointer (some ⟨b2, 0, none⟩)], g, fun x => x = g ∨ x = b ∨ x = b2, rfl, fun _ _ => by kernel_rfl, fun _ _ => by kernel_rfl, ?_, ?_⟩
  · rintro x (rfl | rfl | rfl)
    · exact ⟨lg, blk_lt hg⟩
    · exact ⟨lb, blk_lt hb⟩
    · exact ⟨lb2, blk_lt hb2⟩
  · intro wk hs hT
    have kg := hT g (.inl rfl)
    have bg : blk wk g #[.int .i64 32] 3 := by unfold blk at hg ⊢; rw [kg]; exact hg
    have kb := hT b (.inr (.inl rfl))
    have bb : blk wk b #[.int .u8 247] 5 := by unfold blk at hb ⊢; rw [kb]; exact hb
    have kb2 := hT b2 (.inr (.inr (rfl)))
    have bb2 : blk wk b2 #[.int .i64 6] 3 := by unfold blk at hb2 ⊢; rw [kb2]; exact hb2
    refine ⟨ints_blk (xs := [32]) bg rfl (by decide), fun x hx hz => ?_, fun x hx hok => ?_⟩
    · obtain ⟨o, d, s, z, i⟩ := x
      simp only at hx
      subst hx
      exact fit_single 26 d s z i wk
    · have hf := ok_fit hok
      have hz := ok_sz hok
      clear hok
      obtain ⟨o, d, s, z, i⟩ := x
      simp only at hx
      subst hx
      exact wr_single 26 d s z i 247 6 b b2 wk (blk_cell bb 0) (blk_cell bb2 0)
theorem knd_27 (base : Nat) (w : World) (g b b2 : Nat) (hg : blk w g #[.int .i64 32] 3) (hb : blk w b #[.int .u8 247] 5) (hb2 : blk w b2 #[.int .i64 7] 3) (lg : base ≤ g) (lb : base ≤ b) (lb2 : base ≤ b2) : Knd base w (.agg #[.func (.func 124) #[] #[], .slice (some ⟨g, 0, none⟩) 1 1, .func (.func 125) #[] #[.pointer (some ⟨b, 0, none⟩), .pointer (some ⟨b2, 0, none⟩)]]) 27 := by
  refine ⟨124, 125, #[], #[.pointer (some ⟨b, 0, none⟩), .pointer (some ⟨b2, 0, none⟩)], g, fun x => x = g ∨ x = b ∨ x = b2, rfl, fun _ _ => by kernel_rfl, fun _ _ => by kernel_rfl, ?_, ?_⟩
  · rintro x (rfl | rfl | rfl)
    · exact ⟨lg, blk_lt hg⟩
    · exact ⟨lb, blk_lt hb⟩
    · exact ⟨lb2, blk_lt hb2⟩
  · intro wk hs hT
    have kg := hT g (.inl rfl)
    have bg : blk wk g #[.int .i64 32] 3 := by unfold blk at hg ⊢; rw [kg]; exact hg
    have kb := hT b (.inr (.inl rfl))
    have bb : blk wk b #[.int .u8 247] 5 := by unfold blk at hb ⊢; rw [kb]; exact hb
    have kb2 := hT b2 (.inr (.inr (rfl)))
    have bb2 : blk wk b2 #[.int .i64 7] 3 := by unfold blk at hb2 ⊢; rw [kb2]; exact hb2
    refine ⟨ints_blk (xs := [32]) bg rfl (by decide), fun x hx hz => ?_, fun x hx hok => ?_⟩
    · obtain ⟨o, d, s, z, i⟩ := x
      simp only at hx
      subst hx
      exact fit_single 27 d s z i wk
    · have hf := ok_fit hok
      have hz := ok_sz hok
      clear hok
      obtain ⟨o, d, s, z, i⟩ := x
      simp only at hx
      subst hx
      exact wr_single 27 d s z i 247 7 b b2 wk (blk_cell bb 0) (blk_cell bb2 0)
theorem knd_28 (base : Nat) (w : World) (g b go : Nat) (hg : blk w g #[.int .i64 32] 3) (hb : blk w b #[.slice (some ⟨go, 0, none⟩) 1 1] 22) (hgo : blk w go #[.int .u8 153] 5) (lg : base ≤ g) (lb : base ≤ b) (lgo : base ≤ go) : Knd base w (.agg #[.func (.func 126) #[] #[], .slice (some ⟨g, 0, none⟩) 1 1, .func (.func 127) #[] #[.pointer (some ⟨b, 0, none⟩)]]) 28 := by
  refine ⟨126, 127, #[], #[.pointer (some ⟨b, 0, none⟩)], g, fun x => x = g ∨ x = b ∨ x = go, rfl, fun _ _ => by kernel_rfl, fun _ _ => by kernel_rfl, ?_, ?_⟩
  · rintro x (rfl | rfl | rfl)
    · exact ⟨lg, blk_lt hg⟩
    · exact ⟨lb, blk_lt hb⟩
    · exact ⟨lgo, blk_lt hgo⟩
  · intro wk hs hT
    have kg := hT g (.inl rfl)
    have bg : blk wk g #[.int .i64 32] 3 := by unfold blk at hg ⊢; rw [kg]; exact hg
    have kb := hT b (.inr (.inl rfl))
    have bb : blk wk b #[.slice (some ⟨go, 0, none⟩) 1 1] 22 := by unfold blk at hb ⊢; rw [kb]; exact hb
    have kgo := hT go (.inr (.inr (rfl)))
    have bgo : blk wk go #[.int .u8 153] 5 := by unfold blk at hgo ⊢; rw [kgo]; exact hgo
    refine ⟨ints_blk (xs := [32]) bg rfl (by decide), fun x hx hz => ?_, fun x hx hok => ?_⟩
    · obtain ⟨o, d, s, z, i⟩ := x
      simp only at hx
      subst hx
      exact fit_bare 28 d s z i wk
    · have hf := ok_fit hok
      have hz := ok_sz hok
      clear hok
      obtain ⟨o, d, s, z, i⟩ := x
      simp only at hx
      subst hx
      exact wr_bare 28 d s z i _ [153] b wk (blk_cell bb 0) (ints_blk (xs := [153]) bgo rfl (by decide)) (by decide) (by decide)
theorem knd_29 (base : Nat) (w : World) (g : Nat) (hg : blk w g #[.int .i64 32] 3) (lg : base ≤ g) : Knd base w (.agg #[.func (.func 89) #[] #[], .slice (some ⟨g, 0, none⟩) 1 1, .func (.func 90) #[] #[]]) 29 := by
  refine ⟨89, 90, #[], #[], g, fun x => x = g, rfl, fun _ _ => by kernel_rfl, fun _ _ => by kernel_rfl, ?_, ?_⟩
  · rintro x rfl
    exact ⟨lg, blk_lt hg⟩
  · intro wk hs hT
    have kg := hT g (rfl)
    have bg : blk wk g #[.int .i64 32] 3 := by unfold blk at hg ⊢; rw [kg]; exact hg
    refine ⟨ints_blk (xs := [32]) bg rfl (by decide), fun x hx hz => ?_, fun x hx hok => ?_⟩
    · obtain ⟨o, d, s, z, i⟩ := x
      simp only at hx
      subst hx
      exact fit_set 29 d s z i wk
    · have hf := ok_fit hok
      have hz := ok_sz hok
      clear hok
      obtain ⟨o, d, s, z, i⟩ := x
      simp only at hx
      subst hx
      simp [fitI, fitJ, isR, isM, isL, isC, isB, isW4] at hf
      exact wr_set 29 d s z i wk (by omega) (by omega)
theorem knd_30 (base : Nat) (w : World) (g : Nat) (hg : blk w g #[.int .i64 32] 3) (lg : base ≤ g) : Knd base w (.agg #[.func (.func 91) #[] #[], .slice (some ⟨g, 0, none⟩) 1 1, .func (.func 92) #[] #[]]) 30 := by
  refine ⟨91, 92, #[], #[], g, fun x => x = g, rfl, fun _ _ => by kernel_rfl, fun _ _ => by kernel_rfl, ?_, ?_⟩
  · rintro x rfl
    exact ⟨lg, blk_lt hg⟩
  · intro wk hs hT
    have kg := hT g (rfl)
    have bg : blk wk g #[.int .i64 32] 3 := by unfold blk at hg ⊢; rw [kg]; exact hg
    refine ⟨ints_blk (xs := [32]) bg rfl (by decide), fun x hx hz => ?_, fun x hx hok => ?_⟩
    · obtain ⟨o, d, s, z, i⟩ := x
      simp only at hx
      subst hx
      exact fit_zero 30 d s z i wk
    · have hf := ok_fit hok
      have hz := ok_sz hok
      clear hok
      obtain ⟨o, d, s, z, i⟩ := x
      simp only at hx
      subst hx
      simp [fitI, fitJ, isR, isM, isL, isC, isB, isW4] at hf
      exact wr_zero 30 d s z i wk
theorem knd_31 (base : Nat) (w : World) (g : Nat) (hg : blk w g #[.int .i64 32] 3) (lg : base ≤ g) : Knd base w (.agg #[.func (.func 93) #[] #[], .slice (some ⟨g, 0, none⟩) 1 1, .func (.func 94) #[] #[]]) 31 := by
  refine ⟨93, 94, #[], #[], g, fun x => x = g, rfl, fun _ _ => by kernel_rfl, fun _ _ => by kernel_rfl, ?_, ?_⟩
  · rintro x rfl
    exact ⟨lg, blk_lt hg⟩
  · intro wk hs hT
    have kg := hT g (rfl)
    have bg : blk wk g #[.int .i64 32] 3 := by unfold blk at hg ⊢; rw [kg]; exact hg
    refine ⟨ints_blk (xs := [32]) bg rfl (by decide), fun x hx hz => ?_, fun x hx hok => ?_⟩
    · obtain ⟨o, d, s, z, i⟩ := x
      simp only at hx
      subst hx
      exact fit_cmov 31 d s z i wk
    · have hf := ok_fit hok
      have hz := ok_sz hok
      clear hok
      obtain ⟨o, d, s, z, i⟩ := x
      simp only at hx
      subst hx
      simp [fitI, fitJ, isR, isM, isL, isC, isB, isW4] at hf
      exact wr_cmov 31 d s z i wk (by omega) (by omega)
theorem knd_32 (base : Nat) (w : World) (g b1 b2 b3 : Nat) (hg : blk w g #[.int .i64 8, .int .i64 32] 3) (hb1 : blk w b1 #[.func (.func 96) #[] #[]] 58) (hb2 : blk w b2 #[.func (.func 97) #[] #[]] 58) (hb3 : blk w b3 #[.func (.func 98) #[] #[]] 61) (lg : base ≤ g) (lb1 : base ≤ b1) (lb2 : base ≤ b2) (lb3 : base ≤ b3) : Knd base w (.agg #[.func (.func 128) #[] #[.pointer (some ⟨b3, 0, none⟩)], .slice (some ⟨g, 0, none⟩) 2 2, .func (.func 129) #[] #[.pointer (some ⟨b1, 0, none⟩), .pointer (some ⟨b2, 0, none⟩)]]) 32 := by
  refine ⟨128, 129, #[.pointer (some ⟨b3, 0, none⟩)], #[.pointer (some ⟨b1, 0, none⟩), .pointer (some ⟨b2, 0, none⟩)], g, fun x => x = g ∨ x = b1 ∨ x = b2 ∨ x = b3, rfl, fun _ _ => by kernel_rfl, fun _ _ => by kernel_rfl, ?_, ?_⟩
  · rintro x (rfl | rfl | rfl | rfl)
    · exact ⟨lg, blk_lt hg⟩
    · exact ⟨lb1, blk_lt hb1⟩
    · exact ⟨lb2, blk_lt hb2⟩
    · exact ⟨lb3, blk_lt hb3⟩
  · intro wk hs hT
    have kg := hT g (.inl rfl)
    have bg : blk wk g #[.int .i64 8, .int .i64 32] 3 := by unfold blk at hg ⊢; rw [kg]; exact hg
    have kb1 := hT b1 (.inr (.inl rfl))
    have bb1 : blk wk b1 #[.func (.func 96) #[] #[]] 58 := by unfold blk at hb1 ⊢; rw [kb1]; exact hb1
    have kb2 := hT b2 (.inr (.inr (.inl rfl)))
    have bb2 : blk wk b2 #[.func (.func 97) #[] #[]] 58 := by unfold blk at hb2 ⊢; rw [kb2]; exact hb2
    have kb3 := hT b3 (.inr (.inr (.inr (rfl))))
    have bb3 : blk wk b3 #[.func (.func 98) #[] #[]] 61 := by unfold blk at hb3 ⊢; rw [kb3]; exact hb3
    refine ⟨ints_blk (xs := [8, 32]) bg rfl (by decide), fun x hx hz => ?_, fun x hx hok => ?_⟩
    · obtain ⟨o, d, s, z, i⟩ := x
      simp only at hx
      subst hx
      simp [szI] at hz
      rcases hz with rfl | rfl
      · have h := fit_jumpC_8 32 d s i b3 wk (blk_cell bb3 0)
        rw [show ((d == 0) && ((isC s) && isB i)) = fitI ⟨32, d, s, 8, i⟩ by simp [fitI, fitJ]] at h
        exact h
      · have h := fit_jumpC_32 32 d s i b3 wk (blk_cell bb3 0)
        rw [show ((d == 0) && ((isC s) && isW4 i)) = fitI ⟨32, d, s, 32, i⟩ by simp [fitI, fitJ]] at h
        exact h
    · have hf := ok_fit hok
      have hz := ok_sz hok
      clear hok
      obtain ⟨o, d, s, z, i⟩ := x
      simp only at hx
      subst hx
      simp [szI] at hz
      simp [fitI, fitJ, isR, isM, isL, isC, isB, isW4] at hf
      rcases hz with rfl | rfl
      · exact wr_jumpC_8 32 d s i b1 b2 wk (blk_cell bb1 0) (blk_cell bb2 0) (by omega) (by omega)
      · exact wr_jumpC_32 32 d s i b1 b2 wk (blk_cell bb1 0) (blk_cell bb2 0) (by omega) (by omega) ⟨by omega, by omega⟩
theorem knd_33 (base : Nat) (w : World) (g b1 b2 b3 : Nat) (hg : blk w g #[.int .i64 8, .int .i64 32] 3) (hb1 : blk w b1 #[.func (.func 99) #[] #[]] 58) (hb2 : blk w b2 #[.func (.func 100) #[] #[]] 58) (hb3 : blk w b3 #[.func (.func 101) #[] #[]] 61) (lg : base ≤ g) (lb1 : base ≤ b1) (lb2 : base ≤ b2) (lb3 : base ≤ b3) : Knd base w (.agg #[.func (.func 128) #[] #[.pointer (some ⟨b3, 0, none⟩)], .slice (some ⟨g, 0, none⟩) 2 2, .func (.func 129) #[] #[.pointer (some ⟨b1, 0, none⟩), .pointer (some ⟨b2, 0, none⟩)]]) 33 := by
  refine ⟨128, 129, #[.pointer (some ⟨b3, 0, none⟩)], #[.pointer (some ⟨b1, 0, none⟩), .pointer (some ⟨b2, 0, none⟩)], g, fun x => x = g ∨ x = b1 ∨ x = b2 ∨ x = b3, rfl, fun _ _ => by kernel_rfl, fun _ _ => by kernel_rfl, ?_, ?_⟩
  · rintro x (rfl | rfl | rfl | rfl)
    · exact ⟨lg, blk_lt hg⟩
    · exact ⟨lb1, blk_lt hb1⟩
    · exact ⟨lb2, blk_lt hb2⟩
    · exact ⟨lb3, blk_lt hb3⟩
  · intro wk hs hT
    have kg := hT g (.inl rfl)
    have bg : blk wk g #[.int .i64 8, .int .i64 32] 3 := by unfold blk at hg ⊢; rw [kg]; exact hg
    have kb1 := hT b1 (.inr (.inl rfl))
    have bb1 : blk wk b1 #[.func (.func 99) #[] #[]] 58 := by unfold blk at hb1 ⊢; rw [kb1]; exact hb1
    have kb2 := hT b2 (.inr (.inr (.inl rfl)))
    have bb2 : blk wk b2 #[.func (.func 100) #[] #[]] 58 := by unfold blk at hb2 ⊢; rw [kb2]; exact hb2
    have kb3 := hT b3 (.inr (.inr (.inr (rfl))))
    have bb3 : blk wk b3 #[.func (.func 101) #[] #[]] 61 := by unfold blk at hb3 ⊢; rw [kb3]; exact hb3
    refine ⟨ints_blk (xs := [8, 32]) bg rfl (by decide), fun x hx hz => ?_, fun x hx hok => ?_⟩
    · obtain ⟨o, d, s, z, i⟩ := x
      simp only at hx
      subst hx
      simp [szI] at hz
      rcases hz with rfl | rfl
      · have h := fit_jumpJ_8 33 d s i b3 wk (blk_cell bb3 0)
        rw [show ((d == 0) && ((s == 0) && isB i)) = fitI ⟨33, d, s, 8, i⟩ by simp [fitI, fitJ]] at h
        exact h
      · have h := fit_jumpJ_32 33 d s i b3 wk (blk_cell bb3 0)
        rw [show ((d == 0) && ((s == 0) && isW4 i)) = fitI ⟨33, d, s, 32, i⟩ by simp [fitI, fitJ]] at h
        exact h
    · have hf := ok_fit hok
      have hz := ok_sz hok
      clear hok
      obtain ⟨o, d, s, z, i⟩ := x
      simp only at hx
      subst hx
      simp [szI] at hz
      simp [fitI, fitJ, isR, isM, isL, isC, isB, isW4] at hf
      rcases hz with rfl | rfl
      · exact wr_jumpJ_8 33 d s i b1 b2 wk (blk_cell bb1 0) (blk_cell bb2 0)
      · exact wr_jumpJ_32 33 d s i b1 b2 wk (blk_cell bb1 0) (blk_cell bb2 0) ⟨by omega, by omega⟩
theorem knd_34 (base : Nat) (w : World) (g b go : Nat) (hg : blk w g #[.int .i64 32] 3) (hb : blk w b #[.slice (some ⟨go, 0, none⟩) 1 1] 22) (hgo : blk w go #[.int .u8 244] 5) (lg : base ≤ g) (lb : base ≤ b) (lgo : base ≤ go) : Knd base w (.agg #[.func (.func 126) #[] #[], .slice (some ⟨g, 0, none⟩) 1 1, .func (.func 127) #[] #[.pointer (some ⟨b, 0, none⟩)]]) 34 := by
  refine ⟨126, 127, #[], #[.pointer (some ⟨b, 0, none⟩)], g, fun x => x = g ∨ x = b ∨ x = go, rfl, fun _ _ => by kernel_rfl, fun _ _ => by kernel_rfl, ?_, ?_⟩
  · rintro x (rfl | rfl | rfl)
    · exact ⟨lg, blk_lt hg⟩
    · exact ⟨lb, blk_lt hb⟩
    · exact ⟨lgo, blk_lt hgo⟩
  · intro wk hs hT
    have kg := hT g (.inl rfl)
    have bg : blk wk g #[.int .i64 32] 3 := by unfold blk at hg ⊢; rw [kg]; exact hg
    have kb := hT b (.inr (.inl rfl))
    have bb : blk wk b #[.slice (some ⟨go, 0, none⟩) 1 1] 22 := by unfold blk at hb ⊢; rw [kb]; exact hb
    have kgo := hT go (.inr (.inr (rfl)))
    have bgo : blk wk go #[.int .u8 244] 5 := by unfold blk at hgo ⊢; rw [kgo]; exact hgo
    refine ⟨ints_blk (xs := [32]) bg rfl (by decide), fun x hx hz => ?_, fun x hx hok => ?_⟩
    · obtain ⟨o, d, s, z, i⟩ := x
      simp only at hx
      subst hx
      exact fit_bare 34 d s z i wk
    · have hf := ok_fit hok
      have hz := ok_sz hok
      clear hok
      obtain ⟨o, d, s, z, i⟩ := x
      simp only at hx
      subst hx
      exact wr_bare 34 d s z i _ [244] b wk (blk_cell bb 0) (ints_blk (xs := [244]) bgo rfl (by decide)) (by decide) (by decide)
theorem knd_35 (base : Nat) (w : World) (g b go : Nat) (hg : blk w g #[.int .i64 32] 3) (hb : blk w b #[.slice (some ⟨go, 0, none⟩) 2 2] 22) (hgo : blk w go #[.int .u8 15, .int .u8 11] 5) (lg : base ≤ g) (lb : base ≤ b) (lgo : base ≤ go) : Knd base w (.agg #[.func (.func 126) #[] #[], .slice (some ⟨g, 0, none⟩) 1 1, .func (.func 127) #[] #[.pointer (some ⟨b, 0, none⟩)]]) 35 := by
  refine ⟨126, 127, #[], #[.pointer (some ⟨b, 0, none⟩)], g, fun x => x = g ∨ x = b ∨ x = go, rfl, fun _ _ => by kernel_rfl, fun _ _ => by kernel_rfl, ?_, ?_⟩
  · rintro x (rfl | rfl | rfl)
    · exact ⟨lg, blk_lt hg⟩
    · exact ⟨lb, blk_lt hb⟩
    · exact ⟨lgo, blk_lt hgo⟩
  · intro wk hs hT
    have kg := hT g (.inl rfl)
    have bg : blk wk g #[.int .i64 32] 3 := by unfold blk at hg ⊢; rw [kg]; exact hg
    have kb := hT b (.inr (.inl rfl))
    have bb : blk wk b #[.slice (some ⟨go, 0, none⟩) 2 2] 22 := by unfold blk at hb ⊢; rw [kb]; exact hb
    have kgo := hT go (.inr (.inr (rfl)))
    have bgo : blk wk go #[.int .u8 15, .int .u8 11] 5 := by unfold blk at hgo ⊢; rw [kgo]; exact hgo
    refine ⟨ints_blk (xs := [32]) bg rfl (by decide), fun x hx hz => ?_, fun x hx hok => ?_⟩
    · obtain ⟨o, d, s, z, i⟩ := x
      simp only at hx
      subst hx
      exact fit_bare 35 d s z i wk
    · have hf := ok_fit hok
      have hz := ok_sz hok
      clear hok
      obtain ⟨o, d, s, z, i⟩ := x
      simp only at hx
      subst hx
      exact wr_bare 35 d s z i _ [15, 11] b wk (blk_cell bb 0) (ints_blk (xs := [15, 11]) bgo rfl (by decide)) (by decide) (by decide)
theorem knd_36 (base : Nat) (w : World) (g b go : Nat) (hg : blk w g #[.int .i64 32] 3) (hb : blk w b #[.slice (some ⟨go, 0, none⟩) 1 1] 22) (hgo : blk w go #[.int .u8 144] 5) (lg : base ≤ g) (lb : base ≤ b) (lgo : base ≤ go) : Knd base w (.agg #[.func (.func 126) #[] #[], .slice (some ⟨g, 0, none⟩) 1 1, .func (.func 127) #[] #[.pointer (some ⟨b, 0, none⟩)]]) 36 := by
  refine ⟨126, 127, #[], #[.pointer (some ⟨b, 0, none⟩)], g, fun x => x = g ∨ x = b ∨ x = go, rfl, fun _ _ => by kernel_rfl, fun _ _ => by kernel_rfl, ?_, ?_⟩
  · rintro x (rfl | rfl | rfl)
    · exact ⟨lg, blk_lt hg⟩
    · exact ⟨lb, blk_lt hb⟩
    · exact ⟨lgo, blk_lt hgo⟩
  · intro wk hs hT
    have kg := hT g (.inl rfl)
    have bg : blk wk g #[.int .i64 32] 3 := by unfold blk at hg ⊢; rw [kg]; exact hg
    have kb := hT b (.inr (.inl rfl))
    have bb : blk wk b #[.slice (some ⟨go, 0, none⟩) 1 1] 22 := by unfold blk at hb ⊢; rw [kb]; exact hb
    have kgo := hT go (.inr (.inr (rfl)))
    have bgo : blk wk go #[.int .u8 144] 5 := by unfold blk at hgo ⊢; rw [kgo]; exact hgo
    refine ⟨ints_blk (xs := [32]) bg rfl (by decide), fun x hx hz => ?_, fun x hx hok => ?_⟩
    · obtain ⟨o, d, s, z, i⟩ := x
      simp only at hx
      subst hx
      exact fit_bare 36 d s z i wk
    · have hf := ok_fit hok
      have hz := ok_sz hok
      clear hok
      obtain ⟨o, d, s, z, i⟩ := x
      simp only at hx
      subst hx
      exact wr_bare 36 d s z i _ [144] b wk (blk_cell bb 0) (ints_blk (xs := [144]) bgo rfl (by decide)) (by decide) (by decide)
end Go.Proofs.Ytdojafpjipcbjaa
