/- Walks of package term: the widths of the variables, and which terms are valid. -/
import Derived.Test.YthopdfikikdcbaaTc
namespace Go.Proofs.Ythopdfikikdcbaa
open Go.RowKit Wd
set_option linter.unusedVariables false
set_option linter.unusedSimpArgs false
/-- The widths of the variables behind one node more; none if a variable has two. -/
def wstep (l : Option (List Int)) (x : Nd) : Option (List Int) :=
  match l with
  | none => none
  | some l => if x.op = 33 then (if l.getD x.imm.toNat 0 ≠ 0 ∧ l.getD x.imm.toNat 0 ≠ x.width then none else some (l.set x.imm.toNat x.width)) else some l
def wmap (ts : List Nd) : Option (List Int) := ts.foldl wstep (some [0, 0, 0, 0])
theorem take_snoc {α : Type} [Inhabited α] (l : List α) (j : Nat) (h : j < l.length) : l.take (j + 1) = l.take j ++ [l.getD j default] := by
  rw [List.take_succ_eq_append_getElem h, List.getD_eq_getElem?_getD, List.getElem?_eq_getElem h]; rfl
theorem wmap_snoc (ts : List Nd) (j : Nat) (h : j < ts.length) : wmap (ts.take (j + 1)) = wstep (wmap (ts.take j)) (ts.getD j default) := by
  unfold wmap; rw [take_snoc ts j h, List.foldl_append]; rfl
theorem wstep_none (ts : List Nd) : ts.foldl wstep none = none := by
  induction ts with
  | nil => rfl
  | cons x ts ih => exact ih
theorem wmap_dead (ts : List Nd) (j : Nat) (h : wmap (ts.take j) = none) : wmap ts = none := by
  have e : ts = ts.take j ++ ts.drop j := (List.take_append_drop j ts).symm
  unfold wmap at *
  rw [e, List.foldl_append, h, wstep_none]
theorem wstep_len {l l' : List Int} {x : Nd} (h : wstep (some l) x = some l') : l'.length = l.length := by
  simp only [wstep] at h
  by_cases c : x.op = 33
  · rw [if_pos c] at h
    by_cases d : l.getD x.imm.toNat 0 ≠ 0 ∧ l.getD x.imm.toNat 0 ≠ x.width
    · rw [if_pos d] at h; cases h
    · rw [if_neg d] at h; cases h; simp
  · rw [if_neg c] at h; cases h; rfl
theorem wstep_var {l : List Int} {w : Int} {f : Int} {g : List Int} {k : Nat} (h : l.getD k 0 = 0 ∨ l.getD k 0 = w) : wstep (some l) ⟨33, w, f, g, k⟩ = some (l.set k w) := by
  simp only [wstep, if_true, Int.toNat_natCast]
  rw [if_neg (by omega)]
theorem wstep_bad {l : List Int} {w : Int} {f : Int} {g : List Int} {k : Nat} (h : ¬ (l.getD k 0 = 0 ∨ l.getD k 0 = w)) : wstep (some l) ⟨33, w, f, g, k⟩ = none := by
  simp only [wstep, if_true, Int.toNat_natCast]
  rw [if_pos (by omega)]
theorem wstep_other {l : List Int} {x : Nd} (h : x.op ≠ 33) : wstep (some l) x = some l := by
  simp only [wstep, if_neg h]
theorem mem_getD {α : Type} [Inhabited α] {l : List α} {j : Nat} (h : j < l.length) : l.getD j default ∈ l := by
  rw [List.getD_eq_getElem?_getD, List.getElem?_eq_getElem h]; exact List.getElem_mem h

/-- Block B of w holds the integers xs, and may be written. -/
def OInts (k : IntKind) (w : World) (B : Nat) (xs : List Int) : Prop :=
  B < w.heap.size ∧ ∀ i, i < xs.length → w.cell? ⟨B, i, none⟩ = some (.int k (xs.getD i 0)) ∧ w.frozen? ⟨B, i, none⟩ = false
theorem OInts.cell {k : IntKind} {w : World} {B : Nat} {xs : List Int} (h : OInts k w B xs) {i : Nat} (hi : i < xs.length) : w.cell? ⟨B, i, none⟩ = some (.int k (xs.getD i 0)) := (h.2 i hi).1
theorem OInts.free {k : IntKind} {w : World} {B : Nat} {xs : List Int} (h : OInts k w B xs) {i : Nat} (hi : i < xs.length) : w.frozen? ⟨B, i, none⟩ = false := (h.2 i hi).2
theorem OInts.below {k : IntKind} {w w' : World} {B : Nat} {xs : List Int} (h : OInts k w B xs) (hb : Below w.heap.size w w') : OInts k w' B xs :=
  ⟨Nat.lt_of_lt_of_le h.1 hb.size, fun i hi => ⟨by rw [← h.cell hi]; exact hb.cell (p := ⟨B, i, none⟩) h.1, by rw [← h.free hi]; exact hb.frozen (p := ⟨B, i, none⟩) h.1⟩⟩
theorem OInts.alloc {k : IntKind} {w : World} {B : Nat} {xs : List Int} (h : OInts k w B xs) (ob : Obj) : OInts k (w.alloc ob) B xs := h.below ((Below.refl _ _).alloc (Nat.le_refl _) _)
theorem OInts.drewN {k : IntKind} {w : World} {B : Nat} {xs : List Int} (h : OInts k w B xs) (n : Nat) : OInts k (w.drewN n) B xs := h
theorem OInts.set {k : IntKind} {w : World} {B : Nat} {xs : List Int} (h : OInts k w B xs) {i : Nat} (hi : i < xs.length) (x : Int) : OInts k (w.setCell ⟨B, i, none⟩ (.int k x)) B (xs.set i x) := by
  refine ⟨by simpa using h.1, fun j hj => ?_⟩
  rw [List.length_set] at hj
  refine ⟨?_, by rw [World.frozen?_setCell]; exact h.free hj⟩
  by_cases e : i = j
  · subst e
    rw [World.cell?_setCell_same _ _ _ (h.cell hi), List.getD_eq_getElem?_getD, List.getElem?_set_self hi]; rfl
  · rw [World.cell?_setCell_other _ _ _ _ (by intro hh; cases hh; exact e rfl), h.cell hj, List.getD_eq_getElem?_getD, List.getD_eq_getElem?_getD, List.getElem?_set_ne e]
theorem OInts.ints {k : IntKind} {w : World} {B : Nat} {xs : List Int} (h : OInts k w B xs) (hl : xs.length ≤ 140737488351232) : Ints k w (.slice (some ⟨B, 0, none⟩) xs.length xs.length) xs :=
  ⟨some ⟨B, 0, none⟩, xs.length, rfl, Nat.le_refl _, ⟨hl, by omega⟩, (fun hh => by cases hh), fun i hi => ⟨B, 0, rfl, h.1, by rw [Nat.mul_one, Nat.zero_add]; exact h.cell hi⟩⟩
theorem wmap_len {ts : List Nd} {l : List Int} : wmap ts = some l → l.length = 4 := by
  have h : ∀ (ts : List Nd) (l0 : List Int), ts.foldl wstep (some l0) = some l → l.length = l0.length := by
    intro ts
    induction ts with
    | nil => intro l0 h; cases h; rfl
    | cons x ts ih =>
      intro l0 h
      rw [List.foldl_cons] at h
      cases e : wstep (some l0) x with
      | none => rw [e, wstep_none] at h; cases h
      | some l1 => rw [e] at h; rw [ih l1 h, wstep_len e]
  intro h'
  exact h ts [0, 0, 0, 0] h'

set_option maxRecDepth 100000 in
set_option maxHeartbeats 4000000 in
theorem widths_any (ts : List Nd) (tv : Value) (w : World) (hts : Nds w tv ts) (hi : ∀ x ∈ ts, 0 ≤ x.imm ∧ (x.op = 33 → x.imm < 4)) : Calls Try.prog 44 #[tv] w fun e w' => ∃ v, e = .returned (.tuple #[v, .bool (wmap ts).isSome]) ∧ (∀ l, wmap ts = some l → Ints .i64 w' v l) ∧ (wmap ts = none → v = .slice none 0 0) ∧ Below w.heap.size w w' := by
  have HT := Lib.hid hts
  have HI := Lib.hid hi
  obtain ⟨ta, tc, rfl, ht1, ht2, ht3, ht4⟩ := hts
  have hlen : ts.length ≤ 140737488351232 := by omega
  clear hi ht3 ht4
  have hmk : ∀ w : World, (Instr.makeSlice 25 (.int .i64 4) (.int .i64 4)).run Try.prog w = .ok (.slice (some ⟨w.heap.size, 0, none⟩) 4 4) (w.alloc (.cells #[.int .i64 0, .int .i64 0, .int .i64 0, .int .i64 0] 3)) := fun _ => by kernel_rfl
  go_enter Try.func44, Try.ntmps44
  go_wp2_with fail
  go_loopw [11] (fun i wr => ∃ (j : Nat) (l : List Int), j ≤ ts.length ∧ i = .int .i64 j ∧ Hid (wmap (ts.take j) = some l) ∧ l.length = 4 ∧ OInts .i64 wr w.heap.size l ∧ Below w.heap.size w wr) (fun i _ => ts.length - (intOf i).toNat)
  case atStart =>
    refine ⟨0, [0, 0, 0, 0], Nat.zero_le _, rfl, rfl, rfl, ⟨by simp, fun i hi => ?_⟩, (Below.refl _ _).alloc (Nat.le_refl _) _⟩
    have : i = 0 ∨ i = 1 ∨ i = 2 ∨ i = 3 := by simp at hi; omega
    rcases this with rfl | rfl | rfl | rfl <;> simp [go_sem]
  case round =>
    obtain ⟨j, l, hj, rfl, hm, h4, ho, hb⟩ := hrel
    have hBs := ho.1
    by_cases hlt : j < ts.length
    · have hx := HI.out _ (mem_getD hlt)
      have hn := HT.out.stays hb
      obtain ⟨a', c', e', _, _, _, hcell⟩ := hn
      cases e'
      obtain ⟨b, q, rfl, hbq, c0, c1, c2, ⟨av, c3, hav⟩, c4⟩ := hcell j hlt
      have HS := Lib.hid (wmap_snoc ts j hlt)
      clear hcell
      generalize ts.getD j default = x at *
      obtain ⟨op, width, flags, args, imm⟩ := x
      obtain ⟨aa, ac, rfl, _⟩ := hav
      simp only at hx c0 c1 c2 c3 c4
      obtain ⟨k, rfl⟩ := Int.eq_ofNat_of_zero_le hx.1
      cases h33 : (op != 33)
      · have e33 : op = 33 := by simpa using h33
        have hk := hx.2 e33
        subst e33
        have hk4 : k < l.length := by omega
        have d0 := ho.cell hk4
        have d1 := ho.free hk4
        clear hx
        generalize hy : l.getD k 0 = y at d0
        have HY := Lib.hid hy
        clear hy
        cases hz : (y != 0)
        · have HZ : Hid (y = 0) := by have : y = 0 := by simpa using hz
                                      exact this
          go_wp2_with fail
          go_roundw
          case rel => exact ⟨j + 1, l.set k width, by omega, by go_num, by rw [HS.out, hm.out]; exact wstep_var (.inl (by rw [HY.out, HZ.out])), by simp [h4], (ho.set hk4 width).alloc _, (below_at hb (Nat.le_refl _) _ _).alloc (by simp; omega) _⟩
          case measure => simp [intOf]; omega
        · have HZ : Hid (¬ y = 0) := by have : ¬ y = 0 := by simpa using hz
                                        exact this
          cases hq : (y != width)
          · have HQ : Hid (y = width) := by have : y = width := by simpa using hq
                                            exact this
            go_wp2_with fail
            go_roundw
            case rel => exact ⟨j + 1, l.set k width, by omega, by go_num, by rw [HS.out, hm.out]; exact wstep_var (.inr (by rw [HY.out, HQ.out])), by simp [h4], (ho.set hk4 width).alloc _, (below_at hb (Nat.le_refl _) _ _).alloc (by simp; omega) _⟩
            case measure => simp [intOf]; omega
          · have HQ : Hid (¬ y = width) := by have : ¬ y = width := by simpa using hq
                                              exact this
            have hd : wmap ts = none := wmap_dead ts (j + 1) (by rw [HS.out, hm.out]; exact wstep_bad (by rw [HY.out]; intro h; rcases h with h | h; exact HZ.out h; exact HQ.out h))
            have HD := Lib.hid hd
            clear hd
            go_wp2_with fail
            rw [HD.out]
            go_ret2
            exact ⟨_, rfl, (fun l' h' => by cases h'), (fun _ => rfl), hb.alloc hb.size _⟩
      · clear hx
        go_wp2_with fail
        go_roundw
        case rel => exact ⟨j + 1, l, by omega, by go_num, by rw [HS.out, hm.out]; exact wstep_other (by simpa using h33), h4, ho.alloc _, hb.alloc hb.size _⟩
        case measure => simp [intOf]; omega
    · obtain rfl : j = ts.length := by omega
      go_wp2_with fail
      have hm' := hm.out
      rw [List.take_length] at hm'
      rw [hm']
      go_ret2
      refine ⟨_, rfl, ?_, ?_, hb⟩
      · intro l' h'
        cases h'
        have := ho.ints (by omega)
        rw [h4] at this
        exact this
      · intro h'
        cases h'

end Go.Proofs.Ythopdfikikdcbaa
