/- Memory in which only some blocks change: what a call may have written, and what stays. -/
import Derived.Test.YthopdfikikdcbaaMap
import Derived.Test.YthopdfikikdcbaaNode
namespace Go.Proofs.Ythopdfikikdcbaa
open Go.RowKit Go.Maps
set_option linter.unusedVariables false
set_option linter.unusedSimpArgs false
/-- From w to w' nothing that was there has changed but blocks of T. -/
structure Chg (T : Nat → Prop) (w w' : World) : Prop where
  os : w'.os = w.os
  tape : w'.tape = w.tape
  output : w'.output = w.output
  size : w.heap.size ≤ w'.heap.size
  block : ∀ k, k < w.heap.size → ¬ T k → w'.heap[k]? = w.heap[k]?
/-- The blocks of T are in w' what they were in w. -/
def Same (T : Nat → Prop) (w w' : World) : Prop := w.heap.size ≤ w'.heap.size ∧ ∀ k, T k → w'.heap[k]? = w.heap[k]?
theorem Chg.refl (T : Nat → Prop) (w : World) : Chg T w w := ⟨rfl, rfl, rfl, Nat.le_refl _, fun _ _ _ => rfl⟩
theorem Chg.trans {T T1 : Nat → Prop} {w w1 w2 : World} (h : Chg T w w1) (h' : Chg T1 w1 w2) (hT : ∀ k, k < w.heap.size → T1 k → T k) : Chg T w w2 :=
  ⟨h'.os.trans h.os, h'.tape.trans h.tape, h'.output.trans h.output, Nat.le_trans h.size h'.size, fun k hk hn =>
    (h'.block k (Nat.lt_of_lt_of_le hk h.size) (fun e => hn (hT k hk e))).trans (h.block k hk hn)⟩
theorem Chg.mono {T T1 : Nat → Prop} {w w' : World} (h : Chg T1 w w') (hT : ∀ k, k < w.heap.size → T1 k → T k) : Chg T w w' :=
  ⟨h.os, h.tape, h.output, h.size, fun k hk hn => h.block k hk (fun e => hn (hT k hk e))⟩
theorem Chg.of_below {T : Nat → Prop} {w w' : World} (h : Below w.heap.size w w') : Chg T w w' :=
  ⟨h.os, h.tape, h.output, h.size, fun k hk _ => h.block k hk⟩
theorem Chg.of_grown {T : Nat → Prop} {w w' : World} {row : Option Nat} (h : w.grownBy w' row) (hT : ∀ k, row = some k → T k) : Chg T w w' :=
  ⟨h.os, h.tape, h.output, h.size, fun k hk hn => h.block k hk (fun e => hn (hT k e.symm))⟩
theorem Chg.below {T : Nat → Prop} {B : Nat} {w w' : World} (h : Chg T w w') (hB : B ≤ w.heap.size) (hT : ∀ k, T k → B ≤ k) : Below B w w' :=
  ⟨h.os, h.tape, h.output, h.size, fun k hk => h.block k (by omega) (fun e => by have := hT k e; omega)⟩
theorem Chg.setCell {T : Nat → Prop} {w w' : World} (h : Chg T w w') {b o : Nat} (hb : T b) (v : Value) : Chg T w (w'.setCell ⟨b, o, none⟩ v) :=
  ⟨h.os, h.tape, h.output, Nat.le_trans h.size (by simp [World.setCell]), fun k hk hn =>
    (Below.heap_setCell w' ⟨b, o, none⟩ v k (fun e => hn (e ▸ hb))).trans (h.block k hk hn)⟩
theorem Chg.setMap {T : Nat → Prop} {w w' : World} (h : Chg T w w') {b : Nat} (hb : T b) (es : Array MapEntry) (c : Nat) : Chg T w (setMap w' b es c) :=
  ⟨h.os, h.tape, h.output, Nat.le_trans h.size (by simp [Go.Proofs.Ythopdfikikdcbaa.setMap]), fun k hk hn => by
    refine Eq.trans ?_ (h.block k hk hn)
    show (w'.heap.setIfInBounds b _)[k]? = _
    rw [Array.getElem?_setIfInBounds, if_neg (fun e => hn (by rw [← e]; exact hb))]⟩
theorem Chg.alloc {T : Nat → Prop} {w w' : World} (h : Chg T w w') (o : Obj) : Chg T w (w'.alloc o) :=
  ⟨h.os, h.tape, h.output, Nat.le_trans h.size (by simp), fun k hk hn => (Below.heap_alloc w' o k (Nat.lt_of_lt_of_le hk h.size)).trans (h.block k hk hn)⟩
theorem Chg.drewN {T : Nat → Prop} {w w' : World} (h : Chg T w w') (n : Nat) : Chg T w (w'.drewN n) := ⟨h.os, h.tape, h.output, h.size, h.block⟩
theorem Chg.drew {T : Nat → Prop} {w w' : World} (h : Chg T w w') : Chg T w w'.drew := ⟨h.os, h.tape, h.output, h.size, h.block⟩
theorem Chg.cell {T : Nat → Prop} {w w' : World} (h : Chg T w w') {b o : Nat} {v : Value} (hb : ¬ T b) (hc : w.cell? ⟨b, o, none⟩ = some v) : w'.cell? ⟨b, o, none⟩ = some v := by
  rw [← hc]; exact World.cell?_of_block (w := w) (h.block b (cell_lt hc) hb)
theorem Chg.frozen {T : Nat → Prop} {w w' : World} (h : Chg T w w') {b o : Nat} (hb : ¬ T b) (hl : b < w.heap.size) : w'.frozen? ⟨b, o, none⟩ = w.frozen? ⟨b, o, none⟩ :=
  World.frozen?_of_block (w := w) (h.block b hl hb)
theorem Chg.same {T U : Nat → Prop} {w w' : World} (h : Chg U w w') (hT : ∀ k, T k → k < w.heap.size ∧ ¬ U k) : Same T w w' :=
  ⟨h.size, fun k hk => h.block k (hT k hk).1 (hT k hk).2⟩
theorem Same.mono {T T1 : Nat → Prop} {w w' : World} (h : Same T w w') (hT : ∀ k, T1 k → T k) : Same T1 w w' := ⟨h.1, fun k hk => h.2 k (hT k hk)⟩
theorem Same.cell {T : Nat → Prop} {w w' : World} (h : Same T w w') {b o : Nat} {v : Value} (hb : T b) (hc : w.cell? ⟨b, o, none⟩ = some v) : w'.cell? ⟨b, o, none⟩ = some v := by
  rw [← hc]; exact World.cell?_of_block (w := w) (h.2 b hb)
theorem Same.frozen {T : Nat → Prop} {w w' : World} (h : Same T w w') {b o : Nat} (hb : T b) : w'.frozen? ⟨b, o, none⟩ = w.frozen? ⟨b, o, none⟩ :=
  World.frozen?_of_block (w := w) (h.2 b hb)
theorem Same.mapAt {T : Nat → Prop} {w w' : World} (h : Same T w w') {b : Nat} (hb : T b) : mapAt w' b = mapAt w b := by
  unfold Go.Proofs.Ythopdfikikdcbaa.mapAt; rw [h.2 b hb]
theorem MapIs.same {P : Program} {K : TypeId} {T : Nat → Prop} {w w' : World} {r : Nat} {l : List (Value × Value)} (h : MapIs P K w r l) (hs : Same T w w') (hr : T r) : MapIs P K w' r l := by
  obtain ⟨h0, h1, h2, h3⟩ := h
  exact ⟨Nat.lt_of_lt_of_le h0 hs.1, by rw [hs.mapAt hr]; exact h1, h2, h3⟩
/-- The slice v holds xs, and may be written. -/
structure IntsF (w : World) (v : Value) (xs : List Int) : Prop where
  ints : Ints .i64 w v xs
  free : ∀ b q n c, v = .slice (some ⟨b, q, none⟩) n c → ∀ i, i < xs.length → w.frozen? ⟨b, q + i, none⟩ = false
/-- The same, and it lies in T. -/
def IntsT (T : Nat → Prop) (w : World) (v : Value) (xs : List Int) : Prop := IntsF w v xs ∧ ∀ b, v.ownBlock = some b → T b
theorem IntsT.same {T : Nat → Prop} {w w' : World} {v : Value} {xs : List Int} (h : IntsT T w v xs) (hs : Same T w w') : IntsT T w' v xs := by
  obtain ⟨⟨⟨a, c, rfl, h1, h2, h3, h4⟩, hf⟩, hT⟩ := h
  refine ⟨⟨⟨a, c, rfl, h1, h2, h3, fun i hi => ?_⟩, fun b q n c e i hi => ?_⟩, hT⟩
  · obtain ⟨b, o, rfl, h5, h6⟩ := h4 i hi
    exact ⟨b, o, rfl, Nat.lt_of_lt_of_le h5 hs.1, hs.cell (hT b rfl) h6⟩
  · rw [hs.frozen (hT b (by rw [e]; rfl))]
    exact hf b q n c e i hi
theorem IntsT.mono {T T' : Nat → Prop} {w : World} {v : Value} {xs : List Int} (h : IntsT T w v xs) (hT : ∀ k, T k → T' k) : IntsT T' w v xs := ⟨h.1, fun b hb => hT b (h.2 b hb)⟩
theorem RowI.intsF {w : World} {base : Nat} {e : TypeId} {v : Value} {xs : List Int} (h : RowI w base e .i64 v xs) (hl : xs.length ≤ 140737488351232) : IntsF w v xs := by
  refine ⟨h.ints hl, fun b q n c ev i hi => ?_⟩
  obtain ⟨_, ⟨rfl, h0⟩ | ⟨g, cap, cur, rfl, hb, hg, h1, h2, h3, h4⟩⟩ := h
  · cases ev
  · cases ev
    simp [World.frozen?, hg]
theorem IntsF.nil (w : World) : IntsF w (.slice none 0 0) [] := ⟨(RowI.nil w 0 0 .i64).ints (by simp), fun b q n c e => by cases e⟩
theorem Ints.chg {k : IntKind} {T : Nat → Prop} {w w' : World} {v : Value} {xs : List Int} (h : Ints k w v xs) (hc : Chg T w w') (hT : ∀ b, v.ownBlock = some b → ¬ T b) : Ints k w' v xs := by
  obtain ⟨a, c, rfl, h1, h2, h3, h4⟩ := h
  refine ⟨a, c, rfl, h1, h2, h3, fun i hi => ?_⟩
  obtain ⟨b, o, rfl, h5, h6⟩ := h4 i hi
  exact ⟨b, o, rfl, Nat.lt_of_lt_of_le h5 hc.size, hc.cell (hT b rfl) h6⟩
theorem own_same {T : Nat → Prop} {w w' : World} {base : Nat} {e : TypeId} {size : Nat} {v : Value} {n : Nat} {xs : List Value} (h : w.ownsRow base e size v n xs) (hs : Same T w w') (hT : ∀ b, v.ownBlock = some b → T b) : w'.ownsRow base e size v n xs := by
  obtain ⟨h0, h1 | ⟨g, cap, cur, rfl, hb', hg, h2⟩⟩ := h
  · exact ⟨h0, .inl h1⟩
  · exact ⟨h0, .inr ⟨g, cap, cur, rfl, hb', by rw [hs.2 g (hT g rfl)]; exact hg, h2⟩⟩
theorem own_lt {w : World} {base : Nat} {e : TypeId} {size : Nat} {v : Value} {n : Nat} {xs : List Value} (h : w.ownsRow base e size v n xs) : ∀ b, v.ownBlock = some b → b < w.heap.size := fun b hb => (h.lt b hb).2
end Go.Proofs.Ythopdfikikdcbaa
