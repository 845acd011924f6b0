/- Lists of nodes of the call's own: a row of nodes, their Args in memory of the call's own. -/
import Derived.Test.YthopdfikikdcbaaBld
namespace Go.Proofs.Ythopdfikikdcbaa
open Go.RowKit Go.Maps
set_option linter.unusedVariables false
set_option linter.unusedSimpArgs false
structure OSt (base : Nat) (o : List Nd) (R : Nat → Prop) (w : World) (nv : Value) (avs : List Value) : Prop where
  row : w.ownsRow base 47 5 nv o.length (rowsC o avs)
  len : avs.length = o.length
  args : ∀ i, i < o.length → IntsT R w (avs.getD i undef) (o.getD i default).args
  Rlt : ∀ b, R b → base ≤ b ∧ b < w.heap.size
  nvR : ∀ b, nv.ownBlock = some b → ¬ R b
theorem OSt.nil (base : Nat) (w : World) : OSt base [] (fun _ => False) w (.slice none 0 0) [] :=
  ⟨World.ownsRow_nil _ _ _ _, rfl, fun i hi => absurd hi (by simp), fun b h => h.elim, fun b h => by cases h⟩
theorem OSt.chg {base : Nat} {o : List Nd} {R U : Nat → Prop} {w w' : World} {nv : Value} {avs : List Value} (h : OSt base o R w nv avs) (hc : Chg U w w') (hU : ∀ b, nv.ownBlock = some b → ¬ U b) (hR : ∀ b, R b → ¬ U b) : OSt base o R w' nv avs :=
  { row := own_same (T := fun b => nv.ownBlock = some b) h.row (hc.same fun k hk => ⟨own_lt h.row k hk, hU k hk⟩) (fun b h => h)
    len := h.len
    args := fun i hi => (h.args i hi).same (hc.same fun k hk => ⟨(h.Rlt k hk).2, hR k hk⟩)
    Rlt := fun b hb => ⟨(h.Rlt b hb).1, Nat.lt_of_lt_of_le (h.Rlt b hb).2 hc.size⟩
    nvR := h.nvR }
theorem OSt.below {base : Nat} {o : List Nd} {R : Nat → Prop} {w w' : World} {nv : Value} {avs : List Value} (h : OSt base o R w nv avs) (hb : Below w.heap.size w w') : OSt base o R w' nv avs :=
  h.chg (U := fun _ => False) (Chg.of_below hb) (fun _ _ h => h) (fun _ _ h => h)
theorem OSt.add {base : Nat} {o : List Nd} {R : Nat → Prop} {w w2 : World} {nv v' av : Value} {avs : List Value} {x : Nd} (h : OSt base o R w nv avs) (hF : IntsF w av x.args)
    (hav : ∀ b, av.ownBlock = some b → ¬ nv.ownBlock = some b ∧ base ≤ b ∧ b < w.heap.size) (hg : Chg (fun b => nv.ownBlock = some b) w w2)
    (hown : w2.ownsRow base 47 5 v' (o.length + 1) (rowsC o avs ++ rowC x av)) (hv' : v'.ownBlock = nv.ownBlock ∨ ∃ g, v'.ownBlock = some g ∧ w.heap.size ≤ g) :
    OSt base (o ++ [x]) (fun b => R b ∨ av.ownBlock = some b) w2 v' (avs ++ [av]) := by
  have sameR : Same R w w2 := hg.same fun k hk => ⟨(h.Rlt k hk).2, fun e => h.nvR k e hk⟩
  have sameA : Same (fun b => av.ownBlock = some b) w w2 := hg.same fun k hk => ⟨(hav k hk).2.2, (hav k hk).1⟩
  exact {
    row := by rw [rowsC_snoc x av o avs h.len, List.length_append]; exact hown
    len := by rw [List.length_append, List.length_append, h.len]; rfl
    args := fun i hi => by
      by_cases hlt : i < o.length
      · have e1 : (avs ++ [av]).getD i undef = avs.getD i undef := by rw [List.getD_eq_getElem?_getD, List.getD_eq_getElem?_getD, List.getElem?_append_left (by rw [h.len]; exact hlt)]
        rw [e1, getD_pre hlt]
        exact ((h.args i hlt).same sameR).mono fun k hk => .inl hk
      · obtain rfl : i = o.length := by rw [List.length_append] at hi; simp at hi; omega
        have e1 : (avs ++ [av]).getD o.length undef = av := by rw [List.getD_eq_getElem?_getD, List.getElem?_append_right (by rw [h.len]; exact Nat.le_refl _), h.len, Nat.sub_self]; rfl
        have e2 : (o ++ [x]).getD o.length default = x := by rw [List.getD_eq_getElem?_getD, List.getElem?_append_right (Nat.le_refl _), Nat.sub_self]; rfl
        rw [e1, e2]
        exact (IntsT.same ⟨hF, fun b h => h⟩ sameA).mono fun k hk => .inr hk
    Rlt := fun b hb => by
      have := hg.size
      rcases hb with hb | hb
      · have := h.Rlt b hb; omega
      · have := hav b hb; omega
    nvR := fun b hb hr => by
      rcases hv' with e | ⟨g, e, hge⟩
      · rw [e] at hb
        rcases hr with hr | hr
        · exact h.nvR b hb hr
        · exact (hav b hr).1 hb
      · rw [e] at hb
        cases hb
        rcases hr with hr | hr
        · have := (h.Rlt b hr).2; omega
        · have := (hav b hr).2.2; omega }
theorem OSt.nds {base : Nat} {o : List Nd} {R : Nat → Prop} {w : World} {nv : Value} {avs : List Value} (h : OSt base o R w nv avs) (hl : o.length ≤ 100000) : Nds w nv o := by
  have hr := h.row
  obtain ⟨h0, ⟨e, h1⟩ | ⟨g, cap, cur, e, hb', hg, h1, h2, h3, h4⟩⟩ := hr
  · exact ⟨none, 0, by rw [e, h1], by omega, ⟨by omega, by omega⟩, fun _ => rfl, fun i hi => absurd hi (by omega)⟩
  · have hlt : g < w.heap.size := by
      rcases Nat.lt_or_ge g w.heap.size with h | h
      · exact h
      · rw [Array.getElem?_eq_none h] at hg; cases hg
    refine ⟨some ⟨g, 0, none⟩, cap, e, h1, ⟨by omega, by unfold maxLen at h2; omega⟩, (fun hh => by cases hh), fun i hi => ⟨g, 0, rfl, hlt, ?_⟩⟩
    rw [Nat.zero_add]
    have cell : ∀ j, j < 5 → w.cell? ⟨g, i * 5 + j, none⟩ = (rowC (o.getD i default) (avs.getD i undef))[j]? := by
      intro j hj
      have e1 : w.cell? ⟨g, i * 5 + j, none⟩ = cur.toList[i * 5 + j]? := by simp [World.cell?, hg]
      have e2 : (cur.toList.take (o.length * 5))[i * 5 + j]? = cur.toList[i * 5 + j]? := by rw [List.getElem?_take, if_pos (by omega)]
      rw [e1, ← e2, h4]
      exact rowsC_get o avs h.len i j hi hj
    exact ⟨cell 0 (by omega), cell 1 (by omega), cell 2 (by omega), ⟨_, cell 3 (by omega), (h.args i hi).1.ints⟩, cell 4 (by omega)⟩
theorem BSt.ost {bb : Nat} {o : List Nd} {W R : Nat → Prop} {w : World} {nv fv : Value} {avs : List Value} (h : BSt bb o W R w nv fv avs) (hR : ∀ b, R b → 0 ≤ b) : OSt 0 o R w nv avs :=
  ⟨h.row, h.len, h.args, fun b hb => ⟨hR b hb, h.Rlt b hb⟩, fun b hb hr => h.WR b (h.rowW b hb).1 hr⟩
/-- The Args of a node that was read are copied: what lies where. -/
theorem ownsRow_empty (w : World) (base : Nat) (hb : base ≤ w.heap.size) (e : TypeId) : (w.alloc (.cells #[] e)).ownsRow base e 1 (.slice (some ⟨w.heap.size, 0, none⟩) 0 0) 0 [] :=
  ⟨rfl, .inr ⟨w.heap.size, 0, #[], rfl, hb, Array.getElem?_push_size, Nat.le_refl _, Nat.zero_le _, rfl, rfl⟩⟩
end Go.Proofs.Ythopdfikikdcbaa
