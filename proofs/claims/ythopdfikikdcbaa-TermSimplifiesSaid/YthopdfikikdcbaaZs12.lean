/- What the reading of an argument gives: a slice of integers, a list of nodes. -/
import Derived.Deep.Slices
import Derived.SizedLaws
import Derived.DataReads
import Derived.ChangeSlices
import Derived.Test.YthopdfikikdcbaaZs1
import Derived.Test.YthopdfikikdcbaaZs9
import Derived.Test.YthopdfikikdcbaaZs11
namespace Go.Proofs.Ythopdfikikdcbaa
open Go.RowKit Go.WideShapes Go.ChangeShapes Go.Deep
set_option linter.unusedVariables false
set_option linter.unusedSimpArgs false
section
variable {H : Type} {enc : TypeId × Value → H} {P : Program} {W : World} {base : Nat} {held : Bool}
/-- An integer's value fits its kind. -/
def FitsK (k : IntKind) (x : Int) : Prop := (Lit.int k x).wf = true
theorem weights_len {t e : TypeId} {elems spare : List (DataW H)} (ht : P.underlying t = some (.slice e)) (hb : 1 ≤ P.bytesOf e) (hw : ∀ n ∈ (DataW.slice elems spare).weights P t, n ≤ reachBytes) : elems.length + spare.length ≤ 140737488351232 := by
  have h := hw ((elems.length + spare.length) * P.bytesOf e) (by simp [DataW.weights, ht])
  have h2 : elems.length + spare.length ≤ (elems.length + spare.length) * P.bytesOf e := Nat.le_mul_of_pos_right _ hb
  unfold reachBytes at h
  omega
theorem readI {t e : TypeId} {k : IntKind} {fuel : Nat} {cs : List Value} {d : DataW H} {ps : List MemPlace} (ht : P.underlying t = some (.slice e)) (he : P.underlying e = some (.int k)) (hc : P.cellsOf e = 1) (hby : 1 ≤ P.bytesOf e)
    (h : DataW.trod enc P W base (fun _ => true) held fuel t cs = some (d, ps)) (hw : ∀ n ∈ d.weights P t, n ≤ reachBytes) : ∃ v xs, cs = [v] ∧ Ints k W v xs ∧ ∀ x ∈ xs, FitsK k x := by
  rcases open_ints ht he hc h with ⟨rfl, hx⟩ | ⟨a, len, cap, zs, rfl, hb, hl, hm, hz, hx, hcell, hwf⟩
  · exact ⟨_, [], rfl, ⟨none, 0, rfl, Nat.le_refl _, ⟨by simp, by omega⟩, fun _ => rfl, fun i hi => absurd hi (by simp)⟩, fun x hx => by cases hx⟩
  · simp only [if_true] at hz
    simp only [Prod.mk.injEq] at hx
    have hcap : cap ≤ 140737488351232 := by
      rw [hx.1] at hw
      have := weights_len ht hby hw
      simp [lits] at this
      omega
    have hlen : (zs.take len).length = len := by rw [List.length_take]; omega
    refine ⟨_, zs.take len, rfl, ⟨some a, cap, by rw [hlen], by omega, ⟨by omega, by unfold maxLen at hm; omega⟩, (fun hh => by cases hh), fun i hi => ?_⟩, fun x hx => hwf x (List.mem_of_mem_take hx)⟩
    rw [hlen] at hi
    have hc0 := hcell i (by omega)
    have hs := World.cell?_spot hc0
    obtain ⟨b, o, s⟩ := a
    have hsp : s = none := by
      by_cases e0 : i = 0
      · subst e0; exact World.cell?_spot (hcell 0 (by omega))
      · exact World.cell?_spot (hcell 0 (by omega))
    subst hsp
    have e1 : (⟨b, o, none⟩ : Addr).add i = ⟨b, o + i, none⟩ := by
      unfold Addr.add
      by_cases e0 : i = 0
      · rw [if_pos e0, e0]; rfl
      · rw [if_neg e0]
    rw [e1] at hc0
    refine ⟨b, o, rfl, cell_lt hc0, ?_⟩
    show W.cell? ⟨b, o + i * 1, none⟩ = _
    rw [Nat.mul_one, hc0, List.getD_eq_getElem?_getD, List.getD_eq_getElem?_getD, List.getElem?_take, if_pos hi]
theorem add_add (b o i j : Nat) : ((⟨b, o, none⟩ : Addr).add i).add j = ⟨b, o + i + j, none⟩ := by
  have e : ∀ (o i : Nat), (⟨b, o, none⟩ : Addr).add i = ⟨b, o + i, none⟩ := by
    intro o i
    unfold Addr.add
    by_cases e0 : i = 0
    · rw [if_pos e0, e0]; rfl
    · rw [if_neg e0]
  rw [e, e]
theorem weights_mem {fs : Array Field} {t : TypeId} {parts : List (DataW H)} (ht : P.underlying t = some (.struct fs)) {i : Nat} {f : Field} {d : DataW H} (hf : fs[i]? = some f) (hd : parts[i]? = some d) {n : Nat} (hn : n ∈ d.weights P f.type) : n ∈ (DataW.agg parts).weights P t := by
  have h1 : (fs.toList.map (·.type))[i]? = some f.type := by rw [List.getElem?_map]; simp [hf]
  have := DataW.weights_mem_each h1 hd n hn
  simpa [DataW.weights, ht] using this
theorem weightsAll_mem {e : TypeId} : ∀ {l : List (DataW H)} {d : DataW H}, d ∈ l → ∀ n ∈ d.weights P e, n ∈ DataW.weightsAll P e l
  | x :: l, d, h, n, hn => by
    simp only [DataW.weightsAll, List.mem_append]
    rcases List.mem_cons.1 h with rfl | h
    · exact Or.inl hn
    · exact Or.inr (weightsAll_mem h n hn)
/-- The types of a node, told once. -/
structure NodeTy (P : Program) (e ei : TypeId) (f0 f1 f2 f3 f4 : Field) : Prop where
  st : P.underlying e = some (.struct #[f0, f1, f2, f3, f4])
  o : f0.offset = 0 ∧ f1.offset = 1 ∧ f2.offset = 2 ∧ f3.offset = 3 ∧ f4.offset = 4
  u0 : P.underlying f0.type = some (.int .i64)
  u1 : P.underlying f1.type = some (.int .i64)
  u2 : P.underlying f2.type = some (.int .i64)
  u3 : P.underlying f3.type = some (.slice ei)
  u4 : P.underlying f4.type = some (.int .u32)
  ui : P.underlying ei = some (.int .i64)
  c : P.cellsOf f0.type = 1 ∧ P.cellsOf f1.type = 1 ∧ P.cellsOf f2.type = 1 ∧ P.cellsOf f3.type = 1 ∧ P.cellsOf f4.type = 1 ∧ P.cellsOf ei = 1 ∧ P.cellsOf e = 5
  b : 1 ≤ P.bytesOf ei
theorem readN1 {e ei : TypeId} {f0 f1 f2 f3 f4 : Field} (T : NodeTy P e ei f0 f1 f2 f3 f4) {fuel b o : Nat} {cs : List Value} {d : DataW H} {ps : List MemPlace}
    (hcs : ∀ i, i < 5 → W.cell? ⟨b, o + i, none⟩ = cs[i]?) (hl : cs.length = 5) (h : DataW.trod enc P W base (fun _ => true) held fuel e cs = some (d, ps)) (hw : ∀ n ∈ d.weights P e, n ≤ reachBytes) :
    ∃ x : Nd, NdAt W b o x ∧ FitsK .u32 x.imm ∧ FitsK .i64 x.op ∧ FitsK .i64 x.width ∧ FitsK .i64 x.flags ∧ ∀ a ∈ x.args, FitsK .i64 a := by
  obtain ⟨xs, n, _, hx, _, hn, hf⟩ := DataW.trod_struct T.st h
  obtain ⟨o0, o1, o2, o3, o4⟩ := T.o
  obtain ⟨k0, k1, k2, k3, k4, ki, ke⟩ := T.c
  simp only [Prod.mk.injEq] at hx
  match cs, hl with
  | [v0, v1, v2, v3, v4], _ =>
  match xs, hn with
  | [y0, y1, y2, y3, y4], _ =>
  have g0 := hf 0 f0 rfl
  have g1 := hf 1 f1 rfl
  have g2 := hf 2 f2 rfl
  have g3 := hf 3 f3 rfl
  have g4 := hf 4 f4 rfl
  rw [o0, k0] at g0
  rw [o1, k1] at g1
  rw [o2, k2] at g2
  rw [o3, k3] at g3
  rw [o4, k4] at g4
  obtain ⟨n0, a0, _, w0⟩ := DataW.trod_int T.u0 (show DataW.trod enc P W base (fun _ => true) held n f0.type [v0] = some y0 from g0)
  obtain ⟨n1, a1, _, w1⟩ := DataW.trod_int T.u1 (show DataW.trod enc P W base (fun _ => true) held n f1.type [v1] = some y1 from g1)
  obtain ⟨n2, a2, _, w2⟩ := DataW.trod_int T.u2 (show DataW.trod enc P W base (fun _ => true) held n f2.type [v2] = some y2 from g2)
  obtain ⟨n4, a4, _, w4⟩ := DataW.trod_int T.u4 (show DataW.trod enc P W base (fun _ => true) held n f4.type [v4] = some y4 from g4)
  obtain ⟨d3, p3⟩ := y3
  obtain ⟨v, zs, a3, hz, wz⟩ := readI T.u3 T.ui ki T.b (show DataW.trod enc P W base (fun _ => true) held n f3.type [v3] = some (d3, p3) from g3) (fun m hm => by
    refine hw m ?_
    rw [hx.1]
    exact weights_mem T.st (i := 3) (f := f3) rfl rfl hm)
  cases a0; cases a1; cases a2; cases a3; cases a4
  exact ⟨⟨n0, n1, n2, zs, n4⟩, ⟨hcs 0 (by omega), hcs 1 (by omega), hcs 2 (by omega), ⟨v3, hcs 3 (by omega), hz⟩, hcs 4 (by omega)⟩, w4, w0, w1, w2, wz⟩
theorem readN {t e ei : TypeId} {f0 f1 f2 f3 f4 : Field} (ht : P.underlying t = some (.slice e)) (T : NodeTy P e ei f0 f1 f2 f3 f4) (hby : 1 ≤ P.bytesOf e) {fuel : Nat} {cs : List Value} {d : DataW H} {ps : List MemPlace}
    (h : DataW.trod enc P W base (fun _ => true) held fuel t cs = some (d, ps)) (hw : ∀ n ∈ d.weights P t, n ≤ reachBytes) :
    ∃ v ts, cs = [v] ∧ Nds W v ts ∧ ∀ x ∈ ts, FitsK .u32 x.imm ∧ FitsK .i64 x.op ∧ FitsK .i64 x.width ∧ FitsK .i64 x.flags ∧ ∀ a ∈ x.args, FitsK .i64 a := by
  rcases open_slice ht h with ⟨rfl, hx⟩ | ⟨a, len, cap, m, n, D, Pl, rfl, hb, hl, hm, hmm, hx, hel⟩
  · exact ⟨_, [], rfl, ⟨none, 0, rfl, Nat.le_refl _, ⟨by simp, by omega⟩, fun _ => rfl, fun i hi => absurd hi (by simp)⟩, fun x hx => by cases hx⟩
  · simp only [if_true] at hmm
    subst hmm
    simp only [Prod.mk.injEq] at hx
    obtain ⟨hd, _⟩ := hx
    have hcap : m ≤ 140737488351232 := by
      rw [hd] at hw
      have := weights_len ht hby hw
      simp at this
      omega
    obtain ⟨_, _, _, _, _, _, ke⟩ := T.c
    by_cases hz : len = 0
    · subst hz
      exact ⟨_, [], rfl, ⟨some a, m, rfl, by omega, ⟨by simp, by omega⟩, (fun hh => by cases hh), fun i hi => absurd hi (by simp)⟩, fun x hx => by cases hx⟩
    have hsp : a.spot = none := by
      obtain ⟨cs', h1, _⟩ := hel 0 (by omega)
      rw [ke] at h1
      obtain ⟨_, hl5, hg⟩ := World.cells?_some h1
      have h0 := hg 0 (by omega)
      have e0 : (a.add (0 * 5)).add 0 = a := by simp [Addr.add]
      rw [e0, List.getElem?_eq_getElem (by omega)] at h0
      exact World.cell?_spot h0
    obtain ⟨b, o, s⟩ := a
    simp only at hsp
    subst hsp
    obtain ⟨V, hV⟩ := choose_lt (α := Nd) (n := len) (p := fun i x => NdAt W b (o + i * 5) x ∧ FitsK .u32 x.imm ∧ FitsK .i64 x.op ∧ FitsK .i64 x.width ∧ FitsK .i64 x.flags ∧ ∀ a ∈ x.args, FitsK .i64 a) (fun i hi => by
      obtain ⟨cs', h1, h2⟩ := hel i (by omega)
      rw [ke] at h1
      obtain ⟨_, hl5, hg⟩ := World.cells?_some h1
      exact readN1 T (fun j hj => by rw [← add_add b o (i * 5) j]; exact hg j hj) hl5 h2 (fun k hk => by
        refine hw k ?_
        rw [hd]
        simp only [DataW.weights, ht, List.mem_cons, List.mem_append]
        exact Or.inr (Or.inl (weightsAll_mem (List.mem_map.2 ⟨i, List.mem_range.2 hi, rfl⟩) k hk))))
    have hlen : ((List.range len).map V).length = len := by simp
    have hget : ∀ i, i < len → ((List.range len).map V).getD i default = V i := fun i hi => by
      rw [List.getD_eq_getElem?_getD, List.getElem?_map, List.getElem?_range hi]; rfl
    refine ⟨_, (List.range len).map V, rfl, ⟨some ⟨b, o, none⟩, m, by rw [hlen], by omega, ⟨by omega, by omega⟩, (fun hh => by cases hh), fun i hi => ?_⟩, fun x hx => ?_⟩
    · rw [hlen] at hi
      refine ⟨b, o, rfl, cell_lt (hV i hi).1.1, ?_⟩
      show NdAt W b (o + i * 5) _
      rw [hget i hi]
      exact (hV i hi).1
    · obtain ⟨i, hi, rfl⟩ := List.mem_map.1 hx
      exact (hV i (List.mem_range.1 hi)).2
theorem fits_u32 {x : Int} (h : FitsK .u32 x) : 0 ≤ x ∧ x ≤ 4294967295 := by simpa [FitsK, Lit.wf, IntKind.min, IntKind.max, IntKind.signed, IntKind.bits] using h
theorem fits_i64 {x : Int} (h : FitsK .i64 x) : -9223372036854775808 ≤ x ∧ x ≤ 9223372036854775807 := by simpa [FitsK, Lit.wf, IntKind.min, IntKind.max, IntKind.signed, IntKind.bits] using h
end
end Go.Proofs.Ythopdfikikdcbaa
/- What the reading of a list of lists of nodes gives. -/
namespace Go.Proofs.Ythopdfikikdcbaa
open Go.RowKit Go.WideShapes Go.ChangeShapes Go.Deep
set_option linter.unusedVariables false
set_option linter.unusedSimpArgs false
section
variable {H : Type} {enc : TypeId × Value → H} {P : Program} {W : World} {base : Nat} {held : Bool}
theorem readNN {tt t e ei : TypeId} {f0 f1 f2 f3 f4 : Field} (htt : P.underlying tt = some (.slice t)) (ht : P.underlying t = some (.slice e)) (T : NodeTy P e ei f0 f1 f2 f3 f4) (hc : P.cellsOf t = 1) (hby2 : 1 ≤ P.bytesOf t) (hby : 1 ≤ P.bytesOf e) {fuel : Nat} {cs : List Value} {d : DataW H} {ps : List MemPlace}
    (h : DataW.trod enc P W base (fun _ => true) held fuel tt cs = some (d, ps)) (hw : ∀ n ∈ d.weights P tt, n ≤ reachBytes) :
    ∃ v pts, cs = [v] ∧ Ndss W v pts ∧ ∀ p ∈ pts, ∀ x ∈ p, FitsK .u32 x.imm ∧ FitsK .i64 x.op ∧ FitsK .i64 x.width ∧ FitsK .i64 x.flags ∧ ∀ a ∈ x.args, FitsK .i64 a := by
  rcases open_slice htt h with ⟨rfl, hx⟩ | ⟨a, len, cap, m, n, D, Pl, rfl, hb, hl, hm, hmm, hx, hel⟩
  · exact ⟨_, [], rfl, ⟨none, 0, rfl, Nat.le_refl _, ⟨by simp, by omega⟩, fun _ => rfl, fun i hi => absurd hi (by simp)⟩, fun x hx => by cases hx⟩
  · simp only [if_true] at hmm
    subst hmm
    simp only [Prod.mk.injEq] at hx
    obtain ⟨hd, _⟩ := hx
    have hcap : m ≤ 140737488351232 := by
      rw [hd] at hw
      have := weights_len htt hby2 hw
      simp at this
      omega
    by_cases hz : len = 0
    · subst hz
      exact ⟨_, [], rfl, ⟨some a, m, rfl, by omega, ⟨by simp, by omega⟩, (fun hh => by cases hh), fun i hi => absurd hi (by simp)⟩, fun x hx => by cases hx⟩
    have hsp : a.spot = none := by
      obtain ⟨cs', h1, _⟩ := hel 0 (by omega)
      rw [hc] at h1
      obtain ⟨_, hl5, hg⟩ := World.cells?_some h1
      have h0 := hg 0 (by omega)
      have e0 : (a.add (0 * 1)).add 0 = a := by simp [Addr.add]
      rw [e0, List.getElem?_eq_getElem (by omega)] at h0
      exact World.cell?_spot h0
    obtain ⟨b, o, s⟩ := a
    simp only at hsp
    subst hsp
    obtain ⟨V, hV⟩ := choose_lt (α := List Nd) (n := len) (p := fun i x => b < W.heap.size ∧ (∃ u, W.cell? ⟨b, o + i * 1, none⟩ = some u ∧ Nds W u x) ∧ ∀ y ∈ x, FitsK .u32 y.imm ∧ FitsK .i64 y.op ∧ FitsK .i64 y.width ∧ FitsK .i64 y.flags ∧ ∀ a ∈ y.args, FitsK .i64 a) (fun i hi => by
      obtain ⟨cs', h1, h2⟩ := hel i (by omega)
      rw [hc] at h1
      obtain ⟨_, hl5, hg⟩ := World.cells?_some h1
      obtain ⟨u, ts, hcs, hN, hwf⟩ := readN ht T hby h2 (fun k hk => by
        refine hw k ?_
        rw [hd]
        simp only [DataW.weights, htt, List.mem_cons, List.mem_append]
        exact Or.inr (Or.inl (weightsAll_mem (List.mem_map.2 ⟨i, List.mem_range.2 hi, rfl⟩) k hk)))
      have h0 := hg 0 (by omega)
      rw [add_add b o (i * 1) 0, hcs] at h0
      have h0' : W.cell? ⟨b, o + i * 1, none⟩ = some u := h0
      exact ⟨ts, cell_lt h0', ⟨u, h0', hN⟩, hwf⟩)
    have hlen : ((List.range len).map V).length = len := by simp
    have hget : ∀ i, i < len → ((List.range len).map V).getD i [] = V i := fun i hi => by
      rw [List.getD_eq_getElem?_getD, List.getElem?_map, List.getElem?_range hi]; rfl
    refine ⟨_, (List.range len).map V, rfl, ⟨some ⟨b, o, none⟩, m, by rw [hlen], by omega, ⟨by omega, by omega⟩, (fun hh => by cases hh), fun i hi => ?_⟩, fun x hx => ?_⟩
    · rw [hlen] at hi
      refine ⟨b, o, rfl, (hV i hi).1, ?_⟩
      show ∃ u, W.cell? ⟨b, o + i * 1, none⟩ = some u ∧ Nds W u _
      rw [hget i hi]
      exact (hV i hi).2.1
    · obtain ⟨i, hi, rfl⟩ := List.mem_map.1 hx
      exact (hV i (List.mem_range.1 hi)).2.2
end
end Go.Proofs.Ythopdfikikdcbaa
