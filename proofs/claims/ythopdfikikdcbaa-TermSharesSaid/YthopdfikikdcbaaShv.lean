/- A shared term is valid: the plain law. -/
import Derived.Test.YthopdfikikdcbaaShp
import Derived.Test.YthopdfikikdcbaaTl
namespace Go.Proofs.Ythopdfikikdcbaa
open Go.RowKit Wd
set_option linter.unusedVariables false
set_option linter.unusedSimpArgs false
theorem valid_down {ts : List Nd} (h : valE ts = 0) : Down ts := fun k hk a ha => (shaped_facts (okS_at (valid_facts h).2.2.1 hk)).2.1 a ha
/-- What a told node is among the shared ones. -/
theorem shr_node {ts : List Nd} (hd : Down ts) {k : Nat} (hk : k < ts.length) {i : Nat} (hi : i < (shr ts k).length) : ∃ j, j < ts.length ∧ (vis ts k (st0 ts)).told j ∧ (vis ts k (st0 ts)).no j = i ∧ (shr ts k).getD i default = mapN (vis ts k (st0 ts)) (nd ts j) := by
  obtain ⟨w, t⟩ := vis_inv hd hk (st0_inv ts)
  obtain ⟨j, h1, h2⟩ := w.inv.src i hi
  refine ⟨j, told_lt w.inv h1, h1, h2, ?_⟩
  have := w.inv.node j h1
  rw [h2, Int.toNat_natCast] at this
  exact this
theorem immOk_map {s : St} {x : Nd} : immOk (mapN s x) = immOk x := rfl
theorem shaped_map {s : St} {x : Nd} {j i : Nat} (h : shaped j x = true) (ha : ∀ a ∈ x.args, 0 ≤ s.no a.toNat ∧ s.no a.toNat < i) : shaped i (mapN s x) = true := by
  unfold shaped at h ⊢
  simp only [Bool.and_eq_true] at h ⊢
  obtain ⟨⟨⟨⟨⟨⟨⟨h1, h2⟩, h3⟩, h4⟩, h5⟩, h6⟩, h7⟩, h8⟩ := h
  refine ⟨⟨⟨⟨⟨⟨⟨h1, h2⟩, h3⟩, h4⟩, ?_⟩, h6⟩, h7⟩, ?_⟩
  · show (!(((x.args.map _).length : Int) != arV x.op)) = true
    rw [List.length_map]; exact h5
  · rw [Bool.not_eq_true', List.any_eq_false]
    intro a hm
    obtain ⟨b, hb, rfl⟩ := List.mem_map.1 (show a ∈ x.args.map _ from hm)
    have := ha b hb
    simp [bad]; omega
theorem shr_okS {ts : List Nd} (h : valE ts = 0) {k : Nat} (hk : k < ts.length) : okS (shr ts k) = true := by
  have hd := valid_down h
  obtain ⟨w, t⟩ := vis_inv hd hk (st0_inv ts)
  refine okS_good fun i hi => ?_
  obtain ⟨j, hj, ht, hn, he⟩ := shr_node hd hk hi
  rw [he]
  refine shaped_map (okS_at (valid_facts h).2.2.1 hj) fun a ha => ?_
  have h1 := w.inv.low i hi ((vis ts k (st0 ts)).no a.toNat) (by
    show _ ∈ ((shr ts k).getD i default).args
    rw [he]
    exact List.mem_map.2 ⟨a, ha, rfl⟩)
  exact h1
theorem wdt_map {ts : List Nd} (hd : Down ts) {k : Nat} (hk : k < ts.length) {j : Nat} (hj : (vis ts k (st0 ts)).told j) (hjl : j < ts.length) {i : Nat} (hi : i < (nd ts j).args.length) :
    wdt (shr ts k) (mapN (vis ts k (st0 ts)) (nd ts j)).args i = wdt ts (nd ts j).args i := by
  obtain ⟨w, t⟩ := vis_inv hd hk (st0_inv ts)
  have hm := getD_mem0 hi
  have ht := w.inv.cls j hj _ hm
  have hnode := w.inv.node _ ht
  unfold wdt
  have e : (mapN (vis ts k (st0 ts)) (nd ts j)).args.getD i 0 = (vis ts k (st0 ts)).no ((nd ts j).args.getD i 0).toNat := by
    show ((nd ts j).args.map _).getD i 0 = _
    rw [List.getD_eq_getElem?_getD, List.getElem?_map, List.getElem?_eq_getElem hi, List.getD_eq_getElem?_getD, List.getElem?_eq_getElem hi]; rfl
  rw [e]
  show ((vis ts k (st0 ts)).out.getD _ default).width = _
  rw [hnode]; rfl
theorem shr_okT {ts : List Nd} (h : valE ts = 0) {k : Nat} (hk : k < ts.length) : okT (shr ts k) = true := by
  have hd := valid_down h
  refine okT_good fun i hi => ?_
  obtain ⟨j, hj, ht, hn, he⟩ := shr_node hd hk hi
  rw [he]
  have hok := nodeOk h hj
  have hty := hok.typ
  have hlen := hok.len
  have har := hok.ar
  have hw := fun i (hi : i < (nd ts j).args.length) => wdt_map hd hk ht hj hi
  have e1 : (mapN (vis ts k (st0 ts)) (nd ts j)).op = (nd ts j).op := rfl
  have e2 : (mapN (vis ts k (st0 ts)) (nd ts j)).width = (nd ts j).width := rfl
  change typed ts (nd ts j) = true at hty
  change ((nd ts j).args.length : Int) = arV (nd ts j).op at hlen
  change arV (nd ts j).op ≠ -1 at har
  unfold typed at hty ⊢
  rw [e1, e2]
  rcases arV_cases (nd ts j).op with ⟨c | c, e0⟩ | ⟨⟨c1, c2⟩, e0⟩ | ⟨c, e0⟩ | ⟨⟨c1, c2⟩, e0⟩ | ⟨c, e0⟩
  · rw [c]; simp
  · rw [c]; simp
  · rw [hw 0 (by omega), hw 1 (by omega)]
    by_cases c14 : (nd ts j).op = 14
    · rw [c14] at hty ⊢; simpa using hty
    · rw [if_pos ⟨c1, by omega⟩] at hty ⊢; exact hty
  · rw [hw 0 (by omega), hw 1 (by omega), hw 2 (by omega)]; exact hty
  · have c3 : (nd ts j).op = 16 ∨ (nd ts j).op = 17 ∨ (nd ts j).op = 18 := by omega
    rw [hw 0 (by omega)]
    rcases c3 with c | c | c <;> rw [c] at hty ⊢ <;> simpa using hty
  · exact absurd e0 har
theorem shr_imm {ts : List Nd} (hd : Down ts) (hI : ∀ x ∈ ts, 0 ≤ x.imm ∧ x.imm ≤ 4294967295) {k : Nat} (hk : k < ts.length) : ∀ x ∈ shr ts k, 0 ≤ x.imm ∧ x.imm ≤ 4294967295 := by
  intro x hx
  obtain ⟨i, hi, rfl⟩ := List.getElem_of_mem hx
  obtain ⟨j, hj, _, _, he⟩ := shr_node hd hk hi
  rw [List.getD_eq_getElem?_getD, List.getElem?_eq_getElem hi] at he
  have he' : (shr ts k)[i] = mapN (vis ts k (st0 ts)) (nd ts j) := he
  rw [he']
  have := hI _ (mem_getD hj)
  exact this
/-- The told nodes are no more than those of the term. -/
theorem shr_len {ts : List Nd} (hd : Down ts) {k : Nat} (hk : k < ts.length) : (shr ts k).length ≤ ts.length := by
  obtain ⟨w, t⟩ := vis_inv hd hk (st0_inv ts)
  have hsub : (List.range (shr ts k).length) ⊆ ((List.range ts.length).map fun j => ((vis ts k (st0 ts)).no j).toNat) := by
    intro i hi
    obtain ⟨j, hj, _, hn, _⟩ := shr_node hd hk (List.mem_range.1 hi)
    exact List.mem_map.2 ⟨j, List.mem_range.2 hj, by rw [hn]; simp⟩
  have := (List.nodup_range (n := (shr ts k).length)).length_le_of_subset hsub
  simpa using this
theorem shr_valid {ts : List Nd} (h : valE ts = 0) (hI : ∀ x ∈ ts, 0 ≤ x.imm ∧ x.imm ≤ 4294967295) {k : Nat} (hk : k < ts.length) : valE (shr ts k) = 0 := by
  have hd := valid_down h
  obtain ⟨v1, v2, hS, hT, l, hl⟩ := valid_facts h
  have hlen := shr_len hd hk
  have hroot := shr_root hd hk
  refine valE_0 (by omega) (shr_okS h hk) (shr_okT h hk) (wmap_calm (fun x hx => (shr_imm hd hI hk x hx).1) (fun i hi => okS_at (shr_okS h hk) hi) ?_)
  intro k2 hk2 i2 hi2
  rw [Bool.eq_false_iff]
  intro hc
  obtain ⟨c1, c2, c3, c4⟩ := (clash_iff _ _).1 hc
  obtain ⟨j, hj, _, _, he⟩ := shr_node hd hk hk2
  obtain ⟨j2, hj2, _, _, he2⟩ := shr_node hd hk (show i2 < (shr ts k).length by omega)
  rw [he, he2] at c3 c4
  rw [he] at c2
  rw [he2] at c1
  have inv := (wmap_inv (fun x hx => (hI x hx).1) (fun i hi => okS_at hS hi) ts.length l (Nat.le_refl _) (by rw [List.take_length]; exact hl)).1
  have w1 := inv j hj c2
  have w2 := inv j2 hj2 c1
  apply c4
  show (ts.getD j2 default).width = (ts.getD j default).width
  rw [← w1, ← w2]
  have : (ts.getD j2 default).imm = (ts.getD j default).imm := c3
  rw [this]
end Go.Proofs.Ythopdfikikdcbaa
