/- Maps of the call's own, entry by entry: a look-up that hits, one that misses, a store under a new key; keys of any kind that may be a key. -/
import Derived.Test.YthopdfikikdcbaaMem
import Derived.Maps.Keyed
import Derived.DeepKeys5
namespace Go.Proofs.Ythopdfikikdcbaa
open Go.RowKit Go.Maps
set_option linter.unusedVariables false
set_option linter.unusedSimpArgs false
/-- The entries of a map: keys and what they hold, in the order in which they were stored. -/
def ents (l : List (Value × Value)) : Array MapEntry := (l.mapIdx fun i p => (⟨p.1, p.2, i⟩ : MapEntry)).toArray
theorem mem_ents {l : List (Value × Value)} {e : MapEntry} (h : e ∈ (ents l).toList) : (e.key, e.val) ∈ l := by
  unfold ents at h
  simp only [List.mem_mapIdx] at h
  obtain ⟨i, hi, rfl⟩ := h
  exact List.getElem_mem hi
theorem ents_push (l : List (Value × Value)) (k v : Value) : (ents l).push ⟨k, v, l.length⟩ = ents (l ++ [(k, v)]) := by
  unfold ents
  simp
/-- The map in block r holds l. -/
def MapIs (P : Program) (K : TypeId) (w : World) (r : Nat) (l : List (Value × Value)) : Prop :=
  r < w.heap.size ∧ mapAt w r = some (ents l, l.length) ∧ (∀ p ∈ l, ∃ q, keyOf P K p.1 = some q) ∧ (l.map (·.1)).Nodup
section
variable {P : Program} {t K E : TypeId} {w : World} {r : Nat} {l : List (Value × Value)}
theorem lookup_hit (law : Keyed P K) (ht : P.underlying t = some (.map K E)) (h : MapIs P K w r l) {k v : Value} {q : Lit} (hk : keyOf P K k = some q) (hm : (k, v) ∈ l) :
    (Instr.lookup t (.map (some r)) k true).run P w = .ok (.tuple #[v, .bool true]) w := by
  obtain ⟨_, h1, h2, h3⟩ := h
  have hb := mapAt_some h1
  have hfind := law.find w hk (ents l).toList (fun e he => h2 _ (mem_ents he))
  have hval : ∀ e ∈ (ents l).toList, e.key = k → e.val = v := by
    intro e he hek
    have hm2 := mem_ents he
    rw [hek] at hm2
    obtain ⟨i, hi, e1⟩ := List.getElem_of_mem hm
    obtain ⟨j, hj, e2⟩ := List.getElem_of_mem hm2
    have hij : i = j := by
      have hp := List.pairwise_iff_getElem.1 h3
      rcases Nat.lt_trichotomy i j with h | h | h
      · exact absurd (show (l.map (·.1))[i]'(by simpa using hi) = (l.map (·.1))[j]'(by simpa using hj) from by simp [e1, e2]) (hp i j (by simpa using hi) (by simpa using hj) h)
      · exact h
      · exact absurd (show (l.map (·.1))[j]'(by simpa using hj) = (l.map (·.1))[i]'(by simpa using hi) from by simp [e1, e2]) (hp j i (by simpa using hj) (by simpa using hi) h)
    subst hij
    rw [e1] at e2
    cases e2; rfl
  rcases hfind with ⟨_, hno⟩ | ⟨j, e, hrun, hj, hek⟩
  · exfalso
    obtain ⟨i, hi, e1⟩ := List.getElem_of_mem hm
    refine hno ⟨k, v, i⟩ ?_ rfl
    unfold ents
    simp only [List.mem_mapIdx]
    exact ⟨i, hi, by rw [e1]⟩
  · have hv := hval e (List.mem_of_getElem? hj) hek
    simp [Instr.lookup, run_underlying ht, MapKept.run_getObj_map hb, law.check w _ hk, hrun, hv, Result.andThen]
theorem lookup_miss (law : Keyed P K) (ht : P.underlying t = some (.map K E)) {z : Value} (hz : ∀ w, (zeroValue E).run P w = .ok z w) (h : MapIs P K w r l) {k : Value} {q : Lit} (hk : keyOf P K k = some q) (hm : ∀ p ∈ l, p.1 ≠ k) :
    (Instr.lookup t (.map (some r)) k true).run P w = .ok (.tuple #[z, .bool false]) w := by
  obtain ⟨_, h1, h2, h3⟩ := h
  have hb := mapAt_some h1
  rcases law.find w hk (ents l).toList (fun e he => h2 _ (mem_ents he)) with ⟨hrun, _⟩ | ⟨j, e, hrun, hj, hek⟩
  · simp [Instr.lookup, run_underlying ht, MapKept.run_getObj_map hb, law.check w _ hk, hrun, hz, Result.andThen]
  · exact absurd hek (hm _ (mem_ents (List.mem_of_getElem? hj)))
theorem lookup_nil (law : Keyed P K) (ht : P.underlying t = some (.map K E)) {z : Value} (hz : ∀ w, (zeroValue E).run P w = .ok z w) {k : Value} {q : Lit} (hk : keyOf P K k = some q) :
    (Instr.lookup t (.map none) k true).run P w = .ok (.tuple #[z, .bool false]) w := by
  rcases law.find w hk [] (fun e he => by cases he) with ⟨hrun, _⟩ | ⟨j, e, _, hj, _⟩
  · simp [Instr.lookup, run_underlying ht, law.check w _ hk, hz, hrun, Result.andThen]
  · cases hj
theorem update_new (law : Keyed P K) (ht : P.underlying t = some (.map K E)) (h : MapIs P K w r l) {k v : Value} {q : Lit} (hk : keyOf P K k = some q) (hm : ∀ p ∈ l, p.1 ≠ k) :
    (Instr.mapUpdate t (.map (some r)) k v).run P w = .ok () (setMap w r (ents (l ++ [(k, v)])) (l.length + 1)) := by
  obtain ⟨_, h1, h2, h3⟩ := h
  have hb := mapAt_some h1
  rcases law.find w hk (ents l).toList (fun e he => h2 _ (mem_ents he)) with ⟨hrun, _⟩ | ⟨j, e, hrun, hj, hek⟩
  · simp [Instr.mapUpdate, run_underlying ht, MapKept.run_getObj_map hb, law.check w _ hk, hrun, MapKept.run_setObj_map _ hb, Result.andThen, setMap, ents_push]
  · exact absurd hek (hm _ (mem_ents (List.mem_of_getElem? hj)))
theorem mapAt_setMap {es es' : Array MapEntry} {c c' : Nat} (h : mapAt w r = some (es, c)) : mapAt (setMap w r es' c') r = some (es', c') := by
  have hb := mapAt_some h
  have hlt : r < w.heap.size := by
    rcases Nat.lt_or_ge r w.heap.size with h | h
    · exact h
    · rw [Array.getElem?_eq_none h] at hb; cases hb
  unfold mapAt setMap
  simp [Array.getElem?_setIfInBounds, hlt]
theorem MapIs.new (h : MapIs P K w r l) {k v : Value} {q : Lit} (hk : keyOf P K k = some q) (hm : ∀ p ∈ l, p.1 ≠ k) : MapIs P K (setMap w r (ents (l ++ [(k, v)])) (l.length + 1)) r (l ++ [(k, v)]) := by
  obtain ⟨h0, h1, h2, h3⟩ := h
  refine ⟨by rw [size_setMap]; exact h0, by rw [mapAt_setMap h1]; simp, ?_, ?_⟩
  · intro p hp
    rcases List.mem_append.1 hp with hp | hp
    · exact h2 p hp
    · simp at hp; subst hp; exact ⟨q, hk⟩
  · rw [List.map_append, List.nodup_append]
    refine ⟨h3, by simp, ?_⟩
    intro a ha b hb
    simp at hb
    subst hb
    obtain ⟨p, hp, rfl⟩ := List.mem_map.1 ha
    exact hm p hp
theorem MapIs.below {w' : World} (h : MapIs P K w r l) (hb : Below w.heap.size w w') : MapIs P K w' r l := by
  obtain ⟨h0, h1, h2, h3⟩ := h
  refine ⟨Nat.lt_of_lt_of_le h0 hb.size, ?_, h2, h3⟩
  rw [← h1]; unfold mapAt; rw [hb.block r h0]
theorem MapIs.made {w : World} : MapIs P K (w.alloc (.map #[] 0)) w.heap.size [] :=
  ⟨by simp, by rw [mapAt_alloc_at _ _ _ _ rfl]; rfl, (fun p hp => by cases hp), by simp⟩
theorem below_setMap {B : Nat} {w w' : World} (h : Below B w w') {r : Nat} (hr : B ≤ r) (es : Array MapEntry) (c : Nat) : Below B w (setMap w' r es c) := by
  refine h.trans ⟨rfl, rfl, rfl, by simp [setMap], fun k hk => ?_⟩
  show (w'.heap.setIfInBounds r _)[k]? = _
  rw [Array.getElem?_setIfInBounds, if_neg (by omega)]
theorem cell_setMap {w : World} {r b o : Nat} {es : Array MapEntry} {c : Nat} (h : b ≠ r) : (setMap w r es c).cell? ⟨b, o, none⟩ = w.cell? ⟨b, o, none⟩ := by
  unfold World.cell? setMap
  simp only [Array.getElem?_setIfInBounds]
  rw [if_neg (fun e => h e.symm)]
theorem free_setMap {w : World} {r b o : Nat} {es : Array MapEntry} {c : Nat} (h : b ≠ r) : (setMap w r es c).frozen? ⟨b, o, none⟩ = w.frozen? ⟨b, o, none⟩ := by
  unfold World.frozen? setMap
  simp only [Array.getElem?_setIfInBounds]
  rw [if_neg (fun e => h e.symm)]
end
end Go.Proofs.Ythopdfikikdcbaa
