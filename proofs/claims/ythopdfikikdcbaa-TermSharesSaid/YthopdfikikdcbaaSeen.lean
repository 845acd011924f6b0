/- The map of the numbers told, as a list of numbers. -/
import Derived.Test.YthopdfikikdcbaaChg
import Derived.Test.YthopdfikikdcbaaGv
namespace Go.Proofs.Ythopdfikikdcbaa
open Go.RowKit Go.Maps
set_option linter.unusedVariables false
set_option linter.unusedSimpArgs false
def pairV (p : Int × Int) : Value × Value := (.int .i64 p.1, .int .i64 p.2)
def seenL (nos : List Int) (l : List (Int × Int)) : Prop := ∀ a b, (a, b) ∈ l ↔ (0 ≤ a ∧ a.toNat < nos.length ∧ gno nos a.toNat = b ∧ 0 ≤ b)
def Sml (a : Int) : Prop := -9223372036854775808 ≤ a ∧ a ≤ 9223372036854775807
/-- The map in block r holds the numbers told. -/
def SeenIs (w : World) (r : Nat) (nos : List Int) : Prop := nos.length ≤ 1000000 ∧ ∃ l : List (Int × Int), MapIs Try.prog 3 w r (l.map pairV) ∧ seenL nos l
theorem lawInt : Keyed Try.prog 3 := int_keyed Try.underlying3
theorem keyInt {a : Int} (h : Sml a) : keyOf Try.prog 3 (.int .i64 a) = some (.int .i64 a) :=
  keyOf_int_mk Try.underlying3 (WalkArith.wf_i64 h)
theorem seenL_miss {nos : List Int} {l : List (Int × Int)} (h : seenL nos l) {k : Nat} (hk : gno nos k < 0) : ∀ p ∈ l.map pairV, p.1 ≠ .int .i64 (k : Int) := by
  intro p hp e
  obtain ⟨⟨a, b⟩, hm, rfl⟩ := List.mem_map.1 hp
  have h2 := (h a b).1 hm
  have e2 : a = (k : Int) := by simpa [pairV] using e
  subst e2
  rw [Int.toNat_natCast] at h2
  omega
theorem SeenIs.hit {w : World} {r : Nat} {nos : List Int} (h : SeenIs w r nos) {k : Nat} (hk : k < nos.length) (h0 : 0 ≤ gno nos k) :
    (Instr.lookup 108 (.map (some r)) (.int .i64 (k : Int)) true).run Try.prog w = .ok (.tuple #[.int .i64 (gno nos k), .bool true]) w := by
  obtain ⟨hs, l, hm, hl⟩ := h
  refine lookup_hit lawInt Try.underlying108 hm (keyInt ⟨by omega, by omega⟩) ?_
  exact List.mem_map.2 ⟨((k : Int), gno nos k), (hl _ _).2 ⟨by omega, by rw [Int.toNat_natCast]; exact hk, by rw [Int.toNat_natCast], h0⟩, rfl⟩
theorem SeenIs.miss {w : World} {r : Nat} {nos : List Int} (h : SeenIs w r nos) {k : Nat} (hk : k < nos.length) (h0 : gno nos k < 0) :
    (Instr.lookup 108 (.map (some r)) (.int .i64 (k : Int)) true).run Try.prog w = .ok (.tuple #[.int .i64 0, .bool false]) w := by
  obtain ⟨hs, l, hm, hl⟩ := h
  exact lookup_miss lawInt Try.underlying108 (fun _ => by kernel_rfl) hm (keyInt ⟨by omega, by omega⟩) (seenL_miss hl h0)
theorem SeenIs.put {w : World} {r : Nat} {nos : List Int} (h : SeenIs w r nos) {k : Nat} (hk : k < nos.length) (h0 : gno nos k < 0) {n : Int} (hn : 0 ≤ n) :
    ∃ es c, (Instr.mapUpdate 108 (.map (some r)) (.int .i64 (k : Int)) (.int .i64 n)).run Try.prog w = .ok () (setMap w r es c) ∧ SeenIs (setMap w r es c) r (nos.set k n) := by
  obtain ⟨hs, l, hm, hl⟩ := h
  have hmiss := seenL_miss hl h0
  have hkey := keyInt (a := (k : Int)) ⟨by omega, by omega⟩
  refine ⟨_, _, update_new lawInt Try.underlying108 hm hkey hmiss, by rw [List.length_set]; exact hs, l ++ [((k : Int), n)], ?_, ?_⟩
  · have := hm.new (v := .int .i64 n) hkey hmiss
    rw [List.map_append]
    exact this
  · intro a b
    rw [List.mem_append, hl a b, List.length_set]
    simp only [List.mem_singleton, Prod.mk.injEq]
    constructor
    · rintro (⟨h1, h2, h3, h4⟩ | ⟨rfl, rfl⟩)
      · refine ⟨h1, h2, ?_, h4⟩
        rw [gno_set_ne (by intro e; subst e; omega)]; exact h3
      · exact ⟨by omega, by rw [Int.toNat_natCast]; exact hk, by rw [Int.toNat_natCast, gno_set_self hk], hn⟩
    · rintro ⟨h1, h2, h3, h4⟩
      by_cases e : k = a.toNat
      · refine .inr ⟨by omega, ?_⟩
        rw [← e, gno_set_self hk] at h3; exact h3.symm
      · rw [gno_set_ne e] at h3
        exact .inl ⟨h1, h2, h3, h4⟩
theorem SeenIs.same {T : Nat → Prop} {w w' : World} {r : Nat} {nos : List Int} (h : SeenIs w r nos) (hs : Same T w w') (hr : T r) : SeenIs w' r nos := by
  obtain ⟨h0, l, hm, hl⟩ := h
  exact ⟨h0, l, hm.same hs hr, hl⟩
theorem SeenIs.lt {w : World} {r : Nat} {nos : List Int} (h : SeenIs w r nos) : r < w.heap.size := by
  obtain ⟨h0, l, hm, hl⟩ := h
  exact hm.1
theorem SeenIs.chg {T : Nat → Prop} {w w' : World} {r : Nat} {nos : List Int} (h : SeenIs w r nos) (hc : Chg T w w') (hr : ¬ T r) : SeenIs w' r nos :=
  h.same (T := fun k => k = r) (hc.same (fun k hk => by subst hk; exact ⟨h.lt, hr⟩)) rfl
theorem gno_repl (n k : Nat) : gno (List.replicate n (-1)) k = -1 := by
  unfold gno
  rw [List.getD_eq_getElem?_getD, List.getElem?_replicate]
  split <;> rfl
theorem SeenIs.made {w : World} {n : Nat} (hn : n ≤ 1000000) : SeenIs (w.alloc (.map #[] 0)) w.heap.size (List.replicate n (-1)) := by
  refine ⟨by rw [List.length_replicate]; exact hn, [], MapIs.made, ?_⟩
  intro a b
  rw [gno_repl]
  constructor
  · intro h; cases h
  · rintro ⟨_, _, h3, h4⟩; omega
end Go.Proofs.Ythopdfikikdcbaa
