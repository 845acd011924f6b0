/- Slices and terms in memory, as they are read: what the cells of a slice of integers, of a list of nodes hold; and that it stays so. -/
import Derived.Test.YthopdfikikdcbaaMem
import Derived.Lib.Hide
import Derived.OwnWalk
import Derived.Laws.OwnMore
namespace Go.Proofs.Ythopdfikikdcbaa
open Go.RowKit
set_option linter.unusedVariables false
set_option linter.unusedSimpArgs false

/-- The slice v of w has n places of size z, and what stands in the i-th one is told by C. -/
def Slc (w : World) (v : Value) (n z : Nat) (C : Nat → Nat → Nat → Prop) : Prop :=
  ∃ (a : Option Addr) (c : Nat), v = .slice a n c ∧ n ≤ c ∧ (n ≤ 140737488351232 ∧ c ≤ 9223372036854775807) ∧ (a = none → c = 0) ∧ ∀ i, i < n → ∃ b o, a = some ⟨b, o, none⟩ ∧ b < w.heap.size ∧ C i b (o + i * z)
/-- The slice v of w holds the integers xs of the kind k. -/
def Ints (k : IntKind) (w : World) (v : Value) (xs : List Int) : Prop := Slc w v xs.length 1 fun i b o => w.cell? ⟨b, o, none⟩ = some (.int k (xs.getD i 0))

/-- A node of a term. -/
structure Nd where
  op : Int
  width : Int
  flags : Int
  args : List Int
  imm : Int
  deriving Inhabited

/-- The cells behind the place o of block b hold the node x. -/
def NdAt (w : World) (b o : Nat) (x : Nd) : Prop :=
  w.cell? ⟨b, o, none⟩ = some (.int .i64 x.op) ∧ w.cell? ⟨b, o + 1, none⟩ = some (.int .i64 x.width) ∧ w.cell? ⟨b, o + 2, none⟩ = some (.int .i64 x.flags) ∧
  (∃ v, w.cell? ⟨b, o + 3, none⟩ = some v ∧ Ints .i64 w v x.args) ∧ w.cell? ⟨b, o + 4, none⟩ = some (.int .u32 x.imm)

/-- The slice v of w holds the nodes ts. -/
def Nds (w : World) (v : Value) (ts : List Nd) : Prop := Slc w v ts.length 5 fun i b o => NdAt w b o (ts.getD i default)

theorem below_cell {B : Nat} {w w' : World} (h : Below B w w') {b o : Nat} {v : Value} (hb : b < B) (hc : w.cell? ⟨b, o, none⟩ = some v) : w'.cell? ⟨b, o, none⟩ = some v := by
  rw [← hc]; exact h.cell (p := ⟨b, o, none⟩) hb
theorem cell_lt {w : World} {b o : Nat} {v : Value} (h : w.cell? ⟨b, o, none⟩ = some v) : b < w.heap.size := by
  unfold World.cell? at h
  by_cases hb : b < w.heap.size
  · exact hb
  · simp [Array.getElem?_eq_none (Nat.le_of_not_lt hb)] at h
theorem Slc.stays {w w' : World} {v : Value} {n z : Nat} {C C' : Nat → Nat → Nat → Prop} (h : Slc w v n z C) (hb : Below w.heap.size w w') (hC : ∀ i b o, b < w.heap.size → C i b o → C' i b o) : Slc w' v n z C' := by
  obtain ⟨a, c, e, h1, h2, h3, h4⟩ := h
  refine ⟨a, c, e, h1, h2, h3, fun i hi => ?_⟩
  obtain ⟨b, o, e1, e2, e3⟩ := h4 i hi
  exact ⟨b, o, e1, Nat.lt_of_lt_of_le e2 hb.size, hC i b _ e2 e3⟩
theorem Ints.stays {k : IntKind} {w w' : World} {v : Value} {xs : List Int} (h : Ints k w v xs) (hb : Below w.heap.size w w') : Ints k w' v xs :=
  Slc.stays h hb fun _ _ _ hlt hc => below_cell hb hlt hc
theorem NdAt.stays {w w' : World} {b o : Nat} {x : Nd} (h : NdAt w b o x) (hlt : b < w.heap.size) (hb : Below w.heap.size w w') : NdAt w' b o x := by
  obtain ⟨h1, h2, h3, ⟨v, h4, h5⟩, h6⟩ := h
  exact ⟨below_cell hb hlt h1, below_cell hb hlt h2, below_cell hb hlt h3, ⟨v, below_cell hb hlt h4, h5.stays hb⟩, below_cell hb hlt h6⟩
theorem Nds.stays {w w' : World} {v : Value} {ts : List Nd} (h : Nds w v ts) (hb : Below w.heap.size w w') : Nds w' v ts :=
  Slc.stays h hb fun _ _ _ hlt hc => hc.stays hlt hb
/-- The slice v, made by the call (its blocks from base on), holds the integers xs. -/
def RowI (w : World) (base : Nat) (e : TypeId) (k : IntKind) (v : Value) (xs : List Int) : Prop := w.ownsRow base e 1 v xs.length (xs.map (Value.int k))
theorem RowI.ints {w : World} {base : Nat} {e : TypeId} {k : IntKind} {v : Value} {xs : List Int} (h : RowI w base e k v xs) (hl : xs.length ≤ 140737488351232) : Ints k w v xs := by
  obtain ⟨_, ⟨rfl, h0⟩ | ⟨g, cap, cur, rfl, hb, hg, h1, h2, h3, h4⟩⟩ := h
  · exact ⟨none, 0, by rw [h0], by omega, by omega, fun _ => rfl, fun i hi => absurd hi (by omega)⟩
  · refine ⟨some ⟨g, 0, none⟩, cap, rfl, h1, ⟨hl, by unfold maxLen at h2; omega⟩, (fun hh => by cases hh), fun i hi => ⟨g, 0, rfl, ?_, ?_⟩⟩
    · rcases Nat.lt_or_ge g w.heap.size with h | h
      · exact h
      · rw [Array.getElem?_eq_none h] at hg; cases hg
    · rw [Nat.mul_one, Nat.zero_add]
      have e1 : w.cell? ⟨g, i, none⟩ = cur.toList[i]? := by simp [World.cell?, hg]
      have e2 : (cur.toList.take (xs.length * 1))[i]? = cur.toList[i]? := by rw [List.getElem?_take, if_pos (by omega)]
      show w.cell? ⟨g, i, none⟩ = _
      rw [e1, ← e2, h4, List.getElem?_map, List.getElem?_eq_getElem hi, List.getD_eq_getElem?_getD, List.getElem?_eq_getElem hi]
      rfl
theorem RowI.nil (w : World) (base : Nat) (e : TypeId) (k : IntKind) : RowI w base e k (.slice none 0 0) [] := World.ownsRow_nil w base e 1
/-- A row behind calls and new blocks that leave what lay there. -/
theorem RowI.below {w w' : World} {base : Nat} {e : TypeId} {k : IntKind} {v : Value} {xs : List Int} (h : RowI w base e k v xs) (hb : Below w.heap.size w w') : RowI w' base e k v xs := by
  obtain ⟨h0, ⟨rfl, h1⟩ | ⟨g, cap, cur, rfl, hb', hg, h1, h2, h3, h4⟩⟩ := h
  · exact ⟨h0, .inl ⟨rfl, h1⟩⟩
  · refine ⟨h0, .inr ⟨g, cap, cur, rfl, hb', ?_, h1, h2, h3, h4⟩⟩
    have hlt : g < w.heap.size := by
      rcases Nat.lt_or_ge g w.heap.size with h | h
      · exact h
      · rw [Array.getElem?_eq_none h] at hg; cases hg
    rw [← hg]
    exact hb.block g hlt
theorem RowI.shape {w : World} {base : Nat} {e : TypeId} {k : IntKind} {v : Value} {xs : List Int} (h : RowI w base e k v xs) : ∃ a c, v = .slice a xs.length c := by
  obtain ⟨_, ⟨rfl, h1⟩ | ⟨g, cap, cur, rfl, _⟩⟩ := h
  · exact ⟨none, 0, by rw [h1]⟩
  · exact ⟨_, _, rfl⟩
/-- Behind an append. -/
theorem RowI.app {w : World} {base : Nat} {e : TypeId} {k : IntKind} {v : Value} {xs ys zs : List Int} {n : Nat} (h : w.ownsRow base e 1 v n (xs.map (Value.int k) ++ ys.map (Value.int k))) (hn : n = xs.length + ys.length) (hz : zs = xs ++ ys) : RowI w base e k v zs := by
  subst hz; subst hn
  unfold RowI
  rw [List.length_append, List.map_append]
  exact h
theorem RowI.app1 {w : World} {base : Nat} {e : TypeId} {k : IntKind} {v : Value} {l zs : List Int} {y : Int} {j : Nat} (h : w.ownsRow base e 1 v (j + 1) (l.map (Value.int k) ++ [.int k y])) (hl : l.length = j) (hz : zs = l ++ [y]) : RowI w base e k v zs :=
  RowI.app (ys := [y]) h (by rw [hl]; rfl) hz
theorem own_ge {w : World} {base : Nat} {e : TypeId} {size : Nat} {v : Value} {n : Nat} {xs : List Value} (h : w.ownsRow base e size v n xs) : ∀ k, v.ownBlock = some k → base ≤ k := fun k hk => (h.lt k hk).1
end Go.Proofs.Ythopdfikikdcbaa
