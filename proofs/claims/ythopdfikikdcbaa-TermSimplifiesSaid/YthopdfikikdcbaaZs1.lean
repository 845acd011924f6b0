/- Memory that holds maps: a map's block as the walk's rules see it; a store and a look-up whose key is decided. -/
import Derived.Test.YthopdfikikdcbaaRows
import Derived.WalkKit
import Derived.WalkSpells
import Derived.WalkLawsBesides
import Derived.Laws.EntriesVeiled
import Derived.Lib.Hide
import Derived.OwnWalk
import Derived.Laws.OwnMore
import Derived.Laws.BitsAllLaws
import Derived.Laws.Entries
import Derived.BigGuardPart
import Derived.BigQuiet
namespace Go.Proofs.Ythopdfikikdcbaa
open Go.RowKit

def mapAt (w : World) (r : Nat) : Option (Array MapEntry × Nat) := match w.heap[r]? with | some (.map es c) => some (es, c) | _ => none
def setMap (w : World) (r : Nat) (es : Array MapEntry) (c : Nat) : World := { w with heap := w.heap.setIfInBounds r (.map es c) }

theorem mapAt_alloc_at (w : World) (es : Array MapEntry) (c n : Nat) (hn : n = w.heap.size) : mapAt (w.alloc (.map es c)) n = some (es, c) := by
  subst hn
  unfold mapAt
  rw [show (w.alloc (.map es c)).heap[w.heap.size]? = some (.map es c) from Array.getElem?_push_size]
theorem mapAt_alloc_past (w : World) (o : Obj) (n : Nat) (hn : n < w.heap.size) : mapAt (w.alloc o) n = mapAt w n := by
  unfold mapAt; rw [Below.heap_alloc w o n hn]
theorem mapAt_drew (w : World) (n : Nat) : mapAt w.drew n = mapAt w n := rfl
theorem mapAt_drewN (w : World) (n k : Nat) : mapAt (w.drewN k) n = mapAt w n := rfl
theorem setMap_alloc_at (w : World) (es es' : Array MapEntry) (c c' n : Nat) (hn : n = w.heap.size) : setMap (w.alloc (.map es c)) n es' c' = w.alloc (.map es' c') := by
  subst hn
  have h : (w.heap.push (.map es c)).setIfInBounds w.heap.size (.map es' c') = w.heap.push (.map es' c') := by
    apply Array.ext_getElem?
    intro i
    rw [Array.getElem?_setIfInBounds, Array.getElem?_push, Array.getElem?_push]
    by_cases hi : i = w.heap.size
    · subst hi; simp
    · rw [if_neg (fun e => hi e.symm), if_neg hi, if_neg hi]
  exact congrArg (fun x => { w with heap := x }) h
theorem setMap_alloc_past (w : World) (o : Obj) (n : Nat) (es : Array MapEntry) (c : Nat) (hn : n < w.heap.size) : setMap (w.alloc o) n es c = (setMap w n es c).alloc o := by
  have h : (w.heap.push o).setIfInBounds n (.map es c) = (w.heap.setIfInBounds n (.map es c)).push o := by
    apply Array.ext_getElem?
    intro i
    rw [Array.getElem?_setIfInBounds, Array.getElem?_push, Array.getElem?_push, Array.getElem?_setIfInBounds, Array.size_push, Array.size_setIfInBounds]
    by_cases hi : i = w.heap.size
    · subst hi; rw [if_neg (by omega), if_pos rfl, if_pos rfl]
    · rw [if_neg hi, if_neg hi]
      by_cases h2 : n = i
      · rw [if_pos h2, if_pos h2, if_pos (by omega), if_pos hn]
      · rw [if_neg h2, if_neg h2]
  exact congrArg (fun x => { w with heap := x }) h
theorem size_setMap (w : World) (n : Nat) (es : Array MapEntry) (c : Nat) : (setMap w n es c).heap.size = w.heap.size := by simp [setMap]
attribute [go_sem] mapAt_alloc_at mapAt_alloc_past mapAt_drew mapAt_drewN setMap_alloc_at setMap_alloc_past size_setMap

/-- Terms that the walk leaves alone. -/
def heldInsert (P : Program) (t : TypeId) (kk : IntKind) (r : Nat) (n : Int) (v : Value) (w : World) : Result Unit := (Instr.mapUpdate t (.map (some r)) (.int kk n) v).run P w
def heldLookup (P : Program) (t : TypeId) (kk : IntKind) (r : Nat) (n : Int) (w : World) : Result Value := (Instr.lookup t (.map (some r)) (.int kk n) true).run P w
theorem mapAt_some {w : World} {r : Nat} {es : Array MapEntry} {c : Nat} (h : mapAt w r = some (es, c)) : w.heap[r]? = some (.map es c) := by
  unfold mapAt at h
  split at h
  · rename_i h1; simp at h; obtain ⟨rfl, rfl⟩ := h; exact h1
  · cases h

theorem check_int {P : Program} {kt : TypeId} {kk : IntKind} (hk : P.underlying kt = some (.int kk)) (b : Bool) (n : Int) (w : World) : (Instr.checkKey b 10000 kt (.int kk n)).run P w = .ok () w := by
  show (Instr.checkKey b (9999 + 1) kt (.int kk n)).run P w = .ok () w
  unfold Instr.checkKey
  simp [run_underlying hk, Result.andThen]
/-- A store under a key of an integer kind that is not there. -/
theorem run_insert_int (P : Program) (t kt e : TypeId) (kk : IntKind) (ht : P.underlying t = some (.map kt e)) (hk : P.underlying kt = some (.int kk)) (r : Nat) (n : Int) (v : Value) (w : World) :
    (Instr.mapUpdate t (.map (some r)) (.int kk n) v).run P w = match mapAt w r with
      | some (es, c) => (match Instr.findNow (.int kk) (.int kk n) es.toList 0 with
        | some none => .ok () (setMap w r (es.push ⟨.int kk n, v, c⟩) (c + 1))
        | _ => heldInsert P t kk r n v w)
      | none => heldInsert P t kk r n v w := by
  cases hm : mapAt w r with
  | none => rfl
  | some x =>
    obtain ⟨es, c⟩ := x
    simp only
    split
    · rename_i hf
      have hb := mapAt_some hm
      simp [Instr.mapUpdate, run_underlying ht, MapKept.run_getObj_map hb, check_int hk, run_underlying hk, Instr.findKey, hf, MapKept.run_setObj_map _ hb, Result.andThen, setMap]
    · rfl
/-- A look-up of a key of an integer kind, with the second answer. -/
theorem run_lookup_int (P : Program) (t kt e : TypeId) (kk : IntKind) (z : Value) (ht : P.underlying t = some (.map kt e)) (hk : P.underlying kt = some (.int kk)) (hz : ∀ w, (zeroValue e).run P w = .ok z w) (r : Nat) (n : Int) (w : World) :
    (Instr.lookup t (.map (some r)) (.int kk n) true).run P w = match mapAt w r with
      | some (es, _) => (match Instr.findNow (.int kk) (.int kk n) es.toList 0 with
        | some (some (_, v)) => .ok (.tuple #[v, .bool true]) w
        | some none => .ok (.tuple #[z, .bool false]) w
        | _ => heldLookup P t kk r n w)
      | none => heldLookup P t kk r n w := by
  cases hm : mapAt w r with
  | none => rfl
  | some x =>
    obtain ⟨es, c⟩ := x
    simp only
    split
    · rename_i hf
      have hb := mapAt_some hm
      simp [Instr.lookup, run_underlying ht, MapKept.run_getObj_map hb, check_int hk, run_underlying hk, Instr.findKey, hf, Result.andThen]
    · rename_i hf
      have hb := mapAt_some hm
      simp [Instr.lookup, run_underlying ht, MapKept.run_getObj_map hb, check_int hk, run_underlying hk, Instr.findKey, hf, Result.andThen, hz]
    · rfl
theorem findNow_nil (k : TypeDesc) (v : Value) (i : Nat) : Instr.findNow k v [] i = some none := rfl
theorem findNow_int (kk : IntKind) (n m : Int) (v : Value) (b : Nat) (es : List MapEntry) (i : Nat) :
    Instr.findNow (.int kk) (.int kk n) (⟨.int kk m, v, b⟩ :: es) i = if n = m then some (some (i, v)) else Instr.findNow (.int kk) (.int kk n) es (i + 1) := by
  by_cases h : n = m
  · subst h; simp [Instr.findNow, Instr.sameNow]
  · have : (n == m) = false := by simpa using h
    simp [Instr.findNow, Instr.sameNow, h, this]
attribute [go_sem] findNow_nil findNow_int

/-- From w to w' only block b has been written, and blocks have been made. -/
def Only (b : Nat) (w w' : World) : Prop := w.heap.size ≤ w'.heap.size ∧ ∀ k, k < w.heap.size → k ≠ b → w'.heap[k]? = w.heap[k]?
theorem Only.refl (b : Nat) (w : World) : Only b w w := ⟨Nat.le_refl _, fun _ _ _ => rfl⟩
theorem Only.alloc {b : Nat} {w w' : World} (h : Only b w w') (o : Obj) : Only b w (w'.alloc o) :=
  ⟨Nat.le_trans h.1 (by simp), fun k h1 h2 => (Below.heap_alloc w' o k (Nat.lt_of_lt_of_le h1 h.1)).trans (h.2 k h1 h2)⟩
theorem Only.setCell {b : Nat} {w w' : World} (h : Only b w w') {a : Addr} (ha : a.block = b) (v : Value) : Only b w (w'.setCell a v) :=
  ⟨Nat.le_trans h.1 (by simp [World.setCell]), fun k h1 h2 => (Below.heap_setCell w' a v k (by rw [ha]; exact h2)).trans (h.2 k h1 h2)⟩
theorem Only.at {b : Nat} {w w' : World} (h : Only b w w') (o : Nat) (v : Value) : Only b w (w'.setCell ⟨b, o, none⟩ v) := h.setCell rfl v
theorem below_at {B b : Nat} {w w' : World} (h : Below B w w') (hb : B ≤ b) (o : Nat) (v : Value) : Below B w (w'.setCell ⟨b, o, none⟩ v) := Below.setCell h hb v
theorem below_drewN {B : Nat} {w w' : World} (h : Below B w w') (n : Nat) : Below B w (w'.drewN n) := h.trans ⟨rfl, rfl, rfl, Nat.le_refl _, fun _ _ => rfl⟩
theorem Only.drew {b : Nat} {w w' : World} (h : Only b w w') : Only b w w'.drew := h
theorem Only.drewN {b : Nat} {w w' : World} (h : Only b w w') (n : Nat) : Only b w (w'.drewN n) := h
theorem Only.cell {b : Nat} {w w' : World} (h : Only b w w') {k o : Nat} (hk : k < w.heap.size) (hb : k ≠ b) : w'.cell? ⟨k, o, none⟩ = w.cell? ⟨k, o, none⟩ := by
  unfold World.cell?; rw [h.2 k hk hb]
theorem bcell {W w1 : World} (hb : Below W.heap.size W w1) : (∀ b o, b < W.heap.size → w1.cell? ⟨b, o, none⟩ = W.cell? ⟨b, o, none⟩) ∧ (∀ b o, b < W.heap.size → w1.frozen? ⟨b, o, none⟩ = W.frozen? ⟨b, o, none⟩) :=
  ⟨fun b o h => hb.cell (p := ⟨b, o, none⟩) h, fun b o h => hb.frozen (p := ⟨b, o, none⟩) h⟩
/-- A box that the call has made is what it was, behind a call that leaves what it found. -/
theorem box_kept {w w1 : World} {cs : Array Value} {T : TypeId} (hb : Below (w.alloc (.cells cs T)).heap.size (w.alloc (.cells cs T)) w1) (i : Nat) : w1.cell? ⟨w.heap.size, i, none⟩ = cs[i]? := by
  rw [(bcell hb).1 _ _ (by simp)]; simp [go_sem]
theorem below_box {w w1 : World} {o : Obj} (hb : Below (w.alloc o).heap.size (w.alloc o) w1) : Below w.heap.size w w1 := ((Below.refl _ _).alloc (Nat.le_refl _) _).trans (hb.mono (by simp))
theorem below_next {B : Nat} {w w1 w2 : World} (h1 : Below B w w1) (hB : B ≤ w1.heap.size) (h2 : Below w1.heap.size w1 w2) : Below B w w2 := h1.trans (h2.mono hB)
theorem below_hop {w w1 w2 : World} (h1 : Below w.heap.size w w1) (h2 : Below w1.heap.size w1 w2) : Below w.heap.size w w2 := below_next h1 h1.size h2
end Go.Proofs.Ythopdfikikdcbaa
/- Slices and terms in memory, as they are read: what the cells of a slice of integers, of a list of nodes hold; and that it stays so. -/
namespace Go.Proofs.Ythopdfikikdcbaa
open Go.RowKit
set_option linter.unusedVariables false
set_option linter.unusedSimpArgs false

/-- The slice v of w has n places of size z, and what stands in the i-th one is told by C. -/
def Slc (w : World) (v : Value) (n z : Nat) (C : Nat → Nat → Nat → Prop) : Prop :=
  ∃ (a : Option Addr) (c : Nat), v = .slice a n c ∧ n ≤ c ∧ (n ≤ 140737488351232 ∧ c ≤ 9223372036854775807) ∧ (a = none → c = 0) ∧ ∀ i, i < n → ∃ b o, a = some ⟨b, o, none⟩ ∧ b < w.heap.size ∧ C i b (o + i * z)
/-- The slice v of w holds the integers xs of the kind k. -/
def Ints (k : IntKind) (w : World) (v : Value) (xs : List Int) : Prop := Slc w v xs.length 1 fun i b o => w.cell? ⟨b, o, none⟩ = some (.int k (xs.getD i 0))

/-- A node of a term. -/
structure Nd where
  op : Int
  width : Int
  flags : Int
  args : List Int
  imm : Int
  deriving Inhabited

/-- The cells behind the place o of block b hold the node x. -/
def NdAt (w : World) (b o : Nat) (x : Nd) : Prop :=
  w.cell? ⟨b, o, none⟩ = some (.int .i64 x.op) ∧ w.cell? ⟨b, o + 1, none⟩ = some (.int .i64 x.width) ∧ w.cell? ⟨b, o + 2, none⟩ = some (.int .i64 x.flags) ∧
  (∃ v, w.cell? ⟨b, o + 3, none⟩ = some v ∧ Ints .i64 w v x.args) ∧ w.cell? ⟨b, o + 4, none⟩ = some (.int .u32 x.imm)

/-- The slice v of w holds the nodes ts. -/
def Nds (w : World) (v : Value) (ts : List Nd) : Prop := Slc w v ts.length 5 fun i b o => NdAt w b o (ts.getD i default)

theorem below_cell {B : Nat} {w w' : World} (h : Below B w w') {b o : Nat} {v : Value} (hb : b < B) (hc : w.cell? ⟨b, o, none⟩ = some v) : w'.cell? ⟨b, o, none⟩ = some v := by
  rw [← hc]; exact h.cell (p := ⟨b, o, none⟩) hb
theorem cell_lt {w : World} {b o : Nat} {v : Value} (h : w.cell? ⟨b, o, none⟩ = some v) : b < w.heap.size := by
  unfold World.cell? at h
  by_cases hb : b < w.heap.size
  · exact hb
  · simp [Array.getElem?_eq_none (Nat.le_of_not_lt hb)] at h
theorem Slc.stays {w w' : World} {v : Value} {n z : Nat} {C C' : Nat → Nat → Nat → Prop} (h : Slc w v n z C) (hb : Below w.heap.size w w') (hC : ∀ i b o, b < w.heap.size → C i b o → C' i b o) : Slc w' v n z C' := by
  obtain ⟨a, c, e, h1, h2, h3, h4⟩ := h
  refine ⟨a, c, e, h1, h2, h3, fun i hi => ?_⟩
  obtain ⟨b, o, e1, e2, e3⟩ := h4 i hi
  exact ⟨b, o, e1, Nat.lt_of_lt_of_le e2 hb.size, hC i b _ e2 e3⟩
theorem Ints.stays {k : IntKind} {w w' : World} {v : Value} {xs : List Int} (h : Ints k w v xs) (hb : Below w.heap.size w w') : Ints k w' v xs :=
  Slc.stays h hb fun _ _ _ hlt hc => below_cell hb hlt hc
theorem NdAt.stays {w w' : World} {b o : Nat} {x : Nd} (h : NdAt w b o x) (hlt : b < w.heap.size) (hb : Below w.heap.size w w') : NdAt w' b o x := by
  obtain ⟨h1, h2, h3, ⟨v, h4, h5⟩, h6⟩ := h
  exact ⟨below_cell hb hlt h1, below_cell hb hlt h2, below_cell hb hlt h3, ⟨v, below_cell hb hlt h4, h5.stays hb⟩, below_cell hb hlt h6⟩
theorem Nds.stays {w w' : World} {v : Value} {ts : List Nd} (h : Nds w v ts) (hb : Below w.heap.size w w') : Nds w' v ts :=
  Slc.stays h hb fun _ _ _ hlt hc => hc.stays hlt hb
/-- The slice v, made by the call (its blocks from base on), holds the integers xs. -/
def RowI (w : World) (base : Nat) (e : TypeId) (k : IntKind) (v : Value) (xs : List Int) : Prop := w.ownsRow base e 1 v xs.length (xs.map (Value.int k))
theorem RowI.ints {w : World} {base : Nat} {e : TypeId} {k : IntKind} {v : Value} {xs : List Int} (h : RowI w base e k v xs) (hl : xs.length ≤ 140737488351232) : Ints k w v xs := by
  obtain ⟨_, ⟨rfl, h0⟩ | ⟨g, cap, cur, rfl, hb, hg, h1, h2, h3, h4⟩⟩ := h
  · exact ⟨none, 0, by rw [h0], by omega, by omega, fun _ => rfl, fun i hi => absurd hi (by omega)⟩
  · refine ⟨some ⟨g, 0, none⟩, cap, rfl, h1, ⟨hl, by unfold maxLen at h2; omega⟩, (fun hh => by cases hh), fun i hi => ⟨g, 0, rfl, ?_, ?_⟩⟩
    · rcases Nat.lt_or_ge g w.heap.size with h | h
      · exact h
      · rw [Array.getElem?_eq_none h] at hg; cases hg
    · rw [Nat.mul_one, Nat.zero_add]
      have e1 : w.cell? ⟨g, i, none⟩ = cur.toList[i]? := by simp [World.cell?, hg]
      have e2 : (cur.toList.take (xs.length * 1))[i]? = cur.toList[i]? := by rw [List.getElem?_take, if_pos (by omega)]
      show w.cell? ⟨g, i, none⟩ = _
      rw [e1, ← e2, h4, List.getElem?_map, List.getElem?_eq_getElem hi, List.getD_eq_getElem?_getD, List.getElem?_eq_getElem hi]
      rfl
theorem RowI.nil (w : World) (base : Nat) (e : TypeId) (k : IntKind) : RowI w base e k (.slice none 0 0) [] := World.ownsRow_nil w base e 1
/-- A row behind calls and new blocks that leave what lay there. -/
theorem RowI.below {w w' : World} {base : Nat} {e : TypeId} {k : IntKind} {v : Value} {xs : List Int} (h : RowI w base e k v xs) (hb : Below w.heap.size w w') : RowI w' base e k v xs := by
  obtain ⟨h0, ⟨rfl, h1⟩ | ⟨g, cap, cur, rfl, hb', hg, h1, h2, h3, h4⟩⟩ := h
  · exact ⟨h0, .inl ⟨rfl, h1⟩⟩
  · refine ⟨h0, .inr ⟨g, cap, cur, rfl, hb', ?_, h1, h2, h3, h4⟩⟩
    have hlt : g < w.heap.size := by
      rcases Nat.lt_or_ge g w.heap.size with h | h
      · exact h
      · rw [Array.getElem?_eq_none h] at hg; cases hg
    rw [← hg]
    exact hb.block g hlt
theorem RowI.shape {w : World} {base : Nat} {e : TypeId} {k : IntKind} {v : Value} {xs : List Int} (h : RowI w base e k v xs) : ∃ a c, v = .slice a xs.length c := by
  obtain ⟨_, ⟨rfl, h1⟩ | ⟨g, cap, cur, rfl, _⟩⟩ := h
  · exact ⟨none, 0, by rw [h1]⟩
  · exact ⟨_, _, rfl⟩
/-- Behind an append. -/
theorem RowI.app {w : World} {base : Nat} {e : TypeId} {k : IntKind} {v : Value} {xs ys zs : List Int} {n : Nat} (h : w.ownsRow base e 1 v n (xs.map (Value.int k) ++ ys.map (Value.int k))) (hn : n = xs.length + ys.length) (hz : zs = xs ++ ys) : RowI w base e k v zs := by
  subst hz; subst hn
  unfold RowI
  rw [List.length_append, List.map_append]
  exact h
theorem RowI.app1 {w : World} {base : Nat} {e : TypeId} {k : IntKind} {v : Value} {l zs : List Int} {y : Int} {j : Nat} (h : w.ownsRow base e 1 v (j + 1) (l.map (Value.int k) ++ [.int k y])) (hl : l.length = j) (hz : zs = l ++ [y]) : RowI w base e k v zs :=
  RowI.app (ys := [y]) h (by rw [hl]; rfl) hz
theorem own_ge {w : World} {base : Nat} {e : TypeId} {size : Nat} {v : Value} {n : Nat} {xs : List Value} (h : w.ownsRow base e size v n xs) : ∀ k, v.ownBlock = some k → base ≤ k := fun k hk => (h.lt k hk).1
end Go.Proofs.Ythopdfikikdcbaa
/- A term without equal nodes: the plain law. The nodes are told in the order of a walk that goes down first; the walk with a stack of its own tells the same. No program in sight. -/
namespace Go.Proofs.Ythopdfikikdcbaa
set_option linter.unusedVariables false
set_option linter.unusedSimpArgs false
instance : DecidableEq Nd := fun x y =>
  decidable_of_iff (x.op = y.op ∧ x.width = y.width ∧ x.flags = y.flags ∧ x.args = y.args ∧ x.imm = y.imm) ⟨fun h => by
    obtain ⟨a, b, c, d, e⟩ := x; obtain ⟨a', b', c', d', e'⟩ := y
    simp only at h
    obtain ⟨rfl, rfl, rfl, rfl, rfl⟩ := h; rfl, fun h => by subst h; exact ⟨rfl, rfl, rfl, rfl, rfl⟩⟩
/-- What has been told: the nodes, and for each node of the term its place among them, or -1. -/
structure St where
  out : List Nd
  nos : List Int
def St.no (s : St) (k : Nat) : Int := s.nos.getD k (-1)
def St.told (s : St) (k : Nat) : Prop := 0 ≤ s.no k
instance (s : St) (k : Nat) : Decidable (s.told k) := inferInstanceAs (Decidable (0 ≤ s.no k))
def mapN (s : St) (x : Nd) : Nd := ⟨x.op, x.width, x.flags, x.args.map fun a => s.no a.toNat, x.imm⟩
def addN (out : List Nd) (y : Nd) : List Nd × Nat := if y ∈ out then (out, out.idxOf y) else (out ++ [y], out.length)
def nd (ts : List Nd) (k : Nat) : Nd := ts.getD k default
def tell (ts : List Nd) (k : Nat) (s : St) : St := ⟨(addN s.out (mapN s (nd ts k))).1, s.nos.set k (addN s.out (mapN s (nd ts k))).2⟩
def visit (ts : List Nd) : Nat → Nat → St → St
  | 0, _, s => s
  | f + 1, k, s => if s.told k then s else tell ts k ((nd ts k).args.foldl (fun s a => visit ts f a.toNat s) s)
def vis (ts : List Nd) (k : Nat) (s : St) : St := visit ts (k + 1) k s
/-- The Args of each node are numbers of nodes before it. -/
def Down (ts : List Nd) : Prop := ∀ k, k < ts.length → ∀ a ∈ (nd ts k).args, 0 ≤ a ∧ a < k
structure Inv (ts : List Nd) (s : St) : Prop where
  len : s.nos.length = ts.length
  rng : ∀ k, s.told k → s.no k < s.out.length
  cls : ∀ k, s.told k → ∀ a ∈ (nd ts k).args, s.told a.toNat
  node : ∀ k, s.told k → s.out.getD (s.no k).toNat default = mapN s (nd ts k)
  nod : s.out.Nodup
  src : ∀ i, i < s.out.length → ∃ k, s.told k ∧ s.no k = i
  low : ∀ i, i < s.out.length → ∀ a ∈ (s.out.getD i default).args, 0 ≤ a ∧ a < i
/-- What was told stays as it was told. -/
structure Ext (s s' : St) : Prop where
  out : ∃ l, s'.out = s.out ++ l
  no : ∀ k, s.told k → s'.no k = s.no k
theorem Ext.refl (s : St) : Ext s s := ⟨⟨[], by simp⟩, fun _ _ => rfl⟩
theorem Ext.told {s s' : St} (h : Ext s s') {k : Nat} (hk : s.told k) : s'.told k := by unfold St.told at *; rw [h.no k hk]; exact hk
theorem Ext.trans {a b c : St} (h : Ext a b) (h' : Ext b c) : Ext a c := by
  obtain ⟨l, hl⟩ := h.out
  obtain ⟨l', hl'⟩ := h'.out
  exact ⟨⟨l ++ l', by rw [hl', hl, List.append_assoc]⟩, fun k hk => by rw [h'.no k (h.told hk), h.no k hk]⟩
theorem told_lt {ts : List Nd} {s : St} (hi : Inv ts s) {k : Nat} (hk : s.told k) : k < ts.length := by
  rcases Nat.lt_or_ge k ts.length with h | h
  · exact h
  · exfalso
    unfold St.told St.no at hk
    rw [List.getD_eq_getElem?_getD, List.getElem?_eq_none (by rw [hi.len]; exact h)] at hk
    exact absurd hk (by simp)
theorem addN_len {out : List Nd} {y : Nd} : (addN out y).2 < (addN out y).1.length := by
  unfold addN
  split
  · exact List.idxOf_lt_length_of_mem ‹_›
  · simp
theorem addN_ext {out : List Nd} {y : Nd} : ∃ l, (addN out y).1 = out ++ l := by
  unfold addN
  split
  · exact ⟨[], by simp⟩
  · exact ⟨[y], rfl⟩
theorem addN_get {out : List Nd} {y : Nd} : (addN out y).1.getD (addN out y).2 default = y := by
  unfold addN
  split
  · rename_i h
    rw [List.getD_eq_getElem?_getD, List.getElem?_eq_getElem (List.idxOf_lt_length_of_mem h), List.getElem_idxOf]; rfl
  · rw [List.getD_eq_getElem?_getD, List.getElem?_append_right (Nat.le_refl _), Nat.sub_self]; rfl
theorem addN_nodup {out : List Nd} {y : Nd} (h : out.Nodup) : (addN out y).1.Nodup := by
  unfold addN
  split
  · exact h
  · rw [List.nodup_append]
    refine ⟨h, by simp, ?_⟩
    intro a ha b hb
    simp at hb
    subst hb
    intro e; subst e; exact ‹¬ _› ha
theorem getD_pre {l l' : List Nd} {i : Nat} (h : i < l.length) : (l ++ l').getD i default = l.getD i default := by
  rw [List.getD_eq_getElem?_getD, List.getD_eq_getElem?_getD, List.getElem?_append_left h]
theorem no_tell_self {ts : List Nd} {k : Nat} {s : St} (h : k < s.nos.length) : (tell ts k s).no k = (addN s.out (mapN s (nd ts k))).2 := by
  show (s.nos.set k _).getD k (-1) = _
  rw [List.getD_eq_getElem?_getD, List.getElem?_set_self h]; rfl
theorem no_tell_ne {ts : List Nd} {k j : Nat} {s : St} (h : k ≠ j) : (tell ts k s).no j = s.no j := by
  show (s.nos.set k _).getD j (-1) = s.nos.getD j (-1)
  rw [List.getD_eq_getElem?_getD, List.getD_eq_getElem?_getD, List.getElem?_set_ne h]
theorem mapN_ext {s s' : St} {x : Nd} (h : ∀ a ∈ x.args, s'.no a.toNat = s.no a.toNat) : mapN s' x = mapN s x := by
  unfold mapN
  rw [List.map_congr_left h]
theorem tell_inv {ts : List Nd} {k : Nat} {s : St} (hd : Down ts) (hi : Inv ts s) (hk : k < ts.length) (hu : ¬ s.told k) (ha : ∀ a ∈ (nd ts k).args, s.told a.toNat) :
    Inv ts (tell ts k s) ∧ Ext s (tell ts k s) ∧ (tell ts k s).told k := by
  have hkl : k < s.nos.length := by rw [hi.len]; exact hk
  have hself := no_tell_self (ts := ts) hkl
  have htk : (tell ts k s).told k := by unfold St.told; rw [hself]; omega
  have hext : Ext s (tell ts k s) := ⟨addN_ext, fun j hj => no_tell_ne (fun e => hu (e ▸ hj))⟩
  have hback : ∀ j, j ≠ k → (tell ts k s).told j → s.told j := fun j hj h => by unfold St.told at *; rw [no_tell_ne (fun e => hj e.symm)] at h; exact h
  obtain ⟨l, hl⟩ := hext.out
  have hargs : ∀ j, s.told j → mapN (tell ts k s) (nd ts j) = mapN s (nd ts j) := fun j hj => mapN_ext fun a h => hext.no _ (hi.cls j hj a h)
  refine ⟨⟨by show (s.nos.set k _).length = _; rw [List.length_set]; exact hi.len, ?_, ?_, ?_, addN_nodup hi.nod, ?_, ?_⟩, hext, htk⟩
  · intro j hj
    by_cases e : j = k
    · subst e; rw [hself]; exact Int.ofNat_lt.2 addN_len
    · have h1 := hback j e hj
      rw [hext.no j h1, hl, List.length_append]
      have := hi.rng j h1
      omega
  · intro j hj a haj
    by_cases e : j = k
    · subst e; exact hext.told (ha a haj)
    · exact hext.told (hi.cls j (hback j e hj) a haj)
  · intro j hj
    by_cases e : j = k
    · subst e
      rw [hself, Int.toNat_natCast]
      show (addN _ _).1.getD _ _ = _
      rw [addN_get]
      exact (mapN_ext fun a h => hext.no _ (ha a h)).symm
    · have h1 := hback j e hj
      have h2 := hi.rng j h1
      have h3 : 0 ≤ s.no j := h1
      rw [hext.no j h1, hl, getD_pre (by omega), hi.node j h1, hargs j h1]
  · intro i hlt
    by_cases e : i < s.out.length
    · obtain ⟨j, h1, h2⟩ := hi.src i e
      exact ⟨j, hext.told h1, by rw [hext.no j h1]; exact h2⟩
    · refine ⟨k, htk, ?_⟩
      rw [hself]
      show ((addN s.out (mapN s (nd ts k))).2 : Int) = i
      have hlt' : i < (addN s.out (mapN s (nd ts k))).1.length := hlt
      unfold addN at hlt' ⊢
      split
      · rename_i h; rw [if_pos h] at hlt'; exact absurd hlt' e
      · rename_i h; rw [if_neg h] at hlt'; simp at hlt' ⊢; omega
  · intro i hlt a hai
    by_cases e : i < s.out.length
    · rw [hl, getD_pre e] at hai
      exact hi.low i e a hai
    · have hlt' : i < (addN s.out (mapN s (nd ts k))).1.length := hlt
      have hai' : a ∈ ((addN s.out (mapN s (nd ts k))).1.getD i default).args := hai
      unfold addN at hlt' hai'
      split at hlt'
      · exact absurd hlt' e
      · rename_i h
        rw [if_neg h] at hai'
        simp only [List.length_append, List.length_cons, List.length_nil] at hlt'
        have hi2 : i = s.out.length := by omega
        subst hi2
        rw [List.getD_eq_getElem?_getD, List.getElem?_append_right (Nat.le_refl _), Nat.sub_self] at hai'
        obtain ⟨b, hb, rfl⟩ := List.mem_map.1 (show a ∈ (nd ts k).args.map _ from hai')
        exact ⟨ha b hb, hi.rng _ (ha b hb)⟩
theorem tell_up {ts : List Nd} {k j : Nat} {s : St} (h : k < j) : (tell ts k s).no j = s.no j := no_tell_ne (by omega)
/-- What a walk down from k gives. -/
structure Went (ts : List Nd) (k : Nat) (s s' : St) : Prop where
  inv : Inv ts s'
  ext : Ext s s'
  up : ∀ j, k ≤ j → s'.no j = s.no j
theorem Went.refl {ts : List Nd} {k : Nat} {s : St} (h : Inv ts s) : Went ts k s s := ⟨h, Ext.refl s, fun _ _ => rfl⟩
theorem Went.trans {ts : List Nd} {k : Nat} {a b c : St} (h : Went ts k a b) (h' : Went ts k b c) : Went ts k a c := ⟨h'.inv, h.ext.trans h'.ext, fun j hj => by rw [h'.up j hj, h.up j hj]⟩
theorem told_of_no {s s' : St} {k : Nat} (h : s'.no k = s.no k) : s'.told k ↔ s.told k := by unfold St.told; rw [h]
theorem visit_inv {ts : List Nd} (hd : Down ts) : ∀ (f k : Nat) (s : St), k < f → k < ts.length → Inv ts s → Went ts (k + 1) s (visit ts f k s) ∧ (visit ts f k s).told k
  | 0, k, s, h, _, _ => absurd h (by omega)
  | f + 1, k, s, hf, hk, hi => by
    unfold visit
    by_cases ht : s.told k
    · rw [if_pos ht]; exact ⟨Went.refl hi, ht⟩
    · rw [if_neg ht]
      have key : ∀ (l : List Int) (s : St), (∀ a ∈ l, 0 ≤ a ∧ a < k) → Inv ts s →
          Went ts k s (l.foldl (fun s a => visit ts f a.toNat s) s) ∧ (∀ a ∈ l, (l.foldl (fun s a => visit ts f a.toNat s) s).told a.toNat) := by
        intro l
        induction l with
        | nil => intro s _ hi; exact ⟨Went.refl hi, fun a h => by cases h⟩
        | cons a l ih =>
          intro s hr hi
          have ha := hr a (List.mem_cons_self ..)
          obtain ⟨w1, t1⟩ := visit_inv hd f a.toNat s (by omega) (by omega) hi
          have w1' : Went ts k s (visit ts f a.toNat s) := ⟨w1.inv, w1.ext, fun j hj => w1.up j (by omega)⟩
          rw [List.foldl_cons]
          obtain ⟨w2, t2⟩ := ih _ (fun b hb => hr b (List.mem_cons_of_mem _ hb)) w1.inv
          refine ⟨w1'.trans w2, fun b hb => ?_⟩
          rcases List.mem_cons.1 hb with rfl | hb
          · exact w2.ext.told t1
          · exact t2 b hb
      obtain ⟨w1, t1⟩ := key _ s (hd k hk) hi
      have hu : ¬ ((nd ts k).args.foldl (fun s a => visit ts f a.toNat s) s).told k := by rw [told_of_no (w1.up k (Nat.le_refl _))]; exact ht
      obtain ⟨i2, e2, t2⟩ := tell_inv hd w1.inv hk hu t1
      exact ⟨⟨i2, w1.ext.trans e2, fun j hj => by rw [tell_up (by omega), w1.up j (by omega)]⟩, t2⟩
/-- More fuel makes no difference. -/
theorem visit_fuel {ts : List Nd} (hd : Down ts) : ∀ (f k : Nat) (s : St), k < f → k < ts.length → visit ts f k s = vis ts k s
  | 0, k, s, h, _ => absurd h (by omega)
  | f + 1, k, s, hf, hk => by
    unfold vis
    unfold visit
    by_cases ht : s.told k
    · rw [if_pos ht, if_pos ht]
    · rw [if_neg ht, if_neg ht]
      have key : ∀ (l : List Int) (s : St), (∀ a ∈ l, 0 ≤ a ∧ a < k) → l.foldl (fun s a => visit ts f a.toNat s) s = l.foldl (fun s a => visit ts k a.toNat s) s := by
        intro l
        induction l with
        | nil => intro s _; rfl
        | cons a l ih =>
          intro s hr
          have ha := hr a (List.mem_cons_self ..)
          rw [List.foldl_cons, List.foldl_cons, visit_fuel hd f a.toNat s (by omega) (by omega), visit_fuel hd k a.toNat s (by omega) (by omega)]
          exact ih _ (fun b hb => hr b (List.mem_cons_of_mem _ hb))
      rw [key _ s (hd k hk)]
theorem vis_eq {ts : List Nd} (hd : Down ts) {k : Nat} (hk : k < ts.length) (s : St) : vis ts k s = if s.told k then s else tell ts k ((nd ts k).args.foldl (fun s a => vis ts a.toNat s) s) := by
  unfold vis
  conv => lhs; unfold visit
  have key : ∀ (l : List Int) (s : St), (∀ a ∈ l, 0 ≤ a ∧ a < k) → l.foldl (fun s a => visit ts k a.toNat s) s = l.foldl (fun s a => visit ts (a.toNat + 1) a.toNat s) s := by
    intro l
    induction l with
    | nil => intro s _; rfl
    | cons a l ih =>
      intro s hr
      have ha := hr a (List.mem_cons_self ..)
      rw [List.foldl_cons, List.foldl_cons, visit_fuel hd k a.toNat s (by omega) (by omega)]
      exact ih _ (fun b hb => hr b (List.mem_cons_of_mem _ hb))
  rw [key _ s (hd k hk)]
theorem vis_inv {ts : List Nd} (hd : Down ts) {k : Nat} (hk : k < ts.length) {s : St} (hi : Inv ts s) : Went ts (k + 1) s (vis ts k s) ∧ (vis ts k s).told k := visit_inv hd (k + 1) k s (by omega) hk hi

/-! ### the walk with a stack -/
/-- The first Arg that is not yet told. -/
def missing (s : St) (l : List Int) : Option Int := l.find? fun a => decide (s.no a.toNat < 0)
def stp (ts : List Nd) : List Nat × St → List Nat × St
  | ([], s) => ([], s)
  | (n :: rest, s) => match missing s (nd ts n).args with
    | some a => (a.toNat :: n :: rest, s)
    | none => (rest, tell ts n s)
def runS (ts : List Nd) : Nat → List Nat × St → List Nat × St
  | 0, c => c
  | t + 1, c => runS ts t (stp ts c)
theorem runS_add (ts : List Nd) : ∀ (a b : Nat) (c : List Nat × St), runS ts (a + b) c = runS ts b (runS ts a c)
  | 0, b, c => by rw [Nat.zero_add]; rfl
  | a + 1, b, c => by rw [show a + 1 + b = (a + b) + 1 by omega]; exact runS_add ts a b (stp ts c)
theorem stp_some {ts : List Nd} {n : Nat} {rest : List Nat} {s : St} {a : Int} (h : missing s (nd ts n).args = some a) : stp ts (n :: rest, s) = (a.toNat :: n :: rest, s) := by simp only [stp, h]
theorem stp_none {ts : List Nd} {n : Nat} {rest : List Nat} {s : St} (h : missing s (nd ts n).args = none) : stp ts (n :: rest, s) = (rest, tell ts n s) := by simp only [stp, h]
theorem runS_one (ts : List Nd) (c : List Nat × St) : runS ts 1 c = stp ts c := rfl
theorem missing_none {s : St} {l : List Int} : (∀ a ∈ l, s.told a.toNat) → missing s l = none := by
  intro h
  unfold missing
  rw [List.find?_eq_none]
  intro a ha
  have := h a ha
  unfold St.told at this
  simp; omega
theorem missing_first {s : St} {p q : List Int} {a : Int} (hp : ∀ b ∈ p, s.told b.toNat) (ha : ¬ s.told a.toNat) : missing s (p ++ a :: q) = some a := by
  unfold missing
  rw [List.find?_append, show List.find? (fun a => decide (s.no a.toNat < 0)) p = none from missing_none hp]
  unfold St.told at ha
  rw [List.find?_cons_of_pos (by simp; omega)]; rfl
theorem run_vis {ts : List Nd} (hd : Down ts) : ∀ (k : Nat) (s : St) (rest : List Nat), k < ts.length → Inv ts s → ¬ s.told k → ∃ T, runS ts T (k :: rest, s) = (rest, vis ts k s) := by
  intro k
  induction k using Nat.strongRecOn with
  | _ k ih =>
    intro s rest hk hi hu
    have key : ∀ (q p : List Int) (s : St), p ++ q = (nd ts k).args → (∀ b ∈ p, s.told b.toNat) → Inv ts s → ∃ T, runS ts T (k :: rest, s) = (k :: rest, q.foldl (fun s a => vis ts a.toNat s) s) ∧ ∀ b ∈ (nd ts k).args, (q.foldl (fun s a => vis ts a.toNat s) s).told b.toNat := by
      intro q
      induction q with
      | nil => intro p s hpq hp hi; exact ⟨0, rfl, by rw [← hpq, List.append_nil]; exact hp⟩
      | cons a q ihq =>
        intro p s hpq hp hi
        have hak := hd k hk a (by rw [← hpq]; simp)
        obtain ⟨w1, t1⟩ := vis_inv hd (show a.toNat < ts.length by omega) hi
        have hp' : ∀ b ∈ p ++ [a], (vis ts a.toNat s).told b.toNat := by
          intro b hb
          rcases List.mem_append.1 hb with hb | hb
          · exact w1.ext.told (hp b hb)
          · simp at hb; subst hb; exact t1
        obtain ⟨T2, r2, t2⟩ := ihq (p ++ [a]) (vis ts a.toNat s) (by rw [List.append_assoc]; exact hpq) hp' w1.inv
        by_cases ha : s.told a.toNat
        · have e : vis ts a.toNat s = s := by rw [vis_eq hd (by omega), if_pos ha]
          rw [e] at r2 t2
          refine ⟨T2, ?_, ?_⟩
          · rw [r2, List.foldl_cons, e]
          · rw [List.foldl_cons, e]; exact t2
        · obtain ⟨T1, r1⟩ := ih a.toNat (by omega) s (k :: rest) (by omega) hi ha
          refine ⟨1 + (T1 + T2), ?_, ?_⟩
          · rw [runS_add]
            rw [runS_one, stp_some (by rw [← hpq]; exact missing_first hp ha), runS_add, r1, r2, List.foldl_cons]
          · rw [List.foldl_cons]; exact t2
    obtain ⟨T, r, t⟩ := key _ [] s rfl (fun b hb => by cases hb) hi
    refine ⟨T + 1, ?_⟩
    rw [runS_add, r, runS_one, stp_none (missing_none t), vis_eq hd hk, if_neg hu]
/-- The walk with a stack comes to its end, and till then the stack holds something. -/
theorem runS_end {ts : List Nd} {c : List Nat × St} {s' : St} : ∀ (T : Nat), runS ts T c = ([], s') → ∃ T0, T0 ≤ T ∧ runS ts T0 c = ([], s') ∧ ∀ t, t < T0 → (runS ts t c).1 ≠ []
  | 0, h => ⟨0, Nat.le_refl _, h, fun t ht => absurd ht (by omega)⟩
  | T + 1, h => by
    by_cases e : (runS ts T c).1 = []
    · have h2 : runS ts (T + 1) c = runS ts T c := by
        rw [runS_add, runS_one]
        generalize runS ts T c = d at *
        obtain ⟨d1, d2⟩ := d
        simp only at e
        subst e
        rfl
      obtain ⟨T0, h3, h4, h5⟩ := runS_end T (by rw [← h2]; exact h)
      exact ⟨T0, by omega, h4, h5⟩
    · by_cases a : ∃ t, t < T + 1 ∧ (runS ts t c).1 = []
      · obtain ⟨t, ht, h1⟩ := a
        have : ∀ d, runS ts (t + d) c = runS ts t c := by
          intro d
          induction d with
          | zero => rfl
          | succ d ih =>
            rw [← Nat.add_assoc, runS_add, runS_one, ih]
            generalize runS ts t c = x at *
            obtain ⟨x1, x2⟩ := x
            simp only at h1
            subst h1
            rfl
        have h6 := this (T - t)
        rw [show t + (T - t) = T by omega] at h6
        rw [h6] at e
        exact absurd h1 e
      · exact ⟨T + 1, Nat.le_refl _, h, fun t ht e2 => a ⟨t, ht, e2⟩⟩
def st0 (ts : List Nd) : St := ⟨[], List.replicate ts.length (-1)⟩
theorem st0_told (ts : List Nd) (k : Nat) : ¬ (st0 ts).told k := by
  unfold St.told St.no st0
  rw [List.getD_eq_getElem?_getD, List.getElem?_replicate]
  split <;> simp
theorem st0_inv (ts : List Nd) : Inv ts (st0 ts) :=
  ⟨by simp [st0], fun k h => absurd h (st0_told ts k), fun k h => absurd h (st0_told ts k), fun k h => absurd h (st0_told ts k), by simp [st0], (fun i h => by simp [st0] at h), fun i h => by simp [st0] at h⟩
/-- The nodes that lead to the node k, without equal ones. -/
def shr (ts : List Nd) (k : Nat) : List Nd := (vis ts k (st0 ts)).out
/-- The root has the greatest number of all that its walk has told. -/
theorem vis_top {ts : List Nd} (hd : Down ts) : ∀ (k : Nat) (s : St), k < ts.length → Inv ts s → ∀ j, (vis ts k s).told j → s.told j ∨ (vis ts k s).no j ≤ (vis ts k s).no k := by
  intro k
  induction k using Nat.strongRecOn with
  | _ k ih =>
    intro s hk hi j hj
    have hw := vis_inv hd hk hi
    by_cases ht : s.told k
    · rw [vis_eq hd hk, if_pos ht] at hj; exact Or.inl hj
    have key : ∀ (l : List Int) (s : St), (∀ a ∈ l, 0 ≤ a ∧ a < k) → Inv ts s → Inv ts (l.foldl (fun s a => vis ts a.toNat s) s) ∧ Ext s (l.foldl (fun s a => vis ts a.toNat s) s) ∧ ∀ j, (l.foldl (fun s a => vis ts a.toNat s) s).told j → s.told j ∨ ∃ a ∈ l, (l.foldl (fun s a => vis ts a.toNat s) s).told a.toNat ∧ (l.foldl (fun s a => vis ts a.toNat s) s).no j ≤ (l.foldl (fun s a => vis ts a.toNat s) s).no a.toNat := by
      intro l
      induction l with
      | nil => intro s _ hi; exact ⟨hi, Ext.refl s, fun j h => Or.inl h⟩
      | cons a l ihl =>
        intro s hr hi
        have ha := hr a (List.mem_cons_self ..)
        obtain ⟨w1, t1⟩ := vis_inv hd (show a.toNat < ts.length by omega) hi
        obtain ⟨i2, e2, h2⟩ := ihl (vis ts a.toNat s) (fun b hb => hr b (List.mem_cons_of_mem _ hb)) w1.inv
        rw [List.foldl_cons]
        refine ⟨i2, w1.ext.trans e2, fun j hj => ?_⟩
        rcases h2 j hj with h | ⟨b, hb, h3, h4⟩
        · rcases ih a.toNat (by omega) s (by omega) hi j h with h5 | h5
          · exact Or.inl h5
          · refine Or.inr ⟨a, List.mem_cons_self .., e2.told t1, ?_⟩
            rw [e2.no j h, e2.no _ t1]; exact h5
        · exact Or.inr ⟨b, List.mem_cons_of_mem _ hb, h3, h4⟩
    obtain ⟨i1, e1, h1⟩ := key _ s (hd k hk) hi
    by_cases e : j = k
    · subst e; exact Or.inr (Int.le_refl _)
    have hv : vis ts k s = tell ts k ((nd ts k).args.foldl (fun s a => vis ts a.toNat s) s) := by rw [vis_eq hd hk, if_neg ht]
    have hno : ∀ i, i ≠ k → (vis ts k s).no i = ((nd ts k).args.foldl (fun s a => vis ts a.toNat s) s).no i := fun i hi => by rw [hv]; exact no_tell_ne (fun e => hi e.symm)
    have hj1 : ((nd ts k).args.foldl (fun s a => vis ts a.toNat s) s).told j := by unfold St.told at *; rw [hno j e] at hj; exact hj
    rcases h1 j hj1 with h | ⟨a, ha, h3, h4⟩
    · exact Or.inl h
    · right
      have hak := hd k hk a ha
      have hlow := hw.1.inv.low ((vis ts k s).no k).toNat (by have := hw.1.inv.rng k hw.2; have h0 : 0 ≤ (vis ts k s).no k := hw.2; omega) ((vis ts k s).no a.toNat) (by
        rw [hw.1.inv.node k hw.2]
        exact List.mem_map.2 ⟨a, ha, rfl⟩)
      have h0 : 0 ≤ (vis ts k s).no k := hw.2
      rw [hno a.toNat (by omega)] at hlow
      rw [hno j e]
      omega
theorem shr_root {ts : List Nd} (hd : Down ts) {k : Nat} (hk : k < ts.length) : (vis ts k (st0 ts)).no k = ((shr ts k).length : Int) - 1 ∧ 1 ≤ (shr ts k).length := by
  obtain ⟨w, t⟩ := vis_inv hd hk (st0_inv ts)
  have h1 := w.inv.rng k t
  have h0 : 0 ≤ (vis ts k (st0 ts)).no k := t
  have hlen : (shr ts k).length = (vis ts k (st0 ts)).out.length := rfl
  rw [hlen]
  refine ⟨?_, by omega⟩
  obtain ⟨j, hj, hn⟩ := w.inv.src ((vis ts k (st0 ts)).out.length - 1) (by omega)
  rcases vis_top hd k (st0 ts) hk (st0_inv ts) j hj with h | h
  · exact absurd h (st0_told ts j)
  · omega
theorem shr_down {ts : List Nd} (hd : Down ts) {k : Nat} (hk : k < ts.length) : Down (shr ts k) := fun i hi a ha => (vis_inv hd hk (st0_inv ts)).1.inv.low i hi a ha
theorem shr_run {ts : List Nd} (hd : Down ts) {k : Nat} (hk : k < ts.length) : ∃ T s', runS ts T ([k], st0 ts) = ([], s') ∧ s'.out = shr ts k ∧ ∀ t, t < T → (runS ts t ([k], st0 ts)).1 ≠ [] := by
  obtain ⟨T, h⟩ := run_vis hd k (st0 ts) [] hk (st0_inv ts) (st0_told ts k)
  obtain ⟨T0, _, h2, h3⟩ := runS_end T h
  exact ⟨T0, _, h2, rfl, h3⟩

/-! ### shared again it is the same -/
/-- The state in which the first m nodes of o have been told, each as itself. -/
def csq (o : List Nd) (m : Nat) : St := ⟨o.take m, (List.range o.length).map fun i => if i < m then (i : Int) else -1⟩
theorem csq_no {o : List Nd} {m i : Nat} (hi : i < o.length) : (csq o m).no i = if i < m then (i : Int) else -1 := by
  show ((List.range o.length).map _).getD i (-1) = _
  rw [List.getD_eq_getElem?_getD, List.getElem?_map, List.getElem?_range hi]; rfl
theorem csq_told {o : List Nd} {m i : Nat} (hi : i < o.length) : (csq o m).told i ↔ i < m := by
  unfold St.told
  rw [csq_no hi]
  split <;> omega
theorem csq_zero (o : List Nd) : csq o 0 = st0 o := by
  unfold csq st0
  congr 1
  apply List.ext_getElem
  · simp
  · intro i h1 h2
    simp
theorem Ext.len {s s' : St} (h : Ext s s') : s.out.length ≤ s'.out.length ∧ s.out = s'.out.take s.out.length := by
  obtain ⟨l, hl⟩ := h.out
  rw [hl]
  simp
theorem sim {ts : List Nd} (hd : Down ts) {F : St} (hF : Inv ts F) : ∀ (k : Nat) (s : St), k < ts.length → Inv ts s → Ext (vis ts k s) F → vis F.out (F.no k).toNat (csq F.out s.out.length) = csq F.out (vis ts k s).out.length := by
  have hdF : Down F.out := fun i hi a ha => hF.low i hi a ha
  intro k
  induction k using Nat.strongRecOn with
  | _ k ih =>
    intro s hk hi hE
    have hw := vis_inv hd hk hi
    have hkF : F.told k := hE.told hw.2
    have hkn : 0 ≤ F.no k := hkF
    have hkr := hF.rng k hkF
    have hglt : (F.no k).toNat < F.out.length := by omega
    by_cases ht : s.told k
    · have e : vis ts k s = s := by rw [vis_eq hd hk, if_pos ht]
      rw [e] at hE ⊢
      have h1 := hi.rng k ht
      have h2 := hE.no k ht
      rw [vis_eq hdF hglt, if_pos ((csq_told hglt).2 (by omega))]
    have hv : vis ts k s = tell ts k ((nd ts k).args.foldl (fun s a => vis ts a.toNat s) s) := by rw [vis_eq hd hk, if_neg ht]
    -- the Args, one behind the other
    have key : ∀ (l : List Int) (s : St), (∀ a ∈ l, 0 ≤ a ∧ a < k) → Inv ts s → Ext (l.foldl (fun s a => vis ts a.toNat s) s) F →
        Inv ts (l.foldl (fun s a => vis ts a.toNat s) s) ∧ Ext s (l.foldl (fun s a => vis ts a.toNat s) s) ∧ (∀ a ∈ l, (l.foldl (fun s a => vis ts a.toNat s) s).told a.toNat) ∧ (∀ j, k ≤ j → (l.foldl (fun s a => vis ts a.toNat s) s).no j = s.no j) ∧
        (l.map fun a => F.no a.toNat).foldl (fun s b => vis F.out b.toNat s) (csq F.out s.out.length) = csq F.out (l.foldl (fun s a => vis ts a.toNat s) s).out.length := by
      intro l
      induction l with
      | nil => intro s _ hi _; exact ⟨hi, Ext.refl s, (fun a h => by cases h), (fun _ _ => rfl), rfl⟩
      | cons a l ihl =>
        intro s hr hi hE
        have ha := hr a (List.mem_cons_self ..)
        have hal : a.toNat < ts.length := by omega
        obtain ⟨w1, t1⟩ := vis_inv hd hal hi
        rw [List.foldl_cons] at hE ⊢
        have e2 : Ext (vis ts a.toNat s) (l.foldl (fun s a => vis ts a.toNat s) (vis ts a.toNat s)) := by
          have : ∀ (l : List Int) (s : St), (∀ a ∈ l, 0 ≤ a ∧ a < k) → Inv ts s → Ext s (l.foldl (fun s a => vis ts a.toNat s) s) := by
            intro l
            induction l with
            | nil => intro s _ _; exact Ext.refl s
            | cons a l ihl =>
              intro s hr hi
              have ha := hr a (List.mem_cons_self ..)
              obtain ⟨w1, t1⟩ := vis_inv hd (show a.toNat < ts.length by omega) hi
              rw [List.foldl_cons]
              exact w1.ext.trans (ihl _ (fun b hb => hr b (List.mem_cons_of_mem _ hb)) w1.inv)
          exact this l _ (fun b hb => hr b (List.mem_cons_of_mem _ hb)) w1.inv
        obtain ⟨i3, e3, t3, u3, r3⟩ := ihl (vis ts a.toNat s) (fun b hb => hr b (List.mem_cons_of_mem _ hb)) w1.inv hE
        refine ⟨i3, w1.ext.trans e3, ?_, ?_, ?_⟩
        · intro b hb
          rcases List.mem_cons.1 hb with rfl | hb
          · exact e3.told t1
          · exact t3 b hb
        · intro j hj; rw [u3 j hj, w1.up j (by omega)]
        · rw [List.map_cons, List.foldl_cons, ih a.toNat (by omega) s hal hi (e2.trans hE), r3]
    have hEf : Ext ((nd ts k).args.foldl (fun s a => vis ts a.toNat s) s) (vis ts k s) := by
      have h0 : ∀ (l : List Int) (s : St), (∀ a ∈ l, 0 ≤ a ∧ a < k) → Inv ts s → Inv ts (l.foldl (fun s a => vis ts a.toNat s) s) ∧ (∀ a ∈ l, (l.foldl (fun s a => vis ts a.toNat s) s).told a.toNat) ∧ Ext s (l.foldl (fun s a => vis ts a.toNat s) s) ∧ (∀ j, k ≤ j → (l.foldl (fun s a => vis ts a.toNat s) s).no j = s.no j) := by
        intro l
        induction l with
        | nil => intro s _ hi; exact ⟨hi, (fun a h => by cases h), Ext.refl s, fun _ _ => rfl⟩
        | cons a l ihl =>
          intro s hr hi
          have ha := hr a (List.mem_cons_self ..)
          obtain ⟨w1, t1⟩ := vis_inv hd (show a.toNat < ts.length by omega) hi
          obtain ⟨i2, t2, e2, u2⟩ := ihl (vis ts a.toNat s) (fun b hb => hr b (List.mem_cons_of_mem _ hb)) w1.inv
          rw [List.foldl_cons]
          refine ⟨i2, fun b hb => ?_, w1.ext.trans e2, fun j hj => by rw [u2 j hj, w1.up j (by omega)]⟩
          rcases List.mem_cons.1 hb with rfl | hb
          · exact e2.told t1
          · exact t2 b hb
      obtain ⟨i2, t2, e2, u2⟩ := h0 _ s (hd k hk) hi
      rw [hv]
      exact (tell_inv hd i2 hk (by rw [told_of_no (u2 k (Nat.le_refl _))]; exact ht) t2).2.1
    obtain ⟨i1, e1, t1, u1, r1⟩ := key _ s (hd k hk) hi (hEf.trans hE)
    have hE1 := hEf.trans hE
    generalize hs1 : (nd ts k).args.foldl (fun s a => vis ts a.toNat s) s = s1 at *
    have hnode : nd F.out (F.no k).toNat = mapN F (nd ts k) := hF.node k hkF
    have hmap : mapN F (nd ts k) = mapN s1 (nd ts k) := mapN_ext fun a ha => hE1.no _ (t1 a ha)
    have hargs : (nd F.out (F.no k).toNat).args = (nd ts k).args.map fun a => F.no a.toNat := by rw [hnode]; rfl
    have hlen1 := hE1.len
    -- where the node stands
    have hidx : s1.told k ↔ False := by
      rw [told_of_no (u1 k (Nat.le_refl _))]; exact ⟨ht, False.elim⟩
    have hkno : F.no k = ((addN s1.out (mapN s1 (nd ts k))).2 : Int) := by
      have hkl : k < s1.nos.length := by rw [i1.len]; exact hk
      have h1 := hE.no k hw.2
      rw [hv, no_tell_self hkl] at h1
      exact h1
    have hout : (vis ts k s).out = (addN s1.out (mapN s1 (nd ts k))).1 := by rw [hv]; rfl
    -- is it told already?
    by_cases hm : (F.no k).toNat < s.out.length
    · rw [vis_eq hdF hglt, if_pos ((csq_told hglt).2 hm)]
      have hle := e1.len.1
      have hin : mapN s1 (nd ts k) ∈ s1.out := by
        rw [← hmap, ← hnode, hlen1.2]
        unfold nd
        have h3 : (F.no k).toNat < (F.out.take s1.out.length).length := by rw [List.length_take]; omega
        have h4 : (F.out.take s1.out.length)[(F.no k).toNat] = F.out.getD (F.no k).toNat default := by
          rw [List.getElem_take, List.getD_eq_getElem?_getD, List.getElem?_eq_getElem hglt]; rfl
        rw [← h4]
        exact List.getElem_mem h3
      have hsame : (vis ts k s).out = s1.out := by rw [hout]; unfold addN; rw [if_pos hin]
      rw [hsame]
      -- the Args told nothing new
      have hcs : ∀ (l : List Int), (∀ b ∈ l, 0 ≤ b ∧ b < (s.out.length : Int)) → l.foldl (fun s b => vis F.out b.toNat s) (csq F.out s.out.length) = csq F.out s.out.length := by
        intro l
        induction l with
        | nil => intro _; rfl
        | cons b l ihl =>
          intro h
          have hb := h b (List.mem_cons_self ..)
          have h5 := (hE1.len.1)
          have hbl : b.toNat < F.out.length := by omega
          rw [List.foldl_cons, vis_eq hdF hbl, if_pos ((csq_told hbl).2 (by omega))]
          exact ihl fun c hc => h c (List.mem_cons_of_mem _ hc)
      have h6 := hcs ((nd ts k).args.map fun a => F.no a.toNat) (fun b hb => by
        have := hF.low (F.no k).toNat hglt b (by show b ∈ (nd F.out (F.no k).toNat).args; rw [hargs]; exact hb)
        omega)
      rw [h6] at r1
      exact r1
    · rw [vis_eq hdF hglt, if_neg (fun h => hm ((csq_told hglt).1 h)), hargs, r1]
      -- the node itself
      have hself : mapN (csq F.out s1.out.length) (nd F.out (F.no k).toNat) = mapN s1 (nd ts k) := by
        rw [hnode, ← hmap]
        unfold mapN
        simp only [Nd.mk.injEq, true_and, and_true, List.map_map]
        apply List.map_congr_left
        intro a ha
        have h7 := t1 a ha
        have h8 := i1.rng _ h7
        have h9 : 0 ≤ s1.no a.toNat := h7
        have h10 := hE1.no _ h7
        show (csq F.out s1.out.length).no (F.no a.toNat).toNat = F.no a.toNat
        rw [h10, csq_no (by omega), if_pos (by omega)]
        omega
      have htl : (F.out.take s1.out.length) = s1.out := hlen1.2.symm
      unfold tell
      rw [hself]
      show St.mk (addN (F.out.take s1.out.length) (mapN s1 (nd ts k))).1 ((csq F.out s1.out.length).nos.set (F.no k).toNat (addN (F.out.take s1.out.length) (mapN s1 (nd ts k))).2) = _
      rw [htl, ← hkno, hout]
      by_cases hin : mapN s1 (nd ts k) ∈ s1.out
      · have ha : (addN s1.out (mapN s1 (nd ts k))).1 = s1.out := by unfold addN; rw [if_pos hin]
        rw [ha]
        have hlt2 : (F.no k).toNat < s1.out.length := by
          have := @addN_len s1.out (mapN s1 (nd ts k))
          rw [ha] at this
          omega
        unfold csq
        rw [htl]
        congr 1
        apply List.ext_getElem (by simp)
        intro i h1 h2
        rw [List.getElem_set]
        split
        · rename_i e; subst e; simp; rw [if_pos hlt2]; omega
        · rfl
      · have ha : (addN s1.out (mapN s1 (nd ts k))) = (s1.out ++ [mapN s1 (nd ts k)], s1.out.length) := by unfold addN; rw [if_neg hin]
        rw [ha] at hkno ⊢
        have hkeq : (F.no k).toNat = s1.out.length := by rw [hkno]; simp
        unfold csq
        congr 1
        · rw [List.length_append, List.length_singleton]
          show _ = F.out.take (s1.out.length + 1)
          have hlt3 : s1.out.length < F.out.length := by omega
          rw [List.take_succ_eq_append_getElem hlt3, htl]
          congr 2
          rw [← hmap, ← hnode]
          unfold nd
          rw [hkeq, List.getD_eq_getElem?_getD, List.getElem?_eq_getElem hlt3]; rfl
        · rw [hkeq]
          apply List.ext_getElem (by simp)
          intro i h1 h2
          rw [List.getElem_set]
          simp only [List.length_append, List.length_singleton, List.getElem_map, List.getElem_range]
          split
          · rename_i e; subst e; rw [if_pos (by omega)]; omega
          · rename_i e
            by_cases h3 : i < s1.out.length
            · rw [if_pos h3, if_pos (by omega)]
            · rw [if_neg h3, if_neg (by omega)]
/-- Shared again it is the same. -/
theorem shr_again {ts : List Nd} (hd : Down ts) {k : Nat} (hk : k < ts.length) : shr (shr ts k) ((shr ts k).length - 1) = shr ts k := by
  obtain ⟨w, t⟩ := vis_inv hd hk (st0_inv ts)
  have h := sim hd w.inv k (st0 ts) hk (st0_inv ts) (Ext.refl _)
  obtain ⟨r1, r2⟩ := shr_root hd hk
  have hz : (st0 ts).out.length = 0 := rfl
  rw [hz, csq_zero, r1] at h
  have e : (((shr ts k).length : Int) - 1).toNat = (shr ts k).length - 1 := by omega
  rw [e] at h
  have h2 := congrArg St.out h
  show (vis (shr ts k) ((shr ts k).length - 1) (st0 (shr ts k))).out = shr ts k
  exact h2.trans (List.take_length)
end Go.Proofs.Ythopdfikikdcbaa
/- A node with all that leads to it, as a tree; the telling of a term's nodes depends on the tree alone. No program in sight. -/
namespace Go.Proofs.Ythopdfikikdcbaa
set_option linter.unusedVariables false
set_option linter.unusedSimpArgs false
inductive Tr where
  | mk (op width flags : Int) (args : List Tr) (imm : Int)
instance : Inhabited Tr := ⟨.mk 0 0 0 [] 0⟩
theorem Tr.ind {p : Tr → Prop} (h : ∀ op w f l i, (∀ t ∈ l, p t) → p (.mk op w f l i)) (t : Tr) : p t :=
  Tr.rec (motive_1 := p) (motive_2 := fun l => ∀ t ∈ l, p t) (fun op w f l i ih => h op w f l i ih) (fun t ht => by cases ht)
    (fun a l ha hl t ht => by rcases List.mem_cons.1 ht with rfl | ht; exact ha; exact hl t ht) t
/-- The tree of the node k. -/
def treeF (ts : List Nd) : Nat → Nat → Tr
  | 0, _ => default
  | f + 1, k => .mk (nd ts k).op (nd ts k).width (nd ts k).flags ((nd ts k).args.map fun a => treeF ts f a.toNat) (nd ts k).imm
def tree (ts : List Nd) (k : Nat) : Tr := treeF ts (k + 1) k
theorem treeF_fuel {ts : List Nd} (hd : Down ts) : ∀ (f k : Nat), k < f → k < ts.length → treeF ts f k = tree ts k
  | 0, k, h, _ => absurd h (by omega)
  | f + 1, k, hf, hk => by
    unfold tree
    unfold treeF
    congr 1
    refine List.map_congr_left fun a ha => ?_
    have h := hd k hk a ha
    rw [treeF_fuel hd f a.toNat (by omega) (by omega), treeF_fuel hd k a.toNat (by omega) (by omega)]
theorem tree_eq {ts : List Nd} (hd : Down ts) {k : Nat} (hk : k < ts.length) :
    tree ts k = .mk (nd ts k).op (nd ts k).width (nd ts k).flags ((nd ts k).args.map fun a => tree ts a.toNat) (nd ts k).imm := by
  conv => lhs; unfold tree; unfold treeF
  congr 1
  refine List.map_congr_left fun a ha => ?_
  have h := hd k hk a ha
  exact treeF_fuel hd k a.toNat (by omega) (by omega)
theorem nd_pre {o l : List Nd} {k : Nat} (h : k < o.length) : nd (o ++ l) k = nd o k := getD_pre h
theorem treeF_pre {o : List Nd} (hd : Down o) (l : List Nd) : ∀ (f k : Nat), k < o.length → treeF (o ++ l) f k = treeF o f k
  | 0, _, _ => rfl
  | f + 1, k, hk => by
    unfold treeF
    rw [nd_pre hk]
    congr 1
    refine List.map_congr_left fun a ha => ?_
    have h := hd k hk a ha
    exact treeF_pre hd l f a.toNat (by omega)
theorem tree_pre {o : List Nd} (hd : Down o) (l : List Nd) {k : Nat} (hk : k < o.length) : tree (o ++ l) k = tree o k := treeF_pre hd l _ k hk
mutual
/-- A tree's nodes put behind o, what is there already not again; the root's number. -/
def insT : Tr → List Nd → List Nd × Nat
  | .mk op w f l i, o => addN (insL l o).1 ⟨op, w, f, (insL l o).2, i⟩
def insL : List Tr → List Nd → List Nd × List Int
  | [], o => (o, [])
  | t :: l, o => ((insL l (insT t o).1).1, ((insT t o).2 : Int) :: (insL l (insT t o).1).2)
end
theorem insT_mk (op w f : Int) (l : List Tr) (i : Int) (o : List Nd) : insT (.mk op w f l i) o = addN (insL l o).1 ⟨op, w, f, (insL l o).2, i⟩ := by rw [insT]
theorem insL_nil (o : List Nd) : insL [] o = (o, []) := by rw [insL]
theorem insL_cons (t : Tr) (l : List Tr) (o : List Nd) : insL (t :: l) o = ((insL l (insT t o).1).1, ((insT t o).2 : Int) :: (insL l (insT t o).1).2) := by rw [insL]
/-- What is told: nodes that go down, no two alike. -/
structure Good (o : List Nd) : Prop where
  nod : o.Nodup
  down : Down o
theorem Good.nil : Good [] := ⟨by simp, fun k h => by simp at h⟩
theorem addN_good {o : List Nd} (h : Good o) {y : Nd} (hy : ∀ a ∈ y.args, 0 ≤ a ∧ a < (o.length : Int)) : Good (addN o y).1 := by
  refine ⟨addN_nodup h.nod, ?_⟩
  unfold addN
  split
  · exact h.down
  · intro k hk a ha
    simp at hk
    by_cases hlt : k < o.length
    · rw [nd_pre hlt] at ha; exact h.down k hlt a ha
    · obtain rfl : k = o.length := by omega
      have e : nd (o ++ [y]) o.length = y := by unfold nd; rw [List.getD_eq_getElem?_getD]; simp
      rw [e] at ha
      exact hy a ha
/-- What the putting of a tree gives. -/
structure Put1 (t : Tr) (o : List Nd) : Prop where
  good : Good (insT t o).1
  ext : ∃ l, (insT t o).1 = o ++ l
  lt : (insT t o).2 < (insT t o).1.length
  tr : tree (insT t o).1 (insT t o).2 = t
structure PutL (l : List Tr) (o : List Nd) : Prop where
  good : Good (insL l o).1
  ext : ∃ m, (insL l o).1 = o ++ m
  len : (insL l o).2.length = l.length
  rng : ∀ a ∈ (insL l o).2, 0 ≤ a ∧ a < ((insL l o).1.length : Int)
  trs : (insL l o).2.map (fun a => tree (insL l o).1 a.toNat) = l
theorem putL_of {l : List Tr} : (∀ t ∈ l, ∀ o, Good o → Put1 t o) → ∀ o, Good o → PutL l o := by
  induction l with
  | nil => intro _ o ho; exact ⟨by rw [insL_nil]; exact ho, ⟨[], by rw [insL_nil]; simp⟩, by rw [insL_nil]; rfl, (by rw [insL_nil]; exact fun a h => by simp at h), by rw [insL_nil]; rfl⟩
  | cons t l ih =>
    intro h o ho
    have h1 := h t (List.mem_cons_self ..) o ho
    have h2 := ih (fun t ht => h t (List.mem_cons_of_mem _ ht)) _ h1.good
    obtain ⟨m1, e1⟩ := h1.ext
    obtain ⟨m2, e2⟩ := h2.ext
    have hl : (insT t o).1.length ≤ (insL l (insT t o).1).1.length := by rw [e2]; simp
    refine ⟨?_, ?_, ?_, ?_, ?_⟩
    · rw [insL_cons]; exact h2.good
    · rw [insL_cons]; exact ⟨m1 ++ m2, by show (insL l (insT t o).1).1 = _; rw [e2, e1, List.append_assoc]⟩
    · rw [insL_cons]; simp [h2.len]
    · rw [insL_cons]
      intro a ha
      have h3 := h1.lt
      rcases List.mem_cons.1 ha with rfl | ha
      · exact ⟨by omega, by show ((insT t o).2 : Int) < ((insL l (insT t o).1).1.length : Int); omega⟩
      · exact h2.rng a ha
    · rw [insL_cons]
      show tree (insL l (insT t o).1).1 (((insT t o).2 : Int)).toNat :: _ = _
      rw [h2.trs, Int.toNat_natCast, e2, tree_pre h1.good.down _ h1.lt, h1.tr]
theorem put1 (t : Tr) : ∀ o, Good o → Put1 t o := by
  induction t using Tr.ind with
  | _ op w f l i ih =>
    intro o ho
    have hl := putL_of ih o ho
    have hg := addN_good hl.good (y := ⟨op, w, f, (insL l o).2, i⟩) hl.rng
    obtain ⟨m, em⟩ := hl.ext
    obtain ⟨m', em'⟩ := @addN_ext (insL l o).1 ⟨op, w, f, (insL l o).2, i⟩
    have hlt := @addN_len (insL l o).1 ⟨op, w, f, (insL l o).2, i⟩
    have hget := @addN_get (insL l o).1 ⟨op, w, f, (insL l o).2, i⟩
    refine ⟨?_, ?_, ?_, ?_⟩
    · rw [insT_mk]; exact hg
    · rw [insT_mk]; exact ⟨m ++ m', by rw [em', em, List.append_assoc]⟩
    · rw [insT_mk]; exact hlt
    · rw [insT_mk, tree_eq hg.down hlt]
      have e : nd (addN (insL l o).1 ⟨op, w, f, (insL l o).2, i⟩).1 (addN (insL l o).1 ⟨op, w, f, (insL l o).2, i⟩).2 = ⟨op, w, f, (insL l o).2, i⟩ := hget
      rw [e]
      simp only
      congr 1
      rw [← hl.trs, hl.trs]
      conv => rhs; rw [← hl.trs]
      refine List.map_congr_left fun a ha => ?_
      have hr := hl.rng a ha
      rw [em']
      exact tree_pre hl.good.down _ (by omega)
theorem putL (l : List Tr) (o : List Nd) (h : Good o) : PutL l o := putL_of (fun t _ => put1 t) o h
/-- What is there already is found again. -/
theorem ins_there {o : List Nd} (h : Good o) : ∀ (k : Nat), k < o.length → insT (tree o k) o = (o, k) := by
  intro k
  induction k using Nat.strongRecOn with
  | _ k ih =>
    intro hk
    rw [tree_eq h.down hk, insT_mk]
    have key : ∀ l : List Int, (∀ a ∈ l, 0 ≤ a ∧ a < (k : Int)) → insL (l.map fun a => tree o a.toNat) o = (o, l) := by
      intro l
      induction l with
      | nil => intro _; rw [List.map_nil, insL_nil]
      | cons a l ih2 =>
        intro hr
        have ha := hr a (List.mem_cons_self ..)
        rw [List.map_cons, insL_cons, ih a.toNat (by omega) (by omega)]
        simp only
        rw [ih2 (fun b hb => hr b (List.mem_cons_of_mem _ hb)), Int.toNat_of_nonneg ha.1]
    rw [key _ (h.down k hk)]
    simp only
    have e : (⟨(nd o k).op, (nd o k).width, (nd o k).flags, (nd o k).args, (nd o k).imm⟩ : Nd) = o[k] := by
      unfold nd; rw [List.getD_eq_getElem?_getD, List.getElem?_eq_getElem hk]; rfl
    rw [e]
    unfold addN
    rw [if_pos (List.getElem_mem hk)]
    congr 1
    exact List.Nodup.idxOf_getElem h.nod k hk
theorem ins_node {o : List Nd} (h : Good o) {t : Tr} {k : Nat} (hk : k < o.length) (ht : tree o k = t) : insT t o = (o, k) := by rw [← ht]; exact ins_there h k hk
theorem addN_grow (o : List Nd) (y : Nd) : (addN o y).1.length ≤ o.length + 1 := by unfold addN; split <;> simp
/-- What has been told of ts stands in what was told, as the same tree. -/
structure InvT (ts : List Nd) (s : St) : Prop where
  good : Good s.out
  len : s.nos.length = ts.length
  rng : ∀ k, s.told k → s.no k < s.out.length
  tr : ∀ k, s.told k → tree s.out (s.no k).toNat = tree ts k
theorem InvT.lt {ts : List Nd} {s : St} (h : InvT ts s) {k : Nat} (hk : s.told k) : k < ts.length := by
  rcases Nat.lt_or_ge k ts.length with h' | h'
  · exact h'
  · exfalso
    unfold St.told St.no at hk
    rw [List.getD_eq_getElem?_getD, List.getElem?_eq_none (by rw [h.len]; exact h')] at hk
    exact absurd hk (by simp)
theorem InvT.ins {ts : List Nd} {s : St} (h : InvT ts s) {k : Nat} (hk : s.told k) : insT (tree ts k) s.out = (s.out, (s.no k).toNat) := by
  have h1 := h.rng k hk
  have h0 : 0 ≤ s.no k := hk
  exact ins_node h.good (by omega) (h.tr k hk)
structure VisT (ts : List Nd) (k : Nat) (s s' : St) : Prop where
  inv : InvT ts s'
  ext : Ext s s'
  told : s'.told k
  ins : insT (tree ts k) s.out = (s'.out, (s'.no k).toNat)
theorem vis_ins {ts : List Nd} (hd : Down ts) : ∀ (k : Nat) (s : St), k < ts.length → InvT ts s → VisT ts k s (vis ts k s) := by
  intro k
  induction k using Nat.strongRecOn with
  | _ k ih =>
    intro s hk hi
    rw [vis_eq hd hk]
    by_cases ht : s.told k
    · rw [if_pos ht]; exact ⟨hi, Ext.refl s, ht, hi.ins ht⟩
    · rw [if_neg ht]
      have key : ∀ (l : List Int) (s : St), (∀ a ∈ l, 0 ≤ a ∧ a < (k : Int)) → InvT ts s → ∃ s', l.foldl (fun s a => vis ts a.toNat s) s = s' ∧ InvT ts s' ∧ Ext s s' ∧ (∀ a ∈ l, s'.told a.toNat) ∧
          insL (l.map fun a => tree ts a.toNat) s.out = (s'.out, l.map fun a => s'.no a.toNat) := by
        intro l
        induction l with
        | nil => intro s _ hi; exact ⟨s, rfl, hi, Ext.refl s, (fun a h => by cases h), by rw [List.map_nil, insL_nil]; rfl⟩
        | cons a l ih2 =>
          intro s hr hi
          have ha := hr a (List.mem_cons_self ..)
          have v := ih a.toNat (by omega) s (by omega) hi
          obtain ⟨s', e1, i1, x1, t1, n1⟩ := ih2 (vis ts a.toNat s) (fun b hb => hr b (List.mem_cons_of_mem _ hb)) v.inv
          refine ⟨s', by rw [List.foldl_cons]; exact e1, i1, v.ext.trans x1, fun b hb => ?_, ?_⟩
          · rcases List.mem_cons.1 hb with rfl | hb
            · exact x1.told v.told
            · exact t1 b hb
          · have h0 : 0 ≤ (vis ts a.toNat s).no a.toNat := v.told
            rw [List.map_cons, insL_cons, v.ins]
            simp only
            rw [n1, Int.toNat_of_nonneg h0, List.map_cons, x1.no _ v.told]
      obtain ⟨s', e1, i1, x1, t1, n1⟩ := key _ s (hd k hk) hi
      rw [e1]
      have hins : insT (tree ts k) s.out = addN s'.out (mapN s' (nd ts k)) := by
        rw [tree_eq hd hk, insT_mk, n1]; rfl
      have hp := put1 (tree ts k) s.out hi.good
      have hG : Good (addN s'.out (mapN s' (nd ts k))).1 := by have := hp.good; rw [hins] at this; exact this
      have hT : tree (addN s'.out (mapN s' (nd ts k))).1 (addN s'.out (mapN s' (nd ts k))).2 = tree ts k := by have := hp.tr; rw [hins] at this; exact this
      have hL : (addN s'.out (mapN s' (nd ts k))).2 < (addN s'.out (mapN s' (nd ts k))).1.length := addN_len
      obtain ⟨m, hm⟩ := @addN_ext s'.out (mapN s' (nd ts k))
      have hkn : k < s'.nos.length := by rw [i1.len]; exact hk
      have e0 : (tell ts k s').no k = (addN s'.out (mapN s' (nd ts k))).2 := no_tell_self hkn
      have eo : (tell ts k s').out = (addN s'.out (mapN s' (nd ts k))).1 := rfl
      refine ⟨⟨hG, ?_, ?_, ?_⟩, ?_, ?_, ?_⟩
      · show (s'.nos.set k _).length = _; rw [List.length_set]; exact i1.len
      · intro j hj
        by_cases hjk : k = j
        · subst hjk; rw [e0, eo]; omega
        · have hj' : s'.told j := by unfold St.told at *; rw [no_tell_ne hjk] at hj; exact hj
          have := i1.rng j hj'
          rw [no_tell_ne hjk, eo, hm]
          simp
          omega
      · intro j hj
        by_cases hjk : k = j
        · subst hjk; rw [e0, eo, Int.toNat_natCast]; exact hT
        · have hj' : s'.told j := by unfold St.told at *; rw [no_tell_ne hjk] at hj; exact hj
          have h1 := i1.rng j hj'
          have h0 : 0 ≤ s'.no j := hj'
          rw [no_tell_ne hjk, eo, hm, tree_pre i1.good.down _ (by omega)]
          exact i1.tr j hj'
      · obtain ⟨l1, hl1⟩ := x1.out
        refine ⟨⟨l1 ++ m, by rw [eo, hm, hl1, List.append_assoc]⟩, fun j hj => ?_⟩
        have hjk : k ≠ j := fun h => ht (h ▸ hj)
        rw [no_tell_ne hjk]
        exact x1.no j hj
      · show 0 ≤ (tell ts k s').no k
        rw [e0]; omega
      · rw [hins, e0, eo, Int.toNat_natCast]
theorem st0_invT (ts : List Nd) : InvT ts (st0 ts) := ⟨Good.nil, by simp [st0], fun k h => absurd h (st0_told ts k), fun k h => absurd h (st0_told ts k)⟩
theorem shr_ins {ts : List Nd} (hd : Down ts) {k : Nat} (hk : k < ts.length) : shr ts k = (insT (tree ts k) []).1 := by
  have h := (vis_ins hd k (st0 ts) hk (st0_invT ts)).ins
  show (vis ts k (st0 ts)).out = _
  rw [show (st0 ts).out = [] from rfl] at h
  rw [h]
/-- Terms of equal trees are told alike. -/
theorem shr_same {ts us : List Nd} (hd : Down ts) (hd' : Down us) {k j : Nat} (hk : k < ts.length) (hj : j < us.length) (h : tree ts k = tree us j) : shr ts k = shr us j := by
  rw [shr_ins hd hk, shr_ins hd' hj, h]
theorem shr_tree {ts : List Nd} (hd : Down ts) {k : Nat} (hk : k < ts.length) : tree (shr ts k) ((shr ts k).length - 1) = tree ts k := by
  have h := vis_ins hd k (st0 ts) hk (st0_invT ts)
  have h1 := (shr_root hd hk).1
  have h2 := h.inv.tr k h.told
  rw [h1] at h2
  rw [← h2]
  congr 1
  omega
end Go.Proofs.Ythopdfikikdcbaa
/- The words of chapter 1 as numbers: what each operation makes, in plain arithmetic; no program in sight. -/
namespace Go.Proofs.Ythopdfikikdcbaa.Wd

/-- 2 to the n. -/
def pw (n : Int) : Int := 2 ^ n.toNat
/-- n is a width. -/
def isW (n : Int) : Bool := decide (1 ≤ n ∧ n ≤ 32)
/-- a is a word of n bits (a is not negative). -/
def fit (n a : Int) : Bool := decide (a < pw n)
def sgn (n a : Int) : Int := if pw (n - 1) ≤ a then a - pw n else a
def wr (n x : Int) : Int := x % pw n

theorem pw_pos (n : Int) : 0 < pw n := by unfold pw; exact Int.pow_pos (by decide)
theorem pw_succ (n : Int) (h : 1 ≤ n) : pw n = 2 * pw (n - 1) := by
  unfold pw
  have : n.toNat = (n - 1).toNat + 1 := by omega
  rw [this, Int.pow_succ]; omega
theorem pw_mono {m n : Int} (h : m ≤ n) : pw m ≤ pw n := by
  unfold pw
  have h2 := Nat.pow_le_pow_right (n := 2) (by decide) (Int.toNat_le_toNat h)
  have := Int.ofNat_le.2 h2
  simpa using this
theorem pw_32 : pw 32 = 4294967296 := by decide
theorem pw_31 : pw 31 = 2147483648 := by decide
theorem pw_le32 {n : Int} (h : n ≤ 32) : pw n ≤ 4294967296 := by rw [← pw_32]; exact pw_mono h
theorem pw_le31 {n : Int} (h : n ≤ 31) : pw n ≤ 2147483648 := by rw [← pw_31]; exact pw_mono h
/-- The word of which each bit is the sign of a word. -/
def signV (n a : Int) : Int := if sgn n a < 0 then pw n - 1 else 0
theorem pw_cast (k : Nat) : pw (k : Int) = 2 ^ k := by simp [pw]
theorem pw_nat (k : Nat) : pw (k : Int) = ((2 ^ k : Nat) : Int) := by unfold pw; simp
theorem wr_lo (n x : Int) : 0 ≤ wr n x := Int.emod_nonneg _ (by have := pw_pos n; omega)
theorem wr_hi (n x : Int) : wr n x < pw n := Int.emod_lt_of_pos _ (pw_pos n)

theorem sgn_hi {n a : Int} (h : pw (n - 1) ≤ a) : sgn n a = a - pw n := if_pos h
theorem sgn_lo {n a : Int} (h : a < pw (n - 1)) : sgn n a = a := if_neg (by omega)

theorem hi_bit (n x : Int) (h1 : 1 ≤ n) (h3 : 0 ≤ x) (h4 : x < pw n) : x / 2 ^ (n.toNat - 1) = if pw (n - 1) ≤ x then 1 else 0 := by
  have e : n.toNat - 1 = (n - 1).toNat := by omega
  rw [e]
  have hp := pw_succ n h1
  have hp0 := pw_pos (n - 1)
  show x / pw (n - 1) = _
  split
  · have : x = (x - pw (n - 1)) + 1 * pw (n - 1) := by omega
    rw [this, Int.add_mul_ediv_right _ _ (by omega), Int.ediv_eq_zero_of_lt (by omega) (by omega)]; rfl
  · exact Int.ediv_eq_zero_of_lt h3 (by omega)
theorem tmod_wr (n x : Int) : wr n x = if x.tmod (pw n) < 0 then x.tmod (pw n) + pw n else x.tmod (pw n) := by
  have hp := pw_pos n
  unfold wr
  rw [Int.tmod_eq_emod]
  have h1 := Int.emod_nonneg x (show pw n ≠ 0 by omega)
  have h2 := Int.emod_lt_of_pos x hp
  split <;> split <;> omega

theorem dn_succ (x : Int) (j : Nat) : x / 2 ^ (j + 1) = x / 2 ^ j / 2 := by
  rw [Int.pow_succ, Int.ediv_ediv_of_nonneg (Int.pow_nonneg (by decide))]
theorem dn_lo (x : Int) (j : Nat) (h : -4294967296 ≤ x) : -4294967296 ≤ x / 2 ^ j := by
  induction j with
  | zero => simpa using h
  | succ j ih => rw [dn_succ]; omega
theorem dn_hi (x : Int) (j : Nat) (h : x ≤ 4294967296) : x / 2 ^ j ≤ 4294967296 := by
  induction j with
  | zero => simpa using h
  | succ j ih => rw [dn_succ]; omega

/-- The lowest j bits of x, as a number. -/
def lo (x j : Nat) : Int := ((x % 2 ^ j : Nat) : Int)
theorem lo_zero (x : Nat) : lo x 0 = 0 := by simp [lo, Nat.mod_one]
theorem lo_nn (x j : Nat) : 0 ≤ lo x j := Int.natCast_nonneg _
theorem lo_lt (x j : Nat) : lo x j < pw j := by
  rw [pw_nat]; exact Int.ofNat_lt.2 (Nat.mod_lt _ (Nat.two_pow_pos j))
theorem lo_1 (x j : Nat) (h : x.testBit j = true) : lo x (j + 1) = lo x j + pw j := by
  rw [pw_nat]; unfold lo
  rw [Nat.mod_pow_succ]
  have : x / 2 ^ j % 2 = 1 := by simpa [Nat.testBit_eq_decide_div_mod_eq] using h
  rw [this]; simp
theorem lo_0 (x j : Nat) (h : x.testBit j = false) : lo x (j + 1) = lo x j := by
  unfold lo
  rw [Nat.mod_pow_succ]
  have : x / 2 ^ j % 2 = 0 := by
    have h2 : ¬ x / 2 ^ j % 2 = 1 := by simpa [Nat.testBit_eq_decide_div_mod_eq] using h
    omega
  rw [this]; simp
theorem lo_all (x j : Nat) (h : (x : Int) < pw j) : lo x j = x := by
  unfold lo
  rw [pw_nat] at h
  rw [Nat.mod_eq_of_lt (Int.ofNat_lt.1 h)]
theorem bit_1 (a : Int) (j : Nat) (h : 0 ≤ a) (e : a.toNat.testBit j = true) : (a / pw j).tmod 2 = 1 := by
  rw [Int.tmod_eq_emod_of_nonneg (Int.ediv_nonneg h (Int.le_of_lt (pw_pos j)))]
  have h2 : a.toNat / 2 ^ j % 2 = 1 := by simpa [Nat.testBit_eq_decide_div_mod_eq] using e
  have h3 : a = (a.toNat : Int) := by omega
  rw [h3, pw_nat, ← Int.natCast_ediv, show (2 : Int) = ((2 : Nat) : Int) from rfl, ← Int.natCast_emod, h2]; rfl
theorem bit_0 (a : Int) (j : Nat) (h : 0 ≤ a) (e : a.toNat.testBit j = false) : (a / pw j).tmod 2 = 0 := by
  rw [Int.tmod_eq_emod_of_nonneg (Int.ediv_nonneg h (Int.le_of_lt (pw_pos j)))]
  have h2 : a.toNat / 2 ^ j % 2 = 0 := by
    have h2 : ¬ a.toNat / 2 ^ j % 2 = 1 := by simpa [Nat.testBit_eq_decide_div_mod_eq] using e
    omega
  have h3 : a = (a.toNat : Int) := by omega
  rw [h3, pw_nat, ← Int.natCast_ediv, show (2 : Int) = ((2 : Nat) : Int) from rfl, ← Int.natCast_emod, h2]; rfl
theorem and_lt (a b n : Int) (_h1 : 0 ≤ a) (h2 : a < pw n) : ((a.toNat &&& b.toNat : Nat) : Int) < pw n := by
  have := @Nat.and_le_left a.toNat b.toNat
  omega
theorem to_lt {a n : Int} (h2 : a < pw n) : a.toNat < 2 ^ n.toNat := by
  have := pw_pos n
  have e : ((2 ^ n.toNat : Nat) : Int) = pw n := by unfold pw; simp
  omega
theorem or_lt (a b n : Int) (h2 : a < pw n) (h4 : b < pw n) : ((a.toNat ||| b.toNat : Nat) : Int) < pw n := by
  have := Nat.or_lt_two_pow (to_lt h2) (to_lt h4)
  have e : ((2 ^ n.toNat : Nat) : Int) = pw n := by unfold pw; simp
  omega
theorem xor_lt (a b n : Int) (h2 : a < pw n) (h4 : b < pw n) : ((a.toNat ^^^ b.toNat : Nat) : Int) < pw n := by
  have := Nat.xor_lt_two_pow (to_lt h2) (to_lt h4)
  have e : ((2 ^ n.toNat : Nat) : Int) = pw n := by unfold pw; simp
  omega

theorem wr_shl (n a : Int) (j : Nat) : wr n (a * pw (j + 1 : Nat)) = 2 * wr n (a * pw j) % pw n := by
  unfold wr
  have : pw (j + 1 : Nat) = 2 * pw j := by rw [pw_nat, pw_nat, Nat.pow_succ]; omega
  rw [this, Int.mul_emod 2 (a * pw j % pw n), Int.emod_emod_of_dvd _ (Int.dvd_refl _), ← Int.mul_emod]
  congr 1
  rw [← Int.mul_assoc, Int.mul_comm a 2, Int.mul_assoc]
theorem wr_small {n a : Int} (h1 : 0 ≤ a) (h2 : a < pw n) : wr n a = a := Int.emod_eq_of_lt h1 h2

theorem sgn_ge {n a : Int} (h1 : 1 ≤ n) (_h2 : n ≤ 32) (h3 : 0 ≤ a) : -pw (n - 1) ≤ sgn n a := by
  have := pw_succ n h1
  have := pw_pos (n - 1)
  unfold sgn; split <;> omega
theorem sgn_le {n a : Int} (h1 : 1 ≤ n) (h4 : a < pw n) : sgn n a < pw (n - 1) := by
  have := pw_succ n h1
  have := pw_pos (n - 1)
  unfold sgn; split <;> omega
theorem sgn_lo32 {n a : Int} (h1 : 1 ≤ n) (h2 : n ≤ 32) (h3 : 0 ≤ a) : -2147483648 ≤ sgn n a := by
  have := sgn_ge h1 h2 h3
  have := @pw_le31 (n - 1) (by omega)
  omega
theorem sgn_hi32 {n a : Int} (h1 : 1 ≤ n) (h2 : n ≤ 32) (h4 : a < pw n) : sgn n a ≤ 2147483647 := by
  have := sgn_le h1 h4
  have := @pw_le31 (n - 1) (by omega)
  omega

/-- What an operation makes of two words; where there is none, what the solver takes. -/
def tot (op n a b : Int) : Int :=
  if op = 1 then wr n (a + b) else
  if op = 2 then wr n (a - b) else
  if op = 3 then wr n (a * b) else
  if op = 4 then (if b = 0 then pw n - 1 else a / b) else
  if op = 5 then (if b = 0 then a else a % b) else
  if op = 6 then (if b = 0 then (if sgn n a < 0 then 1 else pw n - 1) else if sgn n a = -pw (n - 1) ∧ sgn n b = -1 then a else wr n ((sgn n a).tdiv (sgn n b))) else
  if op = 7 then (if b = 0 then a else if sgn n a = -pw (n - 1) ∧ sgn n b = -1 then 0 else wr n ((sgn n a).tmod (sgn n b))) else
  if op = 8 then ((a.toNat &&& b.toNat : Nat) : Int) else
  if op = 9 then ((a.toNat ||| b.toNat : Nat) : Int) else
  if op = 10 then ((a.toNat ^^^ b.toNat : Nat) : Int) else
  if op = 11 then (if n ≤ b then 0 else wr n (a * pw b)) else
  if op = 12 then (if n ≤ b then 0 else a / pw b) else
  (if n ≤ b then (if sgn n a < 0 then pw n - 1 else 0) else wr n (sgn n a / pw b))
/-- Whether there is a word. -/
def has (op n a b : Int) : Bool :=
  if op = 4 ∨ op = 5 then decide (b ≠ 0) else
  if op = 6 ∨ op = 7 then decide (b ≠ 0 ∧ ¬ (sgn n a = -pw (n - 1) ∧ sgn n b = -1)) else
  if op = 11 ∨ op = 12 ∨ op = 13 then decide (b < n) else true
/-- The operation and its words are right. -/
def good (op n a b : Int) : Bool := decide (1 ≤ op ∧ op ≤ 13 ∧ 1 ≤ n ∧ n ≤ 32 ∧ a < pw n ∧ b < pw n)

theorem sgn_wr (n a : Int) : ∃ k, sgn n a = a + k * pw n := by
  unfold sgn
  split
  · exact ⟨-1, by omega⟩
  · exact ⟨0, by omega⟩
theorem wr_mul (n a b : Int) : wr n (sgn n a * sgn n b) = wr n (a * b) := by
  obtain ⟨k, hk⟩ := sgn_wr n a
  obtain ⟨l, hl⟩ := sgn_wr n b
  unfold wr
  rw [hk, hl]
  have : (a + k * pw n) * (b + l * pw n) = a * b + (a * l + k * b + k * l * pw n) * pw n := by
    simp only [Int.add_mul, Int.mul_add, Int.mul_assoc, Int.mul_comm, Int.mul_left_comm]; omega
  rw [this, Int.add_mul_emod_self_right]
theorem mul_bd {x y m : Int} (h1 : -m ≤ x) (h2 : x ≤ m) (h3 : -m ≤ y) (h4 : y ≤ m) : -(m * m) ≤ x * y ∧ x * y ≤ m * m := by
  have hx : x.natAbs ≤ m.natAbs := by omega
  have hy : y.natAbs ≤ m.natAbs := by omega
  have h : (x * y).natAbs ≤ (m * m).natAbs := by
    rw [Int.natAbs_mul, Int.natAbs_mul]; exact Nat.mul_le_mul hx hy
  have hm : 0 ≤ m * m := Int.mul_nonneg (by omega) (by omega)
  omega
theorem mul_lo32 {x y : Int} (h1 : -2147483648 ≤ x) (h2 : x ≤ 2147483647) (h3 : -2147483648 ≤ y) (h4 : y ≤ 2147483647) : -4611686018427387904 ≤ x * y ∧ x * y ≤ 4611686018427387904 := by
  have := mul_bd (m := 2147483648) h1 (by omega) h3 (by omega)
  omega
theorem tdiv_bd {x y : Int} (h1 : -2147483648 ≤ x) (h2 : x ≤ 2147483647) : -2147483648 ≤ x.tdiv y ∧ x.tdiv y ≤ 2147483648 := by
  have h := Int.natAbs_tdiv_le_natAbs x y
  omega
theorem tmod_bd {x y : Int} (h1 : -2147483648 ≤ x) (h2 : x ≤ 2147483647) : -2147483648 ≤ x.tmod y ∧ x.tmod y ≤ 2147483648 := by
  have h : (x.tmod y).natAbs ≤ x.natAbs := by rw [Int.natAbs_tmod]; exact Nat.mod_le _ _
  omega
theorem tmod_q (x y : Int) : x.tdiv y * y = x - x.tmod y := by
  have := Int.tmod_add_mul_tdiv x y
  rw [Int.mul_comm] at this
  omega
theorem sgn_zero {n b : Int} (h1 : 1 ≤ n) (h4 : b < pw n) : sgn n b = 0 ↔ b = 0 := by
  have := pw_succ n h1
  have := pw_pos (n - 1)
  unfold sgn; split <;> omega
theorem good_iff (op n a b : Int) : good op n a b = true ↔ 1 ≤ op ∧ op ≤ 13 ∧ 1 ≤ n ∧ n ≤ 32 ∧ a < pw n ∧ b < pw n := by simp [good]
/-- v is a word of n bits. -/
def Word (n v : Int) : Prop := 0 ≤ v ∧ v < pw n
theorem word_ite {n x y : Int} {c : Prop} [Decidable c] (h1 : c → Word n x) (h2 : ¬c → Word n y) : Word n (if c then x else y) := by
  by_cases h : c
  · rw [if_pos h]; exact h1 h
  · rw [if_neg h]; exact h2 h
theorem word_wr (n x : Int) : Word n (wr n x) := ⟨wr_lo n x, wr_hi n x⟩
theorem tot_word {op n a b : Int} (g : good op n a b = true) (ha : 0 ≤ a) (hb : 0 ≤ b) : Word n (tot op n a b) := by
  obtain ⟨g1, g2, g3, g4, g5, g6⟩ := (good_iff _ _ _ _).1 g
  have hp := pw_pos n
  have hp2 := pw_succ n g3
  have hp3 := pw_pos (n - 1)
  have hd : a / b ≤ a := Int.ediv_le_self b ha
  have hd2 : a / pw b ≤ a := Int.ediv_le_self _ ha
  have hd3 : 0 ≤ a / b := Int.ediv_nonneg ha hb
  have hd4 : 0 ≤ a / pw b := Int.ediv_nonneg ha (Int.le_of_lt (pw_pos _))
  have hm : b ≠ 0 → Word n (a % b) := fun h => ⟨Int.emod_nonneg _ h, by have := Int.emod_lt_of_pos a (show 0 < b by omega); omega⟩
  have wa : Word n (((a.toNat &&& b.toNat : Nat) : Int)) := ⟨Int.natCast_nonneg _, and_lt a b n ha g5⟩
  have wo : Word n (((a.toNat ||| b.toNat : Nat) : Int)) := ⟨Int.natCast_nonneg _, or_lt a b n g5 g6⟩
  have wx : Word n (((a.toNat ^^^ b.toNat : Nat) : Int)) := ⟨Int.natCast_nonneg _, xor_lt a b n g5 g6⟩
  unfold tot
  repeat' (refine word_ite (fun _ => ?_) (fun _ => ?_))
  all_goals first | exact word_wr _ _ | assumption | exact hm ‹_› | exact ⟨by omega, by omega⟩
theorem tot_lo {op n a b : Int} (g : good op n a b = true) (ha : 0 ≤ a) (hb : 0 ≤ b) : 0 ≤ tot op n a b := (tot_word g ha hb).1
theorem tot_hi {op n a b : Int} (g : good op n a b = true) (ha : 0 ≤ a) (hb : 0 ≤ b) : tot op n a b < pw n := (tot_word g ha hb).2
theorem tot_32 {op n a b : Int} (g : good op n a b = true) (ha : 0 ≤ a) (hb : 0 ≤ b) : tot op n a b ≤ 4294967295 := by
  have h1 := tot_hi g ha hb
  have h2 := @pw_le32 n (by have := (good_iff _ _ _ _).1 g; omega)
  omega
theorem pw_dvd {m n : Int} (h : m ≤ n) : pw m ∣ pw n := by
  have e : n.toNat = m.toNat + (n.toNat - m.toNat) := by have := Int.toNat_le_toNat h; omega
  unfold pw
  rw [e, Int.pow_add]
  exact Int.dvd_mul_right _ _
theorem pw_toNat (n : Int) : (pw n - 1).toNat = 2 ^ n.toNat - 1 := by
  have e : ((2 ^ n.toNat : Nat) : Int) = pw n := by unfold pw; simp
  have := Nat.two_pow_pos n.toNat
  omega
theorem mask_fit {n x : Int} (h1 : n ≤ 32) (h3 : 0 ≤ x) (h4 : x ≤ 4294967295) : bits .and .u32 x (pw n - 1) = wr n x := by
  have hp := pw_pos n
  have hp2 := pw_le32 h1
  rw [u32_and x _ h3 (by omega) (by omega) (by omega), pw_toNat, Nat.and_two_pow_sub_one_eq_mod]
  unfold wr
  have e : ((2 ^ n.toNat : Nat) : Int) = pw n := by unfold pw; simp
  rw [Int.natCast_emod, e]
  congr 1
  omega
theorem wr_mod {n : Int} (h1 : n ≤ 32) (x : Int) : wr n (x % 4294967296) = wr n x := by
  unfold wr
  rw [← pw_32]
  exact Int.emod_emod_of_dvd x (pw_dvd h1)
theorem mask_wr {n : Int} (h1 : n ≤ 32) (x : Int) : bits .and .u32 (x % 4294967296) (pw n - 1) = wr n x := by
  rw [mask_fit h1 (by omega) (by omega), wr_mod h1]

/-! ### lanes: digits of the base L -/
/-- The number with the digits d 0 .. d (j - 1). -/
def sumTo (L : Int) (d : Nat → Int) : Nat → Int
  | 0 => 0
  | j + 1 => sumTo L d j + d j * L ^ j
theorem sumTo_bd {L : Int} {d : Nat → Int} (hL : 0 < L) (hd : ∀ i, 0 ≤ d i ∧ d i < L) : ∀ j, 0 ≤ sumTo L d j ∧ sumTo L d j < L ^ j
  | 0 => by simp [sumTo]
  | j + 1 => by
    have ih := sumTo_bd hL hd j
    have hp : 0 < L ^ j := Int.pow_pos hL
    obtain ⟨h1, h2⟩ := hd j
    have h3 : 0 ≤ d j * L ^ j := Int.mul_nonneg h1 (Int.le_of_lt hp)
    have h4 : d j * L ^ j ≤ (L - 1) * L ^ j := Int.mul_le_mul_of_nonneg_right (by omega) (Int.le_of_lt hp)
    have h5 : (L - 1) * L ^ j = L ^ (j + 1) - L ^ j := by rw [Int.sub_mul, Int.pow_succ, Int.mul_comm L, Int.one_mul]
    simp only [sumTo]
    omega
theorem sumTo_digit {L : Int} {d : Nat → Int} (hL : 0 < L) (hd : ∀ i, 0 ≤ d i ∧ d i < L) : ∀ j i, i < j → sumTo L d j / L ^ i % L = d i
  | 0, i, h => absurd h (by omega)
  | j + 1, i, h => by
    have hp : 0 < L ^ i := Int.pow_pos hL
    simp only [sumTo]
    by_cases e : i = j
    · subst e
      have hb := sumTo_bd hL hd i
      rw [Int.add_mul_ediv_right _ _ (by omega), Int.ediv_eq_zero_of_lt hb.1 hb.2, Int.zero_add]
      exact Int.emod_eq_of_lt (hd i).1 (hd i).2
    · have ih := sumTo_digit hL hd j i (by omega)
      have e2 : d j * L ^ j = d j * L ^ (j - i - 1) * L * L ^ i := by
        have : j = (j - i - 1) + 1 + i := by omega
        rw [this, Int.pow_add, Int.pow_succ]
        have e3 : j - i - 1 + 1 + i - i - 1 = j - i - 1 := by omega
        simp only [← this, Int.mul_assoc]
      rw [e2, Int.add_mul_ediv_right _ _ (by omega), Int.add_mul_emod_self_right]
      exact ih
theorem emod_split {a P L : Int} (hP : 0 < P) : a % (P * L) = a % P + a / P % L * P := by
  rw [Int.emod_def a (P * L), Int.emod_def a P, Int.emod_def (a / P) L, Int.ediv_ediv_of_nonneg (Int.le_of_lt hP), Int.sub_mul]
  have e1 : L * (a / (P * L)) * P = P * L * (a / (P * L)) := by rw [Int.mul_comm, ← Int.mul_assoc]
  have e2 : a / P * P = P * (a / P) := Int.mul_comm _ _
  rw [e1, e2]
  omega
theorem sumTo_self {L : Int} (hL : 0 < L) (a : Int) : ∀ j, sumTo L (fun i => a / L ^ i % L) j = a % L ^ j
  | 0 => by simp [sumTo, Int.emod_one]
  | j + 1 => by
    have hp : 0 < L ^ j := Int.pow_pos hL
    simp only [sumTo]
    rw [sumTo_self hL a j, Int.pow_succ, emod_split hp]
theorem sumTo_congr {L : Int} {d e : Nat → Int} : ∀ j, (∀ i, i < j → d i = e i) → sumTo L d j = sumTo L e j
  | 0, _ => rfl
  | j + 1, h => by
    simp only [sumTo]
    rw [sumTo_congr j (fun i hi => h i (by omega)), h j (by omega)]

/-- The lane number j of two words, what the operation makes of it. -/
def lane (op l a b : Int) (j : Nat) : Int := wr l (if op = 20 then wr l (a / pw l ^ j) - wr l (b / pw l ^ j) else wr l (a / pw l ^ j) + wr l (b / pw l ^ j))
/-- What Lanes makes. -/
def lanes (op n l a b : Int) : Int := sumTo (pw l) (lane op l a b) (n / l).toNat
def goodL (op n l a b : Int) : Bool := decide ((op = 19 ∨ op = 20) ∧ 1 ≤ n ∧ n ≤ 32 ∧ a < pw n ∧ b < pw n ∧ 1 ≤ l ∧ l < n ∧ n % l = 0)
theorem goodL_iff (op n l a b : Int) : goodL op n l a b = true ↔ (op = 19 ∨ op = 20) ∧ 1 ≤ n ∧ n ≤ 32 ∧ a < pw n ∧ b < pw n ∧ 1 ≤ l ∧ l < n ∧ n % l = 0 := by simp only [goodL, decide_eq_true_eq]
theorem lane_bd (op l a b : Int) (j : Nat) : 0 ≤ lane op l a b j ∧ lane op l a b j < pw l := ⟨wr_lo _ _, wr_hi _ _⟩
theorem pw_mul (l : Nat) (j : Nat) : pw (l : Int) ^ j = 2 ^ (j * l) := by rw [pw_cast, ← Int.pow_mul, Nat.mul_comm]
theorem lanes_count {n l : Int} (h1 : 1 ≤ l) (h2 : n % l = 0) (h3 : 1 ≤ n) : ((n / l).toNat : Int) * l = n := by
  have h4 : 0 ≤ n / l := Int.ediv_nonneg (by omega) (by omega)
  rw [Int.toNat_of_nonneg h4]
  have := Int.ediv_mul_add_emod n l
  omega
theorem lanes_bd {op n l a b : Int} (h1 : 1 ≤ l) (h2 : n % l = 0) (h3 : 1 ≤ n) : 0 ≤ lanes op n l a b ∧ lanes op n l a b < pw n := by
  have h := sumTo_bd (pw_pos l) (lane_bd op l a b) (n / l).toNat
  have hc := lanes_count h1 h2 h3
  obtain ⟨m, rfl⟩ := Int.eq_ofNat_of_zero_le (show 0 ≤ l by omega)
  obtain ⟨k, rfl⟩ := Int.eq_ofNat_of_zero_le (show 0 ≤ n by omega)
  have e : pw (m : Int) ^ ((k : Int) / (m : Int)).toNat = pw k := by
    rw [pw_mul, pw_cast]
    congr 1
    exact_mod_cast hc
  rw [e] at h
  exact h
/-- A difference takes back a sum, and a sum a difference. -/
theorem lanes_back {op n l a b : Int} (g : goodL op n l a b = true) (ha : 0 ≤ a) : lanes (39 - op) n l (lanes op n l a b) b = a := by
  obtain ⟨g0, g1, g2, g3, g4, g5, g6, g7⟩ := (goodL_iff _ _ _ _ _).1 g
  have hc := lanes_count g5 g7 g1
  have hL := pw_pos l
  have h1 : ∀ i, i < (n / l).toNat → lane (39 - op) l (lanes op n l a b) b i = a / pw l ^ i % pw l := by
    intro i hi
    have hd := sumTo_digit hL (lane_bd op l a b) _ i hi
    have e : wr l (lanes op n l a b / pw l ^ i) = lane op l a b i := hd
    show wr l (if 39 - op = 20 then wr l (lanes op n l a b / pw l ^ i) - wr l (b / pw l ^ i) else wr l (lanes op n l a b / pw l ^ i) + wr l (b / pw l ^ i)) = _
    rw [e]
    unfold lane
    generalize wr l (b / pw l ^ i) = q
    generalize a / pw l ^ i = p
    rcases g0 with rfl | rfl
    · rw [if_pos (by decide), if_neg (by decide)]
      unfold wr
      rw [Int.emod_sub_emod, show p % pw l + q - q = p % pw l by omega, Int.emod_emod_of_dvd _ (Int.dvd_refl _)]
    · rw [if_neg (by decide), if_pos (by decide)]
      unfold wr
      rw [Int.emod_add_emod, show p % pw l - q + q = p % pw l by omega, Int.emod_emod_of_dvd _ (Int.dvd_refl _)]
  show sumTo (pw l) (lane (39 - op) l (lanes op n l a b) b) (n / l).toNat = a
  rw [sumTo_congr _ h1, sumTo_self hL]
  obtain ⟨m, rfl⟩ := Int.eq_ofNat_of_zero_le (show 0 ≤ l by omega)
  obtain ⟨k, rfl⟩ := Int.eq_ofNat_of_zero_le (show 0 ≤ n by omega)
  have e : pw (m : Int) ^ ((k : Int) / (m : Int)).toNat = pw k := by
    rw [pw_mul, pw_cast]
    congr 1
    exact_mod_cast hc
  rw [e]
  exact Int.emod_eq_of_lt ha g3
theorem lane_fit {k t m : Nat} {j : Nat} {out z : Int} (h1 : out < pw k ^ j) (h2 : pw (k : Int) ^ j = 2 ^ t) (h3 : z < pw k) (h4 : t + k ≤ m) : out + z * 2 ^ t < pw m := by
  rw [h2] at h1
  have hp : (0 : Int) < 2 ^ t := Int.pow_pos (by decide)
  have e1 : z * 2 ^ t ≤ (pw k - 1) * 2 ^ t := Int.mul_le_mul_of_nonneg_right (by omega) (Int.le_of_lt hp)
  have e2 : (pw (k : Int) - 1) * 2 ^ t = pw ((t + k : Nat) : Int) - 2 ^ t := by rw [Int.sub_mul, Int.one_mul, pw_cast, pw_cast, Int.pow_add, Int.mul_comm]
  have e3 : pw ((t + k : Nat) : Int) ≤ pw m := pw_mono (by omega)
  omega
theorem or_join {t : Nat} {out z : Int} (h1 : 0 ≤ out) (h2 : out < 2 ^ t) (h3 : 0 ≤ z) (h4 : z * 2 ^ t ≤ 4294967295) (h5 : out ≤ 4294967295) : bits .or .u32 out (z * 2 ^ t) = out + z * 2 ^ t := by
  obtain ⟨o, rfl⟩ := Int.eq_ofNat_of_zero_le h1
  obtain ⟨y, rfl⟩ := Int.eq_ofNat_of_zero_le h3
  have e : (y : Int) * 2 ^ t = ((y * 2 ^ t : Nat) : Int) := by rw [Int.natCast_mul, Int.natCast_pow]; rfl
  have ho : o < 2 ^ t := by
    have e3 : ((2 ^ t : Nat) : Int) = 2 ^ t := by rw [Int.natCast_pow]; rfl
    omega
  rw [e] at h4 ⊢
  have hy : y * 2 ^ t ≤ 4294967295 := Int.ofNat_le.1 h4
  by_cases hy0 : y = 0
  · subst hy0
    rw [u32_or _ _ (by omega) (by omega) (by omega) (by omega)]; simp
  · have : 2 ^ t ≤ y * 2 ^ t := Nat.le_mul_of_pos_left _ (by omega)
    rw [u32_or _ _ (by omega) (by omega) (by omega) (by omega)]
    simp only [Int.toNat_natCast]
    rw [Nat.or_comm, nat_join t _ _ (Nat.mul_mod_left _ _) ho]
    omega
end Go.Proofs.Ythopdfikikdcbaa.Wd
/- Walks of the small functions of packages bits and backstayref01: what each returns, said of numbers. -/
namespace Go.Proofs.Ythopdfikikdcbaa
open Go.RowKit Wd

theorem ret_i {k : IntKind} {a b : Int} (h : a = b) : Ending.returned (.int k a) = .returned (.int k b) := by rw [h]
theorem ret_b {a b : Bool} (h : a = b) : Ending.returned (.bool a) = .returned (.bool b) := by rw [h]

theorem isWidth_any (n : Int) (w : World) : Calls Try.prog 79 #[.int .i64 n] w fun e w' => e = .returned (.bool (isW n)) ∧ w = w' := by
  by_cases h1 : 1 ≤ n <;> by_cases h2 : n ≤ 32
  all_goals
    go_enter Try.func79, Try.ntmps79
    go_wp2
    go_ret
    exact ⟨ret_b (by simp [isW, h1, h2]), rfl⟩

theorem rIsWidth_any (n : Int) (w : World) : Calls Try.prog 107 #[.int .i64 n] w fun e w' => e = .returned (.bool (isW n)) ∧ w = w' := by
  by_cases h1 : 1 ≤ n <;> by_cases h2 : n ≤ 32
  all_goals
    go_enter Try.func107, Try.ntmps107
    go_wp2
    go_ret
    exact ⟨ret_b (by simp [isW, h1, h2]), rfl⟩

theorem mask_any (n : Int) (w : World) (h1 : 1 ≤ n) (h2 : n ≤ 32) : Calls Try.prog 80 #[.int .i64 n] w fun e w' => e = .returned (.int .u32 (pw n - 1)) ∧ w = w' := by
  have hp := pw_le32 h2
  have hp0 := pw_pos n
  have e1 : IntKind.u64.wrap (2 ^ n.toNat) = pw n := by
    show IntKind.u64.wrap (pw n) = pw n
    exact IntWalk.u64_in _ (by omega)
  go_enter Try.func80, Try.ntmps80
  go_wp2
  go_ret
  exact ⟨rfl, rfl⟩
theorem size_any (n : Int) (w : World) (h1 : 0 ≤ n) (h2 : n ≤ 32) : Calls Try.prog 108 #[.int .i64 n] w fun e w' => e = .returned (.int .i64 (pw n)) ∧ w = w' := by
  have hp := pw_le32 h2
  have hp0 := pw_pos n
  go_enter Try.func108, Try.ntmps108
  go_wp2
  go_ret
  exact ⟨ret_i (IntWalk.wrap64_in (pw n) (by omega)), rfl⟩

theorem signed_any (n x : Int) (w : World) (h1 : 1 ≤ n) (h2 : n ≤ 32) (h3 : 0 ≤ x) (h4 : x < pw n) : Calls Try.prog 105 #[.int .i64 n, .int .u32 x] w fun e w' => e = .returned (.int .i64 (sgn n x)) ∧ w = w' := by
  have hp := pw_le32 h2
  have hp0 := pw_pos n
  have e1 : wrap64 (2 ^ n.toNat) = pw n := by
    show wrap64 (pw n) = pw n
    exact IntWalk.wrap64_in _ (by omega)
  have e2 := hi_bit n x h1 h3 h4
  by_cases hc : pw (n - 1) ≤ x
  · rw [if_pos hc] at e2
    go_enter Try.func105, Try.ntmps105
    go_wp2
    go_ret
    exact ⟨ret_i (sgn_hi hc).symm, rfl⟩
  · rw [if_neg hc] at e2
    go_enter Try.func105, Try.ntmps105
    go_wp2
    go_ret
    exact ⟨ret_i (sgn_lo (by omega)).symm, rfl⟩
theorem rSign_any (n x : Int) (w : World) (h1 : 1 ≤ n) (h2 : n ≤ 32) (h3 : 0 ≤ x) (h4 : x ≤ 4294967295) : Calls Try.prog 111 #[.int .i64 n, .int .u32 x] w fun e w' => e = .returned (.int .i64 (sgn n x)) ∧ w = w' := by
  have hp := pw_le32 h2
  have hp0 := pw_pos n
  by_cases hc : pw (n - 1) ≤ x
  · go_enter Try.func111, Try.ntmps111
    go_wp2_with (first | (go_at_call 108; refine (size_any _ _ (by omega) (by omega)).mono ?_; rintro e w' ⟨rfl, rfl⟩))
    go_ret
    exact ⟨ret_i (sgn_hi hc).symm, rfl⟩
  · go_enter Try.func111, Try.ntmps111
    go_wp2_with (first | (go_at_call 108; refine (size_any _ _ (by omega) (by omega)).mono ?_; rintro e w' ⟨rfl, rfl⟩))
    go_ret
    exact ⟨ret_i (sgn_lo (by omega)).symm, rfl⟩
theorem rWrap_any (n x : Int) (w : World) (h1 : 1 ≤ n) (h2 : n ≤ 32) (_h3 : -9223372036854775808 ≤ x) (_h4 : x ≤ 9223372036854775807) : Calls Try.prog 112 #[.int .i64 n, .int .i64 x] w fun e w' => e = .returned (.int .u32 (wr n x)) ∧ w = w' := by
  have hp := pw_le32 h2
  have hp0 := pw_pos n
  have t1 := tmod_wr n x
  have t2 := wr_lo n x
  have t3 := wr_hi n x
  by_cases hc : x.tmod (pw n) < 0
  · rw [if_pos hc] at t1
    go_enter Try.func112, Try.ntmps112
    go_wp2_with (first | (go_at_call 108; refine (size_any _ _ (by omega) (by omega)).mono ?_; rintro e w' ⟨rfl, rfl⟩))
    go_ret
    exact ⟨ret_i t1.symm, rfl⟩
  · rw [if_neg hc] at t1
    go_enter Try.func112, Try.ntmps112
    go_wp2_with (first | (go_at_call 108; refine (size_any _ _ (by omega) (by omega)).mono ?_; rintro e w' ⟨rfl, rfl⟩))
    go_ret
    exact ⟨ret_i t1.symm, rfl⟩
theorem rIsWord_any (n x : Int) (w : World) (h3 : 0 ≤ x) (h4 : x ≤ 4294967295) : Calls Try.prog 85 #[.int .i64 n, .int .u32 x] w fun e w' => e = .returned (.bool (isW n && fit n x)) ∧ w = w' := by
  by_cases hw : isW n = true
  · have h12 : 1 ≤ n ∧ n ≤ 32 := by simpa [isW] using hw
    obtain ⟨h1, h2⟩ := h12
    have hp := pw_le32 h2
    go_enter Try.func85, Try.ntmps85
    go_wp2_with (first | (go_at_call 108; refine (size_any _ _ (by omega) (by omega)).mono ?_; rintro e w' ⟨rfl, rfl⟩) | (go_at_call 107; refine (rIsWidth_any _ _).mono ?_; rintro e w' ⟨rfl, rfl⟩))
    go_ret
    exact ⟨ret_b (by simp [hw, fit]), rfl⟩
  · have hw : isW n = false := by simpa using hw
    go_enter Try.func85, Try.ntmps85
    go_wp2_with (first | (go_at_call 108; refine (size_any _ _ (by omega) (by omega)).mono ?_; rintro e w' ⟨rfl, rfl⟩) | (go_at_call 107; refine (rIsWidth_any _ _).mono ?_; rintro e w' ⟨rfl, rfl⟩))
    go_ret
    exact ⟨ret_b (by simp [hw]), rfl⟩

theorem fits1 (n a : Int) (b : Nat) (w : World) (g0 : w.cell? ⟨b, 0, none⟩ = some (.int .u32 a))  : Calls Try.prog 104 #[.int .i64 n, .slice (some ⟨b, 0, none⟩) 1 1] w fun e w' => e = .returned (.bool (isW n && fit n a)) ∧ w = w' := by
  by_cases hw : isW n = true
  · have h12 : 1 ≤ n ∧ n ≤ 32 := by simpa [isW] using hw
    obtain ⟨h1, h2⟩ := h12
    rcases Int.lt_or_le a (pw n) with f0 | f0
    · go_enter Try.func104, Try.ntmps104
      go_wp2_with (first | (rw [rounds_succ]) | (go_at_call 79; refine (isWidth_any _ _).mono ?_; rintro e w' ⟨rfl, rfl⟩) | (go_at_call 80; refine (mask_any _ _ (by assumption) (by assumption)).mono ?_; rintro e w' ⟨rfl, rfl⟩))
      refine wp_loop_rounds 2 ?_
      go_wp2_with (first | (rw [rounds_succ]) | (go_at_call 79; refine (isWidth_any _ _).mono ?_; rintro e w' ⟨rfl, rfl⟩) | (go_at_call 80; refine (mask_any _ _ (by assumption) (by assumption)).mono ?_; rintro e w' ⟨rfl, rfl⟩))
      go_ret
      exact ⟨ret_b (by simp [hw, fit, f0]), rfl⟩
    · go_enter Try.func104, Try.ntmps104
      go_wp2_with (first | (rw [rounds_succ]) | (go_at_call 79; refine (isWidth_any _ _).mono ?_; rintro e w' ⟨rfl, rfl⟩) | (go_at_call 80; refine (mask_any _ _ (by assumption) (by assumption)).mono ?_; rintro e w' ⟨rfl, rfl⟩))
      refine wp_loop_rounds 1 ?_
      go_wp2_with (first | (rw [rounds_succ]) | (go_at_call 79; refine (isWidth_any _ _).mono ?_; rintro e w' ⟨rfl, rfl⟩) | (go_at_call 80; refine (mask_any _ _ (by assumption) (by assumption)).mono ?_; rintro e w' ⟨rfl, rfl⟩))
      go_ret
      exact ⟨ret_b (by simp [hw, fit, Int.not_lt.2 f0]), rfl⟩
  · have hw : isW n = false := by simpa using hw
    go_enter Try.func104, Try.ntmps104
    go_wp2_with (first | (rw [rounds_succ]) | (go_at_call 79; refine (isWidth_any _ _).mono ?_; rintro e w' ⟨rfl, rfl⟩) | (go_at_call 80; refine (mask_any _ _ (by assumption) (by assumption)).mono ?_; rintro e w' ⟨rfl, rfl⟩))
    go_ret
    exact ⟨ret_b (by simp [hw]), rfl⟩

theorem fits2 (n a c : Int) (b : Nat) (w : World) (g0 : w.cell? ⟨b, 0, none⟩ = some (.int .u32 a)) (g1 : w.cell? ⟨b, 1, none⟩ = some (.int .u32 c))  : Calls Try.prog 104 #[.int .i64 n, .slice (some ⟨b, 0, none⟩) 2 2] w fun e w' => e = .returned (.bool (isW n && fit n a && fit n c)) ∧ w = w' := by
  by_cases hw : isW n = true
  · have h12 : 1 ≤ n ∧ n ≤ 32 := by simpa [isW] using hw
    obtain ⟨h1, h2⟩ := h12
    rcases Int.lt_or_le a (pw n) with f0 | f0
    · rcases Int.lt_or_le c (pw n) with f1 | f1
      · go_enter Try.func104, Try.ntmps104
        go_wp2_with (first | (rw [rounds_succ]) | (go_at_call 79; refine (isWidth_any _ _).mono ?_; rintro e w' ⟨rfl, rfl⟩) | (go_at_call 80; refine (mask_any _ _ (by assumption) (by assumption)).mono ?_; rintro e w' ⟨rfl, rfl⟩))
        refine wp_loop_rounds 3 ?_
        go_wp2_with (first | (rw [rounds_succ]) | (go_at_call 79; refine (isWidth_any _ _).mono ?_; rintro e w' ⟨rfl, rfl⟩) | (go_at_call 80; refine (mask_any _ _ (by assumption) (by assumption)).mono ?_; rintro e w' ⟨rfl, rfl⟩))
        go_ret
        exact ⟨ret_b (by simp [hw, fit, f0, f1]), rfl⟩
      · go_enter Try.func104, Try.ntmps104
        go_wp2_with (first | (rw [rounds_succ]) | (go_at_call 79; refine (isWidth_any _ _).mono ?_; rintro e w' ⟨rfl, rfl⟩) | (go_at_call 80; refine (mask_any _ _ (by assumption) (by assumption)).mono ?_; rintro e w' ⟨rfl, rfl⟩))
        refine wp_loop_rounds 2 ?_
        go_wp2_with (first | (rw [rounds_succ]) | (go_at_call 79; refine (isWidth_any _ _).mono ?_; rintro e w' ⟨rfl, rfl⟩) | (go_at_call 80; refine (mask_any _ _ (by assumption) (by assumption)).mono ?_; rintro e w' ⟨rfl, rfl⟩))
        go_ret
        exact ⟨ret_b (by simp [hw, fit, f0, Int.not_lt.2 f1]), rfl⟩
    · go_enter Try.func104, Try.ntmps104
      go_wp2_with (first | (rw [rounds_succ]) | (go_at_call 79; refine (isWidth_any _ _).mono ?_; rintro e w' ⟨rfl, rfl⟩) | (go_at_call 80; refine (mask_any _ _ (by assumption) (by assumption)).mono ?_; rintro e w' ⟨rfl, rfl⟩))
      refine wp_loop_rounds 1 ?_
      go_wp2_with (first | (rw [rounds_succ]) | (go_at_call 79; refine (isWidth_any _ _).mono ?_; rintro e w' ⟨rfl, rfl⟩) | (go_at_call 80; refine (mask_any _ _ (by assumption) (by assumption)).mono ?_; rintro e w' ⟨rfl, rfl⟩))
      go_ret
      exact ⟨ret_b (by simp [hw, fit, Int.not_lt.2 f0]), rfl⟩
  · have hw : isW n = false := by simpa using hw
    go_enter Try.func104, Try.ntmps104
    go_wp2_with (first | (rw [rounds_succ]) | (go_at_call 79; refine (isWidth_any _ _).mono ?_; rintro e w' ⟨rfl, rfl⟩) | (go_at_call 80; refine (mask_any _ _ (by assumption) (by assumption)).mono ?_; rintro e w' ⟨rfl, rfl⟩))
    go_ret
    exact ⟨ret_b (by simp [hw]), rfl⟩

end Go.Proofs.Ythopdfikikdcbaa
/- Walks of backstayref01.down, bitwise, two, do, Do, Total: what each returns, said of numbers. -/
namespace Go.Proofs.Ythopdfikikdcbaa
open Go.RowKit Wd

set_option maxHeartbeats 400000 in
theorem down_any (x : Int) (k : Nat) (w : World) (h1 : -4294967296 ≤ x) (h2 : x ≤ 4294967296) (hk : k ≤ 32) : Calls Try.prog 160 #[.int .i64 x, .int .i64 k] w fun e w' => e = .returned (.int .i64 (x / 2 ^ k)) ∧ w = w' := by
  go_enter Try.func160, Try.ntmps160
  go_wp2
  go_loop [0, 5] (fun v i => ∃ j : Nat, j ≤ k ∧ i = .int .i64 j ∧ v = .int .i64 (x / 2 ^ j)) (fun _ i => k - (intOf i).toNat)
  case atStart => exact ⟨0, Nat.zero_le _, rfl, by simp⟩
  case round =>
    obtain ⟨j, hj, rfl, rfl⟩ := hrel
    have b1 := dn_lo x j h1
    have b2 := dn_hi x j h2
    have hs := dn_succ x j
    generalize hy : x / 2 ^ j = y at *
    have HY := Lib.hid hy
    clear hy
    by_cases hlt : j < k
    · have HS : Hid (x / 2 ^ (j + 1) = y / 2) := hs
      clear hs
      rcases Int.lt_or_le y 0 with hn | hn
      · go_wp2
        go_round
        case rel => exact ⟨j + 1, by omega, by go_num, by rw [HS.out]; exact congrArg (Value.int _) (by omega)⟩
        case measure => simp [intOf]; omega
      · go_wp2
        go_round
        case rel => exact ⟨j + 1, by omega, by go_num, by rw [HS.out]⟩
        case measure => simp [intOf]; omega
    · obtain rfl : j = k := by omega
      clear hs
      go_wp2
      go_ret
      exact ⟨ret_i HY.out.symm, rfl⟩

/-- Nothing but the count of draws has moved. -/
def Dr (w w' : World) : Prop := ∃ n, w' = w.drewN n
theorem Dr.refl (w : World) : Dr w w := ⟨0, rfl⟩
theorem Dr.drew {w w' : World} (h : Dr w w') (n : Nat) : Dr w (w'.drewN n) := by
  obtain ⟨m, rfl⟩ := h
  exact ⟨m + n, World.drewN_drewN _ _ _⟩
theorem Dr.below {w w' : World} (h : Dr w w') (B : Nat) : Below B w w' := by
  obtain ⟨n, rfl⟩ := h
  exact ⟨rfl, rfl, rfl, Nat.le_refl _, fun _ _ => rfl⟩
theorem Dr.trans {w w' w'' : World} (h : Dr w w') (h' : Dr w' w'') : Dr w w'' := by
  obtain ⟨m, rfl⟩ := h'
  exact h.drew m
theorem quiet_same {P : Program} {f : FuncId} {args : Array Value} {w : World} {n : Nat} {v : Value} (h : Calls P f args (w.drewN n) fun e w' => e = .returned v ∧ w.drewN n = w') :
    Calls P f args (w.drewN n) fun e w'' => e = .returned v ∧ ∃ m, w'' = w.drewN m := h.mono fun _ _ ⟨he, hm⟩ => ⟨he, n, hm.symm⟩

set_option maxHeartbeats 1000000 in
theorem bitwise_and (n : Nat) (a b : Int) (w : World) (h1 : 1 ≤ n) (h2 : n ≤ 32) (h3 : 0 ≤ a) (h4 : a < pw n) (h5 : 0 ≤ b) (h6 : b < pw n) : Calls Try.prog 128 #[.int .i64 8, .int .i64 n, .int .u32 a, .int .u32 b] w fun e w' => e = .returned (.tuple #[.int .u32 ((a.toNat &&& b.toNat : Nat) : Int), .bool true]) ∧ Dr w w' := by
  have hp := @pw_le32 (n : Int) (by omega)
  have hfin := and_lt a b n h3 h4
  go_enter Try.func128, Try.ntmps128
  go_wp2
  go_loopw [10, 11] (fun v i wr => ∃ j : Nat, j ≤ n ∧ i = .int .i64 j ∧ v = .int .i64 (lo (a.toNat &&& b.toNat) j) ∧ Dr w wr) (fun _ i _ => n - (intOf i).toNat)
  case atStart => exact ⟨0, Nat.zero_le _, rfl, congrArg (Value.int _) (lo_zero _).symm, Dr.refl w⟩
  case round =>
    obtain ⟨j, hj, rfl, rfl, hd⟩ := hrel
    by_cases hlt : j < n
    · have hq0 := pw_pos (j : Int)
      have hq1 := @pw_le32 (j : Int) (by omega)
      have hl0 := lo_nn (a.toNat &&& b.toNat) j
      have hl1 := lo_lt (a.toNat &&& b.toNat) j
      cases ea : a.toNat.testBit j <;> cases eb : b.toNat.testBit j
      all_goals
        have e3 := Nat.testBit_and a.toNat b.toNat j
        rw [ea, eb] at e3
        first | have e1 := bit_1 a j h3 ea | have e1 := bit_0 a j h3 ea
        first | have e2 := bit_1 b j h5 eb | have e2 := bit_0 b j h5 eb
        first | have e4 := lo_1 _ j e3 | have e4 := lo_0 _ j e3
        have E4 := Lib.hid e4
        clear ea eb e3 e4
        generalize lo (a.toNat &&& b.toNat) j = l at *
        go_wp2_with fail
        go_quiet ((go_at_call 108; exact quiet_same (size_any _ _ (by omega) (by omega))))
        go_wp2_with (first | (go_at_call 108; refine (size_any _ _ (by omega) (by omega)).mono ?_; rintro e w' ⟨rfl, rfl⟩))
        go_roundw
        case rel => exact ⟨j + 1, by omega, by go_num, by rw [E4.out], hd.drew _⟩
        case measure => simp [intOf]; omega
    · obtain rfl : j = n := by omega
      have e5 := lo_all (a.toNat &&& b.toNat) j hfin
      generalize lo (a.toNat &&& b.toNat) j = l at *
      have e6 : 0 ≤ l := by rw [e5]; exact Int.natCast_nonneg _
      have E5 := Lib.hid e5
      rw [← e5] at hfin
      clear e5
      go_wp2
      go_ret2
      exact ⟨by rw [← E5.out]; rfl, hd⟩

set_option maxHeartbeats 1000000 in
theorem bitwise_or (n : Nat) (a b : Int) (w : World) (h1 : 1 ≤ n) (h2 : n ≤ 32) (h3 : 0 ≤ a) (h4 : a < pw n) (h5 : 0 ≤ b) (h6 : b < pw n) : Calls Try.prog 128 #[.int .i64 9, .int .i64 n, .int .u32 a, .int .u32 b] w fun e w' => e = .returned (.tuple #[.int .u32 ((a.toNat ||| b.toNat : Nat) : Int), .bool true]) ∧ Dr w w' := by
  have hp := @pw_le32 (n : Int) (by omega)
  have hfin := or_lt a b n h4 h6
  go_enter Try.func128, Try.ntmps128
  go_wp2
  go_loopw [10, 11] (fun v i wr => ∃ j : Nat, j ≤ n ∧ i = .int .i64 j ∧ v = .int .i64 (lo (a.toNat ||| b.toNat) j) ∧ Dr w wr) (fun _ i _ => n - (intOf i).toNat)
  case atStart => exact ⟨0, Nat.zero_le _, rfl, congrArg (Value.int _) (lo_zero _).symm, Dr.refl w⟩
  case round =>
    obtain ⟨j, hj, rfl, rfl, hd⟩ := hrel
    by_cases hlt : j < n
    · have hq0 := pw_pos (j : Int)
      have hq1 := @pw_le32 (j : Int) (by omega)
      have hl0 := lo_nn (a.toNat ||| b.toNat) j
      have hl1 := lo_lt (a.toNat ||| b.toNat) j
      cases ea : a.toNat.testBit j <;> cases eb : b.toNat.testBit j
      all_goals
        have e3 := Nat.testBit_or a.toNat b.toNat j
        rw [ea, eb] at e3
        first | have e1 := bit_1 a j h3 ea | have e1 := bit_0 a j h3 ea
        first | have e2 := bit_1 b j h5 eb | have e2 := bit_0 b j h5 eb
        first | have e4 := lo_1 _ j e3 | have e4 := lo_0 _ j e3
        have E4 := Lib.hid e4
        clear ea eb e3 e4
        generalize lo (a.toNat ||| b.toNat) j = l at *
        go_wp2_with fail
        go_quiet ((go_at_call 108; exact quiet_same (size_any _ _ (by omega) (by omega))))
        go_wp2_with (first | (go_at_call 108; refine (size_any _ _ (by omega) (by omega)).mono ?_; rintro e w' ⟨rfl, rfl⟩))
        go_roundw
        case rel => exact ⟨j + 1, by omega, by go_num, by rw [E4.out], hd.drew _⟩
        case measure => simp [intOf]; omega
    · obtain rfl : j = n := by omega
      have e5 := lo_all (a.toNat ||| b.toNat) j hfin
      generalize lo (a.toNat ||| b.toNat) j = l at *
      have e6 : 0 ≤ l := by rw [e5]; exact Int.natCast_nonneg _
      have E5 := Lib.hid e5
      rw [← e5] at hfin
      clear e5
      go_wp2
      go_ret2
      exact ⟨by rw [← E5.out]; rfl, hd⟩

set_option maxHeartbeats 1000000 in
theorem bitwise_xor (n : Nat) (a b : Int) (w : World) (h1 : 1 ≤ n) (h2 : n ≤ 32) (h3 : 0 ≤ a) (h4 : a < pw n) (h5 : 0 ≤ b) (h6 : b < pw n) : Calls Try.prog 128 #[.int .i64 10, .int .i64 n, .int .u32 a, .int .u32 b] w fun e w' => e = .returned (.tuple #[.int .u32 ((a.toNat ^^^ b.toNat : Nat) : Int), .bool true]) ∧ Dr w w' := by
  have hp := @pw_le32 (n : Int) (by omega)
  have hfin := xor_lt a b n h4 h6
  go_enter Try.func128, Try.ntmps128
  go_wp2
  go_loopw [10, 11] (fun v i wr => ∃ j : Nat, j ≤ n ∧ i = .int .i64 j ∧ v = .int .i64 (lo (a.toNat ^^^ b.toNat) j) ∧ Dr w wr) (fun _ i _ => n - (intOf i).toNat)
  case atStart => exact ⟨0, Nat.zero_le _, rfl, congrArg (Value.int _) (lo_zero _).symm, Dr.refl w⟩
  case round =>
    obtain ⟨j, hj, rfl, rfl, hd⟩ := hrel
    by_cases hlt : j < n
    · have hq0 := pw_pos (j : Int)
      have hq1 := @pw_le32 (j : Int) (by omega)
      have hl0 := lo_nn (a.toNat ^^^ b.toNat) j
      have hl1 := lo_lt (a.toNat ^^^ b.toNat) j
      cases ea : a.toNat.testBit j <;> cases eb : b.toNat.testBit j
      all_goals
        have e3 := Nat.testBit_xor a.toNat b.toNat j
        rw [ea, eb] at e3
        first | have e1 := bit_1 a j h3 ea | have e1 := bit_0 a j h3 ea
        first | have e2 := bit_1 b j h5 eb | have e2 := bit_0 b j h5 eb
        first | have e4 := lo_1 _ j e3 | have e4 := lo_0 _ j e3
        have E4 := Lib.hid e4
        clear ea eb e3 e4
        generalize lo (a.toNat ^^^ b.toNat) j = l at *
        go_wp2_with fail
        go_quiet ((go_at_call 108; exact quiet_same (size_any _ _ (by omega) (by omega))))
        go_wp2_with (first | (go_at_call 108; refine (size_any _ _ (by omega) (by omega)).mono ?_; rintro e w' ⟨rfl, rfl⟩))
        go_roundw
        case rel => exact ⟨j + 1, by omega, by go_num, by rw [E4.out], hd.drew _⟩
        case measure => simp [intOf]; omega
    · obtain rfl : j = n := by omega
      have e5 := lo_all (a.toNat ^^^ b.toNat) j hfin
      generalize lo (a.toNat ^^^ b.toNat) j = l at *
      have e6 : 0 ≤ l := by rw [e5]; exact Int.natCast_nonneg _
      have E5 := Lib.hid e5
      rw [← e5] at hfin
      clear e5
      go_wp2
      go_ret2
      exact ⟨by rw [← E5.out]; rfl, hd⟩

set_option maxHeartbeats 1000000 in
theorem bitwise_shl (n k : Nat) (a : Int) (w : World) (h1 : 1 ≤ n) (h2 : n ≤ 32) (h3 : 0 ≤ a) (h4 : a < pw n) (hk : k < n) : Calls Try.prog 128 #[.int .i64 11, .int .i64 n, .int .u32 a, .int .u32 k] w fun e w' => e = .returned (.tuple #[.int .u32 (wr n (a * pw k)), .bool true]) ∧ Dr w w' := by
  have hp := @pw_le32 (n : Int) (by omega)
  have hp0 := pw_pos (n : Int)
  have t0 : wr n (a * pw ((0 : Nat) : Int)) = a := by rw [pw_nat]; simpa using wr_small h3 h4
  have t1 := wr_lo n (a * pw k)
  have t2 := wr_hi n (a * pw k)
  have T0 := Lib.hid t0
  clear t0
  have hd : decide (n ≤ k) = false := by simpa using hk
  go_enter Try.func128, Try.ntmps128
  go_wp2
  go_loop [16, 17] (fun v i => ∃ j : Nat, j ≤ k ∧ i = .int .i64 j ∧ v = .int .i64 (wr n (a * pw j))) (fun _ i => k - (intOf i).toNat)
  case atStart => exact ⟨0, Nat.zero_le _, rfl, by rw [T0.out]⟩
  case round =>
    obtain ⟨j, hj, rfl, rfl⟩ := hrel
    by_cases hlt : j < k
    · have s1 := wr_lo n (a * pw j)
      have s2 := wr_hi n (a * pw j)
      have s3 := Lib.hid (wr_shl n a j)
      go_wp2_with (first | (go_at_call 108; refine (size_any _ _ (by omega) (by omega)).mono ?_; rintro e w' ⟨rfl, rfl⟩))
      go_round
      case rel => exact ⟨j + 1, by omega, by go_num, by rw [s3.out]⟩
      case measure => simp [intOf]; omega
    · obtain rfl : j = k := by omega
      generalize hl : wr n (a * pw j) = l at *
      have HL := Lib.hid hl
      clear hl
      go_wp2
      go_ret2
      exact ⟨by rw [HL.out]; rfl, Dr.refl _⟩
set_option maxHeartbeats 1000000 in
theorem bitwise_lshr (n k : Nat) (a : Int) (w : World) (h1 : 1 ≤ n) (h2 : n ≤ 32) (h3 : 0 ≤ a) (h4 : a < pw n) (hk : k < n) : Calls Try.prog 128 #[.int .i64 12, .int .i64 n, .int .u32 a, .int .u32 k] w fun e w' => e = .returned (.tuple #[.int .u32 (a / 2 ^ k), .bool true]) ∧ Dr w w' := by
  have hp := @pw_le32 (n : Int) (by omega)
  have t1 := dn_lo a k (by omega)
  have t2 := dn_hi a k (by omega)
  have t3 : 0 ≤ a / 2 ^ k := Int.ediv_nonneg h3 (Int.pow_nonneg (by decide))
  have t4 : a / 2 ^ k ≤ a := Int.ediv_le_self _ h3
  go_enter Try.func128, Try.ntmps128
  go_wp2_with (first | (go_at_call 160; refine (down_any _ _ _ (by omega) (by omega) (by omega)).mono ?_; rintro e w' ⟨rfl, rfl⟩))
  go_ret2
  exact ⟨rfl, Dr.refl _⟩
set_option maxHeartbeats 1000000 in
theorem bitwise_ashr (n k : Nat) (a : Int) (w : World) (h1 : 1 ≤ n) (h2 : n ≤ 32) (h3 : 0 ≤ a) (h4 : a < pw n) (hk : k < n) : Calls Try.prog 128 #[.int .i64 13, .int .i64 n, .int .u32 a, .int .u32 k] w fun e w' => e = .returned (.tuple #[.int .u32 (wr n (sgn n a / 2 ^ k)), .bool true]) ∧ Dr w w' := by
  have hp := @pw_le32 (n : Int) (by omega)
  have s1 := sgn_lo32 (n := n) (a := a) (by omega) (by omega) h3
  have s2 := sgn_hi32 (n := n) (a := a) (by omega) (by omega) h4
  have t1 := dn_lo (sgn n a) k (by omega)
  have t2 := dn_hi (sgn n a) k (by omega)
  go_enter Try.func128, Try.ntmps128
  go_wp2_with (first | (go_at_call 160; refine (down_any _ _ _ (by omega) (by omega) (by omega)).mono ?_; rintro e w' ⟨rfl, rfl⟩) | (go_at_call 111; refine (rSign_any _ _ _ (by omega) (by omega) (by omega) (by omega)).mono ?_; rintro e w' ⟨rfl, rfl⟩) | (go_at_call 112; refine (rWrap_any _ _ _ (by omega) (by omega) (by omega) (by omega)).mono ?_; rintro e w' ⟨rfl, rfl⟩))
  go_ret2
  exact ⟨rfl, Dr.refl _⟩
theorem bitwise_none (op n a b : Int) (w : World) (h0 : 11 ≤ op) (h1 : 1 ≤ n) (h2 : n ≤ 32) (h5 : b ≤ 4294967295) (hb : n ≤ b) : Calls Try.prog 128 #[.int .i64 op, .int .i64 n, .int .u32 a, .int .u32 b] w fun e w' => e = .returned (.tuple #[.int .u32 0, .bool false]) ∧ Dr w w' := by
  go_enter Try.func128, Try.ntmps128
  go_wp2
  go_ret2
  exact ⟨rfl, Dr.refl _⟩

end Go.Proofs.Ythopdfikikdcbaa
