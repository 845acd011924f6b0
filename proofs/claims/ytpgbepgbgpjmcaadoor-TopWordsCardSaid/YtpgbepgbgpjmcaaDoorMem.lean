/- Memory that holds maps: a map's block as the walk's rules see it; a store and a look-up whose key is decided. -/
import Derived.Test.YtpgbepgbgpjmcaaDoorRows
import Derived.WalkKit
import Derived.WalkSpells
import Derived.WalkLawsBesides
import Derived.Laws.EntriesVeiled
namespace Go.Proofs.YtpgbepgbgpjmcaaDoor
open Go.RowKit

def mapAt (w : World) (r : Nat) : Option (Array MapEntry × Nat) := match w.heap[r]? with | some (.map es c) => some (es, c) | _ => none
def setMap (w : World) (r : Nat) (es : Array MapEntry) (c : Nat) : World := { w with heap := w.heap.setIfInBounds r (.map es c) }

theorem mapAt_alloc_at (w : World) (es : Array MapEntry) (c n : Nat) (hn : n = w.heap.size) : mapAt (w.alloc (.map es c)) n = some (es, c) := by
  subst hn
  unfold mapAt
  rw [show (w.alloc (.map es c)).heap[w.heap.size]? = some (.map es c) from Array.getElem?_push_size]
theorem mapAt_alloc_past (w : World) (o : Obj) (n : Nat) (hn : n < w.heap.size) : mapAt (w.alloc o) n = mapAt w n := by
  unfold mapAt; rw [Below.heap_alloc w o n hn]
theorem mapAt_drew (w : World) (n : Nat) : mapAt w.drew n = mapAt w n := rfl
theorem mapAt_drewN (w : World) (n k : Nat) : mapAt (w.drewN k) n = mapAt w n := rfl
theorem setMap_alloc_at (w : World) (es es' : Array MapEntry) (c c' n : Nat) (hn : n = w.heap.size) : setMap (w.alloc (.map es c)) n es' c' = w.alloc (.map es' c') := by
  subst hn
  have h : (w.heap.push (.map es c)).setIfInBounds w.heap.size (.map es' c') = w.heap.push (.map es' c') := by
    apply Array.ext_getElem?
    intro i
    rw [Array.getElem?_setIfInBounds, Array.getElem?_push, Array.getElem?_push]
    by_cases hi : i = w.heap.size
    · subst hi; simp
    · rw [if_neg (fun e => hi e.symm), if_neg hi, if_neg hi]
  exact congrArg (fun x => { w with heap := x }) h
theorem setMap_alloc_past (w : World) (o : Obj) (n : Nat) (es : Array MapEntry) (c : Nat) (hn : n < w.heap.size) : setMap (w.alloc o) n es c = (setMap w n es c).alloc o := by
  have h : (w.heap.push o).setIfInBounds n (.map es c) = (w.heap.setIfInBounds n (.map es c)).push o := by
    apply Array.ext_getElem?
    intro i
    rw [Array.getElem?_setIfInBounds, Array.getElem?_push, Array.getElem?_push, Array.getElem?_setIfInBounds, Array.size_push, Array.size_setIfInBounds]
    by_cases hi : i = w.heap.size
    · subst hi; rw [if_neg (by omega), if_pos rfl, if_pos rfl]
    · rw [if_neg hi, if_neg hi]
      by_cases h2 : n = i
      · rw [if_pos h2, if_pos h2, if_pos (by omega), if_pos hn]
      · rw [if_neg h2, if_neg h2]
  exact congrArg (fun x => { w with heap := x }) h
theorem size_setMap (w : World) (n : Nat) (es : Array MapEntry) (c : Nat) : (setMap w n es c).heap.size = w.heap.size := by simp [setMap]
attribute [go_sem] mapAt_alloc_at mapAt_alloc_past mapAt_drew mapAt_drewN setMap_alloc_at setMap_alloc_past size_setMap

/-- Terms that the walk leaves alone. -/
def heldInsert (P : Program) (t : TypeId) (kk : IntKind) (r : Nat) (n : Int) (v : Value) (w : World) : Result Unit := (Instr.mapUpdate t (.map (some r)) (.int kk n) v).run P w
def heldLookup (P : Program) (t : TypeId) (kk : IntKind) (r : Nat) (n : Int) (w : World) : Result Value := (Instr.lookup t (.map (some r)) (.int kk n) true).run P w
theorem mapAt_some {w : World} {r : Nat} {es : Array MapEntry} {c : Nat} (h : mapAt w r = some (es, c)) : w.heap[r]? = some (.map es c) := by
  unfold mapAt at h
  split at h
  · rename_i h1; simp at h; obtain ⟨rfl, rfl⟩ := h; exact h1
  · cases h

theorem check_int {P : Program} {kt : TypeId} {kk : IntKind} (hk : P.underlying kt = some (.int kk)) (b : Bool) (n : Int) (w : World) : (Instr.checkKey b 10000 kt (.int kk n)).run P w = .ok () w := by
  show (Instr.checkKey b (9999 + 1) kt (.int kk n)).run P w = .ok () w
  unfold Instr.checkKey
  simp [run_underlying hk, Result.andThen]
/-- A store under a key of an integer kind that is not there. -/
theorem run_insert_int (P : Program) (t kt e : TypeId) (kk : IntKind) (ht : P.underlying t = some (.map kt e)) (hk : P.underlying kt = some (.int kk)) (r : Nat) (n : Int) (v : Value) (w : World) :
    (Instr.mapUpdate t (.map (some r)) (.int kk n) v).run P w = match mapAt w r with
      | some (es, c) => (match Instr.findNow (.int kk) (.int kk n) es.toList 0 with
        | some none => .ok () (setMap w r (es.push ⟨.int kk n, v, c⟩) (c + 1))
        | _ => heldInsert P t kk r n v w)
      | none => heldInsert P t kk r n v w := by
  cases hm : mapAt w r with
  | none => rfl
  | some x =>
    obtain ⟨es, c⟩ := x
    simp only
    split
    · rename_i hf
      have hb := mapAt_some hm
      simp [Instr.mapUpdate, run_underlying ht, MapKept.run_getObj_map hb, check_int hk, run_underlying hk, Instr.findKey, hf, MapKept.run_setObj_map _ hb, Result.andThen, setMap]
    · rfl
/-- A look-up of a key of an integer kind, with the second answer. -/
theorem run_lookup_int (P : Program) (t kt e : TypeId) (kk : IntKind) (z : Value) (ht : P.underlying t = some (.map kt e)) (hk : P.underlying kt = some (.int kk)) (hz : ∀ w, (zeroValue e).run P w = .ok z w) (r : Nat) (n : Int) (w : World) :
    (Instr.lookup t (.map (some r)) (.int kk n) true).run P w = match mapAt w r with
      | some (es, _) => (match Instr.findNow (.int kk) (.int kk n) es.toList 0 with
        | some (some (_, v)) => .ok (.tuple #[v, .bool true]) w
        | some none => .ok (.tuple #[z, .bool false]) w
        | _ => heldLookup P t kk r n w)
      | none => heldLookup P t kk r n w := by
  cases hm : mapAt w r with
  | none => rfl
  | some x =>
    obtain ⟨es, c⟩ := x
    simp only
    split
    · rename_i hf
      have hb := mapAt_some hm
      simp [Instr.lookup, run_underlying ht, MapKept.run_getObj_map hb, check_int hk, run_underlying hk, Instr.findKey, hf, Result.andThen]
    · rename_i hf
      have hb := mapAt_some hm
      simp [Instr.lookup, run_underlying ht, MapKept.run_getObj_map hb, check_int hk, run_underlying hk, Instr.findKey, hf, Result.andThen, hz]
    · rfl
theorem findNow_nil (k : TypeDesc) (v : Value) (i : Nat) : Instr.findNow k v [] i = some none := rfl
theorem findNow_int (kk : IntKind) (n m : Int) (v : Value) (b : Nat) (es : List MapEntry) (i : Nat) :
    Instr.findNow (.int kk) (.int kk n) (⟨.int kk m, v, b⟩ :: es) i = if n = m then some (some (i, v)) else Instr.findNow (.int kk) (.int kk n) es (i + 1) := by
  by_cases h : n = m
  · subst h; simp [Instr.findNow, Instr.sameNow]
  · have : (n == m) = false := by simpa using h
    simp [Instr.findNow, Instr.sameNow, h, this]
attribute [go_sem] findNow_nil findNow_int

/-- From w to w' only block b has been written, and blocks have been made. -/
def Only (b : Nat) (w w' : World) : Prop := w.heap.size ≤ w'.heap.size ∧ ∀ k, k < w.heap.size → k ≠ b → w'.heap[k]? = w.heap[k]?
theorem Only.refl (b : Nat) (w : World) : Only b w w := ⟨Nat.le_refl _, fun _ _ _ => rfl⟩
theorem Only.alloc {b : Nat} {w w' : World} (h : Only b w w') (o : Obj) : Only b w (w'.alloc o) :=
  ⟨Nat.le_trans h.1 (by simp), fun k h1 h2 => (Below.heap_alloc w' o k (Nat.lt_of_lt_of_le h1 h.1)).trans (h.2 k h1 h2)⟩
theorem Only.setCell {b : Nat} {w w' : World} (h : Only b w w') {a : Addr} (ha : a.block = b) (v : Value) : Only b w (w'.setCell a v) :=
  ⟨Nat.le_trans h.1 (by simp [World.setCell]), fun k h1 h2 => (Below.heap_setCell w' a v k (by rw [ha]; exact h2)).trans (h.2 k h1 h2)⟩
theorem Only.at {b : Nat} {w w' : World} (h : Only b w w') (o : Nat) (v : Value) : Only b w (w'.setCell ⟨b, o, none⟩ v) := h.setCell rfl v
theorem below_at {B b : Nat} {w w' : World} (h : Below B w w') (hb : B ≤ b) (o : Nat) (v : Value) : Below B w (w'.setCell ⟨b, o, none⟩ v) := Below.setCell h hb v
theorem below_drewN {B : Nat} {w w' : World} (h : Below B w w') (n : Nat) : Below B w (w'.drewN n) := h.trans ⟨rfl, rfl, rfl, Nat.le_refl _, fun _ _ => rfl⟩
theorem Only.drew {b : Nat} {w w' : World} (h : Only b w w') : Only b w w'.drew := h
theorem Only.drewN {b : Nat} {w w' : World} (h : Only b w w') (n : Nat) : Only b w (w'.drewN n) := h
theorem Only.cell {b : Nat} {w w' : World} (h : Only b w w') {k o : Nat} (hk : k < w.heap.size) (hb : k ≠ b) : w'.cell? ⟨k, o, none⟩ = w.cell? ⟨k, o, none⟩ := by
  unfold World.cell?; rw [h.2 k hk hb]
theorem bcell {W w1 : World} (hb : Below W.heap.size W w1) : (∀ b o, b < W.heap.size → w1.cell? ⟨b, o, none⟩ = W.cell? ⟨b, o, none⟩) ∧ (∀ b o, b < W.heap.size → w1.frozen? ⟨b, o, none⟩ = W.frozen? ⟨b, o, none⟩) :=
  ⟨fun b o h => hb.cell (p := ⟨b, o, none⟩) h, fun b o h => hb.frozen (p := ⟨b, o, none⟩) h⟩
/-- A box that the call has made is what it was, behind a call that leaves what it found. -/
theorem box_kept {w w1 : World} {cs : Array Value} {T : TypeId} (hb : Below (w.alloc (.cells cs T)).heap.size (w.alloc (.cells cs T)) w1) (i : Nat) : w1.cell? ⟨w.heap.size, i, none⟩ = cs[i]? := by
  rw [(bcell hb).1 _ _ (by simp)]; simp [go_sem]
theorem below_box {w w1 : World} {o : Obj} (hb : Below (w.alloc o).heap.size (w.alloc o) w1) : Below w.heap.size w w1 := ((Below.refl _ _).alloc (Nat.le_refl _) _).trans (hb.mono (by simp))
theorem below_next {B : Nat} {w w1 w2 : World} (h1 : Below B w w1) (hB : B ≤ w1.heap.size) (h2 : Below w1.heap.size w1 w2) : Below B w w2 := h1.trans (h2.mono hB)
theorem below_hop {w w1 w2 : World} (h1 : Below w.heap.size w w1) (h2 : Below w1.heap.size w1 w2) : Below w.heap.size w w2 := below_next h1 h1.size h2
end Go.Proofs.YtpgbepgbgpjmcaaDoor
