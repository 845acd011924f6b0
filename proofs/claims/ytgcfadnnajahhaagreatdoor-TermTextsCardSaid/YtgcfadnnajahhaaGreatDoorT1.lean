/- -/
import Derived.Test.YtgcfadnnajahhaaGreatDoorRows
import Derived.WalkKit
import Derived.WalkSpells
import Derived.WalkLawsBesides
import Derived.Laws.EntriesVeiled
import Derived.Lib.Hide
import Derived.OwnWalk
import Derived.Laws.OwnMore
import Derived.Lib.ItoaNum
import Derived.Ground.NamesProg
import Derived.Shelf.Lay
import Derived.Shelf.Strconv.Itoa3
import Derived.Shelf.Strings.OnBuilder
import Derived.Maps.Keyed
import Derived.DeepKeys5
import Derived.Laws.BitsAllLaws
import Derived.Laws.Entries
import Derived.BigGuardPart
import Derived.BigQuiet
import Derived.Deep.RegionWith
import Derived.Deep.QuietTactic
set_option maxHeartbeats 1000000
namespace Go.Proofs.YtgcfadnnajahhaaGreatDoor
open Go.RowKit
def mapAt (w : World) (r : Nat) : Option (Array MapEntry × Nat) := match w.heap[r]? with | some (.map es c) => some (es, c) | _ => none
def setMap (w : World) (r : Nat) (es : Array MapEntry) (c : Nat) : World := { w with heap := w.heap.setIfInBounds r (.map es c) }
theorem mapAt_alloc_at (w : World) (es : Array MapEntry) (c n : Nat) (hn : n = w.heap.size) : mapAt (w.alloc (.map es c)) n = some (es, c) := by
  subst hn
  unfold mapAt
  rw [show (w.alloc (.map es c)).heap[w.heap.size]? = some (.map es c) from Array.getElem?_push_size]
theorem mapAt_alloc_past (w : World) (o : Obj) (n : Nat) (hn : n < w.heap.size) : mapAt (w.alloc o) n = mapAt w n := by
  unfold mapAt; rw [Below.heap_alloc w o n hn]
theorem mapAt_drew (w : World) (n : Nat) : mapAt w.drew n = mapAt w n := rfl
theorem mapAt_drewN (w : World) (n k : Nat) : mapAt (w.drewN k) n = mapAt w n := rfl
theorem setMap_alloc_at (w : World) (es es' : Array MapEntry) (c c' n : Nat) (hn : n = w.heap.size) : setMap (w.alloc (.map es c)) n es' c' = w.alloc (.map es' c') := by
  subst hn
  have h : (w.heap.push (.map es c)).setIfInBounds w.heap.size (.map es' c') = w.heap.push (.map es' c') := by
    apply Array.ext_getElem?
    intro i
    rw [Array.getElem?_setIfInBounds, Array.getElem?_push, Array.getElem?_push]
    by_cases hi : i = w.heap.size
    · subst hi; simp
    · rw [if_neg (fun e => hi e.symm), if_neg hi, if_neg hi]
  exact congrArg (fun x => { w with heap := x }) h
theorem setMap_alloc_past (w : World) (o : Obj) (n : Nat) (es : Array MapEntry) (c : Nat) (hn : n < w.heap.size) : setMap (w.alloc o) n es c = (setMap w n es c).alloc o := by
  have h : (w.heap.push o).setIfInBounds n (.map es c) = (w.heap.setIfInBounds n (.map es c)).push o := by
    apply Array.ext_getElem?
    intro i
    rw [Array.getElem?_setIfInBounds, Array.getElem?_push, Array.getElem?_push, Array.getElem?_setIfInBounds, Array.size_push, Array.size_setIfInBounds]
    by_cases hi : i = w.heap.size
    · subst hi; rw [if_neg (by omega), if_pos rfl, if_pos rfl]
    · rw [if_neg hi, if_neg hi]
      by_cases h2 : n = i
      · rw [if_pos h2, if_pos h2, if_pos (by omega), if_pos hn]
      · rw [if_neg h2, if_neg h2]
  exact congrArg (fun x => { w with heap := x }) h
theorem size_setMap (w : World) (n : Nat) (es : Array MapEntry) (c : Nat) : (setMap w n es c).heap.size = w.heap.size := by simp [setMap]
attribute [go_sem] mapAt_alloc_at mapAt_alloc_past mapAt_drew mapAt_drewN setMap_alloc_at setMap_alloc_past size_setMap
def heldInsert (P : Program) (t : TypeId) (kk : IntKind) (r : Nat) (n : Int) (v : Value) (w : World) : Result Unit := (Instr.mapUpdate t (.map (some r)) (.int kk n) v).run P w
def heldLookup (P : Program) (t : TypeId) (kk : IntKind) (r : Nat) (n : Int) (w : World) : Result Value := (Instr.lookup t (.map (some r)) (.int kk n) true).run P w
theorem mapAt_some {w : World} {r : Nat} {es : Array MapEntry} {c : Nat} (h : mapAt w r = some (es, c)) : w.heap[r]? = some (.map es c) := by
  unfold mapAt at h
  split at h
  · rename_i h1; simp at h; obtain ⟨rfl, rfl⟩ := h; exact h1
  · cases h
theorem check_int {P : Program} {kt : TypeId} {kk : IntKind} (hk : P.underlying kt = some (.int kk)) (b : Bool) (n : Int) (w : World) : (Instr.checkKey b 10000 kt (.int kk n)).run P w = .ok () w := by
  show (Instr.checkKey b (9999 + 1) kt (.int kk n)).run P w = .ok () w
  unfold Instr.checkKey
  simp [run_underlying hk, Result.andThen]
theorem run_insert_int (P : Program) (t kt e : TypeId) (kk : IntKind) (ht : P.underlying t = some (.map kt e)) (hk : P.underlying kt = some (.int kk)) (r : Nat) (n : Int) (v : Value) (w : World) :
    (Instr.mapUpdate t (.map (some r)) (.int kk n) v).run P w = match mapAt w r with
      | some (es, c) => (match Instr.findNow (.int kk) (.int kk n) es.toList 0 with
        | some none => .ok () (setMap w r (es.push ⟨.int kk n, v, c⟩) (c + 1))
        | _ => heldInsert P t kk r n v w)
      | none => heldInsert P t kk r n v w := by
  cases hm : mapAt w r with
  | none => rfl
  | some x =>
    obtain ⟨es, c⟩ := x
    simp only
    split
    · rename_i hf
      have hb := mapAt_some hm
      simp [Instr.mapUpdate, run_underlying ht, MapKept.run_getObj_map hb, check_int hk, run_underlying hk, Instr.findKey, hf, MapKept.run_setObj_map _ hb, Result.andThen, setMap]
    · rfl
theorem run_lookup_int (P : Program) (t kt e : TypeId) (kk : IntKind) (z : Value) (ht : P.underlying t = some (.map kt e)) (hk : P.underlying kt = some (.int kk)) (hz : ∀ w, (zeroValue e).run P w = .ok z w) (r : Nat) (n : Int) (w : World) :
    (Instr.lookup t (.map (some r)) (.int kk n) true).run P w = match mapAt w r with
      | some (es, _) => (match Instr.findNow (.int kk) (.int kk n) es.toList 0 with
        | some (some (_, v)) => .ok (.tuple #[v, .bool true]) w
        | some none => .ok (.tuple #[z, .bool false]) w
        | _ => heldLookup P t kk r n w)
      | none => heldLookup P t kk r n w := by
  cases hm : mapAt w r with
  | none => rfl
  | some x =>
    obtain ⟨es, c⟩ := x
    simp only
    split
    · rename_i hf
      have hb := mapAt_some hm
      simp [Instr.lookup, run_underlying ht, MapKept.run_getObj_map hb, check_int hk, run_underlying hk, Instr.findKey, hf, Result.andThen]
    · rename_i hf
      have hb := mapAt_some hm
      simp [Instr.lookup, run_underlying ht, MapKept.run_getObj_map hb, check_int hk, run_underlying hk, Instr.findKey, hf, Result.andThen, hz]
    · rfl
theorem findNow_nil (k : TypeDesc) (v : Value) (i : Nat) : Instr.findNow k v [] i = some none := rfl
theorem findNow_int (kk : IntKind) (n m : Int) (v : Value) (b : Nat) (es : List MapEntry) (i : Nat) :
    Instr.findNow (.int kk) (.int kk n) (⟨.int kk m, v, b⟩ :: es) i = if n = m then some (some (i, v)) else Instr.findNow (.int kk) (.int kk n) es (i + 1) := by
  by_cases h : n = m
  · subst h; simp [Instr.findNow, Instr.sameNow]
  · have : (n == m) = false := by simpa using h
    simp [Instr.findNow, Instr.sameNow, h, this]
attribute [go_sem] findNow_nil findNow_int
def Only (b : Nat) (w w' : World) : Prop := w.heap.size ≤ w'.heap.size ∧ ∀ k, k < w.heap.size → k ≠ b → w'.heap[k]? = w.heap[k]?
theorem Only.refl (b : Nat) (w : World) : Only b w w := ⟨Nat.le_refl _, fun _ _ _ => rfl⟩
theorem Only.alloc {b : Nat} {w w' : World} (h : Only b w w') (o : Obj) : Only b w (w'.alloc o) :=
  ⟨Nat.le_trans h.1 (by simp), fun k h1 h2 => (Below.heap_alloc w' o k (Nat.lt_of_lt_of_le h1 h.1)).trans (h.2 k h1 h2)⟩
theorem Only.setCell {b : Nat} {w w' : World} (h : Only b w w') {a : Addr} (ha : a.block = b) (v : Value) : Only b w (w'.setCell a v) :=
  ⟨Nat.le_trans h.1 (by simp [World.setCell]), fun k h1 h2 => (Below.heap_setCell w' a v k (by rw [ha]; exact h2)).trans (h.2 k h1 h2)⟩
theorem Only.at {b : Nat} {w w' : World} (h : Only b w w') (o : Nat) (v : Value) : Only b w (w'.setCell ⟨b, o, none⟩ v) := h.setCell rfl v
theorem below_at {B b : Nat} {w w' : World} (h : Below B w w') (hb : B ≤ b) (o : Nat) (v : Value) : Below B w (w'.setCell ⟨b, o, none⟩ v) := Below.setCell h hb v
theorem below_drewN {B : Nat} {w w' : World} (h : Below B w w') (n : Nat) : Below B w (w'.drewN n) := h.trans ⟨rfl, rfl, rfl, Nat.le_refl _, fun _ _ => rfl⟩
theorem Only.drew {b : Nat} {w w' : World} (h : Only b w w') : Only b w w'.drew := h
theorem Only.drewN {b : Nat} {w w' : World} (h : Only b w w') (n : Nat) : Only b w (w'.drewN n) := h
theorem Only.cell {b : Nat} {w w' : World} (h : Only b w w') {k o : Nat} (hk : k < w.heap.size) (hb : k ≠ b) : w'.cell? ⟨k, o, none⟩ = w.cell? ⟨k, o, none⟩ := by
  unfold World.cell?; rw [h.2 k hk hb]
theorem bcell {W w1 : World} (hb : Below W.heap.size W w1) : (∀ b o, b < W.heap.size → w1.cell? ⟨b, o, none⟩ = W.cell? ⟨b, o, none⟩) ∧ (∀ b o, b < W.heap.size → w1.frozen? ⟨b, o, none⟩ = W.frozen? ⟨b, o, none⟩) :=
  ⟨fun b o h => hb.cell (p := ⟨b, o, none⟩) h, fun b o h => hb.frozen (p := ⟨b, o, none⟩) h⟩
theorem below_box {w w1 : World} {o : Obj} (hb : Below (w.alloc o).heap.size (w.alloc o) w1) : Below w.heap.size w w1 := ((Below.refl _ _).alloc (Nat.le_refl _) _).trans (hb.mono (by simp))
theorem below_next {B : Nat} {w w1 w2 : World} (h1 : Below B w w1) (hB : B ≤ w1.heap.size) (h2 : Below w1.heap.size w1 w2) : Below B w w2 := h1.trans (h2.mono hB)
theorem below_hop {w w1 w2 : World} (h1 : Below w.heap.size w w1) (h2 : Below w1.heap.size w1 w2) : Below w.heap.size w w2 := below_next h1 h1.size h2
end Go.Proofs.YtgcfadnnajahhaaGreatDoor
namespace Go.Proofs.YtgcfadnnajahhaaGreatDoor
open Go.RowKit
set_option linter.unusedVariables false
set_option linter.unusedSimpArgs false
def Slc (w : World) (v : Value) (n z : Nat) (C : Nat → Nat → Nat → Prop) : Prop :=
  ∃ (a : Option Addr) (c : Nat), v = .slice a n c ∧ n ≤ c ∧ (n ≤ 140737488351232 ∧ c ≤ 9223372036854775807) ∧ (a = none → c = 0) ∧ ∀ i, i < n → ∃ b o, a = some ⟨b, o, none⟩ ∧ b < w.heap.size ∧ C i b (o + i * z)
def Ints (k : IntKind) (w : World) (v : Value) (xs : List Int) : Prop := Slc w v xs.length 1 fun i b o => w.cell? ⟨b, o, none⟩ = some (.int k (xs.getD i 0))
structure Nd where
  op : Int
  width : Int
  flags : Int
  args : List Int
  imm : Int
  deriving Inhabited
def NdAt (w : World) (b o : Nat) (x : Nd) : Prop :=
  w.cell? ⟨b, o, none⟩ = some (.int .i64 x.op) ∧ w.cell? ⟨b, o + 1, none⟩ = some (.int .i64 x.width) ∧ w.cell? ⟨b, o + 2, none⟩ = some (.int .i64 x.flags) ∧
  (∃ v, w.cell? ⟨b, o + 3, none⟩ = some v ∧ Ints .i64 w v x.args) ∧ w.cell? ⟨b, o + 4, none⟩ = some (.int .u32 x.imm)
def Nds (w : World) (v : Value) (ts : List Nd) : Prop := Slc w v ts.length 5 fun i b o => NdAt w b o (ts.getD i default)
theorem below_cell {B : Nat} {w w' : World} (h : Below B w w') {b o : Nat} {v : Value} (hb : b < B) (hc : w.cell? ⟨b, o, none⟩ = some v) : w'.cell? ⟨b, o, none⟩ = some v := by
  rw [← hc]; exact h.cell (p := ⟨b, o, none⟩) hb
theorem cell_lt {w : World} {b o : Nat} {v : Value} (h : w.cell? ⟨b, o, none⟩ = some v) : b < w.heap.size := by
  unfold World.cell? at h
  by_cases hb : b < w.heap.size
  · exact hb
  · simp [Array.getElem?_eq_none (Nat.le_of_not_lt hb)] at h
theorem Slc.stays {w w' : World} {v : Value} {n z : Nat} {C C' : Nat → Nat → Nat → Prop} (h : Slc w v n z C) (hb : Below w.heap.size w w') (hC : ∀ i b o, b < w.heap.size → C i b o → C' i b o) : Slc w' v n z C' := by
  obtain ⟨a, c, e, h1, h2, h3, h4⟩ := h
  refine ⟨a, c, e, h1, h2, h3, fun i hi => ?_⟩
  obtain ⟨b, o, e1, e2, e3⟩ := h4 i hi
  exact ⟨b, o, e1, Nat.lt_of_lt_of_le e2 hb.size, hC i b _ e2 e3⟩
theorem Ints.stays {k : IntKind} {w w' : World} {v : Value} {xs : List Int} (h : Ints k w v xs) (hb : Below w.heap.size w w') : Ints k w' v xs :=
  Slc.stays h hb fun _ _ _ hlt hc => below_cell hb hlt hc
theorem NdAt.stays {w w' : World} {b o : Nat} {x : Nd} (h : NdAt w b o x) (hlt : b < w.heap.size) (hb : Below w.heap.size w w') : NdAt w' b o x := by
  obtain ⟨h1, h2, h3, ⟨v, h4, h5⟩, h6⟩ := h
  exact ⟨below_cell hb hlt h1, below_cell hb hlt h2, below_cell hb hlt h3, ⟨v, below_cell hb hlt h4, h5.stays hb⟩, below_cell hb hlt h6⟩
theorem Nds.stays {w w' : World} {v : Value} {ts : List Nd} (h : Nds w v ts) (hb : Below w.heap.size w w') : Nds w' v ts :=
  Slc.stays h hb fun _ _ _ hlt hc => hc.stays hlt hb
def RowI (w : World) (base : Nat) (e : TypeId) (k : IntKind) (v : Value) (xs : List Int) : Prop := w.ownsRow base e 1 v xs.length (xs.map (Value.int k))
theorem RowI.ints {w : World} {base : Nat} {e : TypeId} {k : IntKind} {v : Value} {xs : List Int} (h : RowI w base e k v xs) (hl : xs.length ≤ 140737488351232) : Ints k w v xs := by
  obtain ⟨_, ⟨rfl, h0⟩ | ⟨g, cap, cur, rfl, hb, hg, h1, h2, h3, h4⟩⟩ := h
  · exact ⟨none, 0, by rw [h0], by omega, by omega, fun _ => rfl, fun i hi => absurd hi (by omega)⟩
  · refine ⟨some ⟨g, 0, none⟩, cap, rfl, h1, ⟨hl, by unfold maxLen at h2; omega⟩, (fun hh => by cases hh), fun i hi => ⟨g, 0, rfl, ?_, ?_⟩⟩
    · rcases Nat.lt_or_ge g w.heap.size with h | h
      · exact h
      · rw [Array.getElem?_eq_none h] at hg; cases hg
    · rw [Nat.mul_one, Nat.zero_add]
      have e1 : w.cell? ⟨g, i, none⟩ = cur.toList[i]? := by simp [World.cell?, hg]
      have e2 : (cur.toList.take (xs.length * 1))[i]? = cur.toList[i]? := by rw [List.getElem?_take, if_pos (by omega)]
      show w.cell? ⟨g, i, none⟩ = _
      rw [e1, ← e2, h4, List.getElem?_map, List.getElem?_eq_getElem hi, List.getD_eq_getElem?_getD, List.getElem?_eq_getElem hi]
      rfl
theorem RowI.nil (w : World) (base : Nat) (e : TypeId) (k : IntKind) : RowI w base e k (.slice none 0 0) [] := World.ownsRow_nil w base e 1
theorem RowI.below {w w' : World} {base : Nat} {e : TypeId} {k : IntKind} {v : Value} {xs : List Int} (h : RowI w base e k v xs) (hb : Below w.heap.size w w') : RowI w' base e k v xs := by
  obtain ⟨h0, ⟨rfl, h1⟩ | ⟨g, cap, cur, rfl, hb', hg, h1, h2, h3, h4⟩⟩ := h
  · exact ⟨h0, .inl ⟨rfl, h1⟩⟩
  · refine ⟨h0, .inr ⟨g, cap, cur, rfl, hb', ?_, h1, h2, h3, h4⟩⟩
    have hlt : g < w.heap.size := by
      rcases Nat.lt_or_ge g w.heap.size with h | h
      · exact h
      · rw [Array.getElem?_eq_none h] at hg; cases hg
    rw [← hg]
    exact hb.block g hlt
theorem RowI.shape {w : World} {base : Nat} {e : TypeId} {k : IntKind} {v : Value} {xs : List Int} (h : RowI w base e k v xs) : ∃ a c, v = .slice a xs.length c := by
  obtain ⟨_, ⟨rfl, h1⟩ | ⟨g, cap, cur, rfl, _⟩⟩ := h
  · exact ⟨none, 0, by rw [h1]⟩
  · exact ⟨_, _, rfl⟩
theorem RowI.app {w : World} {base : Nat} {e : TypeId} {k : IntKind} {v : Value} {xs ys zs : List Int} {n : Nat} (h : w.ownsRow base e 1 v n (xs.map (Value.int k) ++ ys.map (Value.int k))) (hn : n = xs.length + ys.length) (hz : zs = xs ++ ys) : RowI w base e k v zs := by
  subst hz; subst hn
  unfold RowI
  rw [List.length_append, List.map_append]
  exact h
theorem RowI.app1 {w : World} {base : Nat} {e : TypeId} {k : IntKind} {v : Value} {l zs : List Int} {y : Int} {j : Nat} (h : w.ownsRow base e 1 v (j + 1) (l.map (Value.int k) ++ [.int k y])) (hl : l.length = j) (hz : zs = l ++ [y]) : RowI w base e k v zs :=
  RowI.app (ys := [y]) h (by rw [hl]; rfl) hz
theorem own_ge {w : World} {base : Nat} {e : TypeId} {size : Nat} {v : Value} {n : Nat} {xs : List Value} (h : w.ownsRow base e size v n xs) : ∀ k, v.ownBlock = some k → base ≤ k := fun k hk => (h.lt k hk).1
end Go.Proofs.YtgcfadnnajahhaaGreatDoor
namespace Go.Proofs.YtgcfadnnajahhaaGreatDoor
set_option linter.unusedVariables false
set_option linter.unusedSimpArgs false
instance : DecidableEq Nd := fun x y =>
  decidable_of_iff (x.op = y.op ∧ x.width = y.width ∧ x.flags = y.flags ∧ x.args = y.args ∧ x.imm = y.imm) ⟨fun h => by
    obtain ⟨a, b, c, d, e⟩ := x; obtain ⟨a', b', c', d', e'⟩ := y
    simp only at h
    obtain ⟨rfl, rfl, rfl, rfl, rfl⟩ := h; rfl, fun h => by subst h; exact ⟨rfl, rfl, rfl, rfl, rfl⟩⟩
structure St where
  out : List Nd
  nos : List Int
def St.no (s : St) (k : Nat) : Int := s.nos.getD k (-1)
def St.told (s : St) (k : Nat) : Prop := 0 ≤ s.no k
instance (s : St) (k : Nat) : Decidable (s.told k) := inferInstanceAs (Decidable (0 ≤ s.no k))
def mapN (s : St) (x : Nd) : Nd := ⟨x.op, x.width, x.flags, x.args.map fun a => s.no a.toNat, x.imm⟩
def addN (out : List Nd) (y : Nd) : List Nd × Nat := if y ∈ out then (out, out.idxOf y) else (out ++ [y], out.length)
def nd (ts : List Nd) (k : Nat) : Nd := ts.getD k default
def tell (ts : List Nd) (k : Nat) (s : St) : St := ⟨(addN s.out (mapN s (nd ts k))).1, s.nos.set k (addN s.out (mapN s (nd ts k))).2⟩
def visit (ts : List Nd) : Nat → Nat → St → St
  | 0, _, s => s
  | f + 1, k, s => if s.told k then s else tell ts k ((nd ts k).args.foldl (fun s a => visit ts f a.toNat s) s)
def vis (ts : List Nd) (k : Nat) (s : St) : St := visit ts (k + 1) k s
def Down (ts : List Nd) : Prop := ∀ k, k < ts.length → ∀ a ∈ (nd ts k).args, 0 ≤ a ∧ a < k
structure Inv (ts : List Nd) (s : St) : Prop where
  len : s.nos.length = ts.length
  rng : ∀ k, s.told k → s.no k < s.out.length
  cls : ∀ k, s.told k → ∀ a ∈ (nd ts k).args, s.told a.toNat
  node : ∀ k, s.told k → s.out.getD (s.no k).toNat default = mapN s (nd ts k)
  nod : s.out.Nodup
  src : ∀ i, i < s.out.length → ∃ k, s.told k ∧ s.no k = i
  low : ∀ i, i < s.out.length → ∀ a ∈ (s.out.getD i default).args, 0 ≤ a ∧ a < i
structure Ext (s s' : St) : Prop where
  out : ∃ l, s'.out = s.out ++ l
  no : ∀ k, s.told k → s'.no k = s.no k
theorem Ext.refl (s : St) : Ext s s := ⟨⟨[], by simp⟩, fun _ _ => rfl⟩
theorem Ext.told {s s' : St} (h : Ext s s') {k : Nat} (hk : s.told k) : s'.told k := by unfold St.told at *; rw [h.no k hk]; exact hk
theorem Ext.trans {a b c : St} (h : Ext a b) (h' : Ext b c) : Ext a c := by
  obtain ⟨l, hl⟩ := h.out
  obtain ⟨l', hl'⟩ := h'.out
  exact ⟨⟨l ++ l', by rw [hl', hl, List.append_assoc]⟩, fun k hk => by rw [h'.no k (h.told hk), h.no k hk]⟩
theorem told_lt {ts : List Nd} {s : St} (hi : Inv ts s) {k : Nat} (hk : s.told k) : k < ts.length := by
  rcases Nat.lt_or_ge k ts.length with h | h
  · exact h
  · exfalso
    unfold St.told St.no at hk
    rw [List.getD_eq_getElem?_getD, List.getElem?_eq_none (by rw [hi.len]; exact h)] at hk
    exact absurd hk (by simp)
theorem addN_len {out : List Nd} {y : Nd} : (addN out y).2 < (addN out y).1.length := by
  unfold addN
  split
  · exact List.idxOf_lt_length_of_mem ‹_›
  · simp
theorem addN_ext {out : List Nd} {y : Nd} : ∃ l, (addN out y).1 = out ++ l := by
  unfold addN
  split
  · exact ⟨[], by simp⟩
  · exact ⟨[y], rfl⟩
theorem addN_get {out : List Nd} {y : Nd} : (addN out y).1.getD (addN out y).2 default = y := by
  unfold addN
  split
  · rename_i h
    rw [List.getD_eq_getElem?_getD, List.getElem?_eq_getElem (List.idxOf_lt_length_of_mem h), List.getElem_idxOf]; rfl
  · rw [List.getD_eq_getElem?_getD, List.getElem?_append_right (Nat.le_refl _), Nat.sub_self]; rfl
theorem addN_nodup {out : List Nd} {y : Nd} (h : out.Nodup) : (addN out y).1.Nodup := by
  unfold addN
  split
  · exact h
  · rw [List.nodup_append]
    refine ⟨h, by simp, ?_⟩
    intro a ha b hb
    simp at hb
    subst hb
    intro e; subst e; exact ‹¬ _› ha
theorem getD_pre {l l' : List Nd} {i : Nat} (h : i < l.length) : (l ++ l').getD i default = l.getD i default := by
  rw [List.getD_eq_getElem?_getD, List.getD_eq_getElem?_getD, List.getElem?_append_left h]
theorem no_tell_self {ts : List Nd} {k : Nat} {s : St} (h : k < s.nos.length) : (tell ts k s).no k = (addN s.out (mapN s (nd ts k))).2 := by
  show (s.nos.set k _).getD k (-1) = _
  rw [List.getD_eq_getElem?_getD, List.getElem?_set_self h]; rfl
theorem no_tell_ne {ts : List Nd} {k j : Nat} {s : St} (h : k ≠ j) : (tell ts k s).no j = s.no j := by
  show (s.nos.set k _).getD j (-1) = s.nos.getD j (-1)
  rw [List.getD_eq_getElem?_getD, List.getD_eq_getElem?_getD, List.getElem?_set_ne h]
theorem mapN_ext {s s' : St} {x : Nd} (h : ∀ a ∈ x.args, s'.no a.toNat = s.no a.toNat) : mapN s' x = mapN s x := by
  unfold mapN
  rw [List.map_congr_left h]
theorem tell_inv {ts : List Nd} {k : Nat} {s : St} (hd : Down ts) (hi : Inv ts s) (hk : k < ts.length) (hu : ¬ s.told k) (ha : ∀ a ∈ (nd ts k).args, s.told a.toNat) :
    Inv ts (tell ts k s) ∧ Ext s (tell ts k s) ∧ (tell ts k s).told k := by
  have hkl : k < s.nos.length := by rw [hi.len]; exact hk
  have hself := no_tell_self (ts := ts) hkl
  have htk : (tell ts k s).told k := by unfold St.told; rw [hself]; omega
  have hext : Ext s (tell ts k s) := ⟨addN_ext, fun j hj => no_tell_ne (fun e => hu (e ▸ hj))⟩
  have hback : ∀ j, j ≠ k → (tell ts k s).told j → s.told j := fun j hj h => by unfold St.told at *; rw [no_tell_ne (fun e => hj e.symm)] at h; exact h
  obtain ⟨l, hl⟩ := hext.out
  have hargs : ∀ j, s.told j → mapN (tell ts k s) (nd ts j) = mapN s (nd ts j) := fun j hj => mapN_ext fun a h => hext.no _ (hi.cls j hj a h)
  refine ⟨⟨by show (s.nos.set k _).length = _; rw [List.length_set]; exact hi.len, ?_, ?_, ?_, addN_nodup hi.nod, ?_, ?_⟩, hext, htk⟩
  · intro j hj
    by_cases e : j = k
    · subst e; rw [hself]; exact Int.ofNat_lt.2 addN_len
    · have h1 := hback j e hj
      rw [hext.no j h1, hl, List.length_append]
      have := hi.rng j h1
      omega
  · intro j hj a haj
    by_cases e : j = k
    · subst e; exact hext.told (ha a haj)
    · exact hext.told (hi.cls j (hback j e hj) a haj)
  · intro j hj
    by_cases e : j = k
    · subst e
      rw [hself, Int.toNat_natCast]
      show (addN _ _).1.getD _ _ = _
      rw [addN_get]
      exact (mapN_ext fun a h => hext.no _ (ha a h)).symm
    · have h1 := hback j e hj
      have h2 := hi.rng j h1
      have h3 : 0 ≤ s.no j := h1
      rw [hext.no j h1, hl, getD_pre (by omega), hi.node j h1, hargs j h1]
  · intro i hlt
    by_cases e : i < s.out.length
    · obtain ⟨j, h1, h2⟩ := hi.src i e
      exact ⟨j, hext.told h1, by rw [hext.no j h1]; exact h2⟩
    · refine ⟨k, htk, ?_⟩
      rw [hself]
      show ((addN s.out (mapN s (nd ts k))).2 : Int) = i
      have hlt' : i < (addN s.out (mapN s (nd ts k))).1.length := hlt
      unfold addN at hlt' ⊢
      split
      · rename_i h; rw [if_pos h] at hlt'; exact absurd hlt' e
      · rename_i h; rw [if_neg h] at hlt'; simp at hlt' ⊢; omega
  · intro i hlt a hai
    by_cases e : i < s.out.length
    · rw [hl, getD_pre e] at hai
      exact hi.low i e a hai
    · have hlt' : i < (addN s.out (mapN s (nd ts k))).1.length := hlt
      have hai' : a ∈ ((addN s.out (mapN s (nd ts k))).1.getD i default).args := hai
      unfold addN at hlt' hai'
      split at hlt'
      · exact absurd hlt' e
      · rename_i h
        rw [if_neg h] at hai'
        simp only [List.length_append, List.length_cons, List.length_nil] at hlt'
        have hi2 : i = s.out.length := by omega
        subst hi2
        rw [List.getD_eq_getElem?_getD, List.getElem?_append_right (Nat.le_refl _), Nat.sub_self] at hai'
        obtain ⟨b, hb, rfl⟩ := List.mem_map.1 (show a ∈ (nd ts k).args.map _ from hai')
        exact ⟨ha b hb, hi.rng _ (ha b hb)⟩
theorem tell_up {ts : List Nd} {k j : Nat} {s : St} (h : k < j) : (tell ts k s).no j = s.no j := no_tell_ne (by omega)
structure Went (ts : List Nd) (k : Nat) (s s' : St) : Prop where
  inv : Inv ts s'
  ext : Ext s s'
  up : ∀ j, k ≤ j → s'.no j = s.no j
theorem Went.refl {ts : List Nd} {k : Nat} {s : St} (h : Inv ts s) : Went ts k s s := ⟨h, Ext.refl s, fun _ _ => rfl⟩
theorem Went.trans {ts : List Nd} {k : Nat} {a b c : St} (h : Went ts k a b) (h' : Went ts k b c) : Went ts k a c := ⟨h'.inv, h.ext.trans h'.ext, fun j hj => by rw [h'.up j hj, h.up j hj]⟩
theorem told_of_no {s s' : St} {k : Nat} (h : s'.no k = s.no k) : s'.told k ↔ s.told k := by unfold St.told; rw [h]
theorem visit_inv {ts : List Nd} (hd : Down ts) : ∀ (f k : Nat) (s : St), k < f → k < ts.length → Inv ts s → Went ts (k + 1) s (visit ts f k s) ∧ (visit ts f k s).told k
  | 0, k, s, h, _, _ => absurd h (by omega)
  | f + 1, k, s, hf, hk, hi => by
    unfold visit
    by_cases ht : s.told k
    · rw [if_pos ht]; exact ⟨Went.refl hi, ht⟩
    · rw [if_neg ht]
      have key : ∀ (l : List Int) (s : St), (∀ a ∈ l, 0 ≤ a ∧ a < k) → Inv ts s →
          Went ts k s (l.foldl (fun s a => visit ts f a.toNat s) s) ∧ (∀ a ∈ l, (l.foldl (fun s a => visit ts f a.toNat s) s).told a.toNat) := by
        intro l
        induction l with
        | nil => intro s _ hi; exact ⟨Went.refl hi, fun a h => by cases h⟩
        | cons a l ih =>
          intro s hr hi
          have ha := hr a (List.mem_cons_self ..)
          obtain ⟨w1, t1⟩ := visit_inv hd f a.toNat s (by omega) (by omega) hi
          have w1' : Went ts k s (visit ts f a.toNat s) := ⟨w1.inv, w1.ext, fun j hj => w1.up j (by omega)⟩
          rw [List.foldl_cons]
          obtain ⟨w2, t2⟩ := ih _ (fun b hb => hr b (List.mem_cons_of_mem _ hb)) w1.inv
          refine ⟨w1'.trans w2, fun b hb => ?_⟩
          rcases List.mem_cons.1 hb with rfl | hb
          · exact w2.ext.told t1
          · exact t2 b hb
      obtain ⟨w1, t1⟩ := key _ s (hd k hk) hi
      have hu : ¬ ((nd ts k).args.foldl (fun s a => visit ts f a.toNat s) s).told k := by rw [told_of_no (w1.up k (Nat.le_refl _))]; exact ht
      obtain ⟨i2, e2, t2⟩ := tell_inv hd w1.inv hk hu t1
      exact ⟨⟨i2, w1.ext.trans e2, fun j hj => by rw [tell_up (by omega), w1.up j (by omega)]⟩, t2⟩
theorem visit_fuel {ts : List Nd} (hd : Down ts) : ∀ (f k : Nat) (s : St), k < f → k < ts.length → visit ts f k s = vis ts k s
  | 0, k, s, h, _ => absurd h (by omega)
  | f + 1, k, s, hf, hk => by
    unfold vis
    unfold visit
    by_cases ht : s.told k
    · rw [if_pos ht, if_pos ht]
    · rw [if_neg ht, if_neg ht]
      have key : ∀ (l : List Int) (s : St), (∀ a ∈ l, 0 ≤ a ∧ a < k) → l.foldl (fun s a => visit ts f a.toNat s) s = l.foldl (fun s a => visit ts k a.toNat s) s := by
        intro l
        induction l with
        | nil => intro s _; rfl
        | cons a l ih =>
          intro s hr
          have ha := hr a (List.mem_cons_self ..)
          rw [List.foldl_cons, List.foldl_cons, visit_fuel hd f a.toNat s (by omega) (by omega), visit_fuel hd k a.toNat s (by omega) (by omega)]
          exact ih _ (fun b hb => hr b (List.mem_cons_of_mem _ hb))
      rw [key _ s (hd k hk)]
theorem vis_eq {ts : List Nd} (hd : Down ts) {k : Nat} (hk : k < ts.length) (s : St) : vis ts k s = if s.told k then s else tell ts k ((nd ts k).args.foldl (fun s a => vis ts a.toNat s) s) := by
  unfold vis
  conv => lhs; unfold visit
  have key : ∀ (l : List Int) (s : St), (∀ a ∈ l, 0 ≤ a ∧ a < k) → l.foldl (fun s a => visit ts k a.toNat s) s = l.foldl (fun s a => visit ts (a.toNat + 1) a.toNat s) s := by
    intro l
    induction l with
    | nil => intro s _; rfl
    | cons a l ih =>
      intro s hr
      have ha := hr a (List.mem_cons_self ..)
      rw [List.foldl_cons, List.foldl_cons, visit_fuel hd k a.toNat s (by omega) (by omega)]
      exact ih _ (fun b hb => hr b (List.mem_cons_of_mem _ hb))
  rw [key _ s (hd k hk)]
theorem vis_inv {ts : List Nd} (hd : Down ts) {k : Nat} (hk : k < ts.length) {s : St} (hi : Inv ts s) : Went ts (k + 1) s (vis ts k s) ∧ (vis ts k s).told k := visit_inv hd (k + 1) k s (by omega) hk hi
/-! ### the walk with a stack -/
def missing (s : St) (l : List Int) : Option Int := l.find? fun a => decide (s.no a.toNat < 0)
def stp (ts : List Nd) : List Nat × St → List Nat × St
  | ([], s) => ([], s)
  | (n :: rest, s) => match missing s (nd ts n).args with
    | some a => (a.toNat :: n :: rest, s)
    | none => (rest, tell ts n s)
def runS (ts : List Nd) : Nat → List Nat × St → List Nat × St
  | 0, c => c
  | t + 1, c => runS ts t (stp ts c)
theorem runS_add (ts : List Nd) : ∀ (a b : Nat) (c : List Nat × St), runS ts (a + b) c = runS ts b (runS ts a c)
  | 0, b, c => by rw [Nat.zero_add]; rfl
  | a + 1, b, c => by rw [show a + 1 + b = (a + b) + 1 by omega]; exact runS_add ts a b (stp ts c)
theorem stp_some {ts : List Nd} {n : Nat} {rest : List Nat} {s : St} {a : Int} (h : missing s (nd ts n).args = some a) : stp ts (n :: rest, s) = (a.toNat :: n :: rest, s) := by simp only [stp, h]
theorem stp_none {ts : List Nd} {n : Nat} {rest : List Nat} {s : St} (h : missing s (nd ts n).args = none) : stp ts (n :: rest, s) = (rest, tell ts n s) := by simp only [stp, h]
theorem runS_one (ts : List Nd) (c : List Nat × St) : runS ts 1 c = stp ts c := rfl
theorem missing_none {s : St} {l : List Int} : (∀ a ∈ l, s.told a.toNat) → missing s l = none := by
  intro h
  unfold missing
  rw [List.find?_eq_none]
  intro a ha
  have := h a ha
  unfold St.told at this
  simp; omega
theorem missing_first {s : St} {p q : List Int} {a : Int} (hp : ∀ b ∈ p, s.told b.toNat) (ha : ¬ s.told a.toNat) : missing s (p ++ a :: q) = some a := by
  unfold missing
  rw [List.find?_append, show List.find? (fun a => decide (s.no a.toNat < 0)) p = none from missing_none hp]
  unfold St.told at ha
  rw [List.find?_cons_of_pos (by simp; omega)]; rfl
theorem run_vis {ts : List Nd} (hd : Down ts) : ∀ (k : Nat) (s : St) (rest : List Nat), k < ts.length → Inv ts s → ¬ s.told k → ∃ T, runS ts T (k :: rest, s) = (rest, vis ts k s) := by
  intro k
  induction k using Nat.strongRecOn with
  | _ k ih =>
    intro s rest hk hi hu
    have key : ∀ (q p : List Int) (s : St), p ++ q = (nd ts k).args → (∀ b ∈ p, s.told b.toNat) → Inv ts s → ∃ T, runS ts T (k :: rest, s) = (k :: rest, q.foldl (fun s a => vis ts a.toNat s) s) ∧ ∀ b ∈ (nd ts k).args, (q.foldl (fun s a => vis ts a.toNat s) s).told b.toNat := by
      intro q
      induction q with
      | nil => intro p s hpq hp hi; exact ⟨0, rfl, by rw [← hpq, List.append_nil]; exact hp⟩
      | cons a q ihq =>
        intro p s hpq hp hi
        have hak := hd k hk a (by rw [← hpq]; simp)
        obtain ⟨w1, t1⟩ := vis_inv hd (show a.toNat < ts.length by omega) hi
        have hp' : ∀ b ∈ p ++ [a], (vis ts a.toNat s).told b.toNat := by
          intro b hb
          rcases List.mem_append.1 hb with hb | hb
          · exact w1.ext.told (hp b hb)
          · simp at hb; subst hb; exact t1
        obtain ⟨T2, r2, t2⟩ := ihq (p ++ [a]) (vis ts a.toNat s) (by rw [List.append_assoc]; exact hpq) hp' w1.inv
        by_cases ha : s.told a.toNat
        · have e : vis ts a.toNat s = s := by rw [vis_eq hd (by omega), if_pos ha]
          rw [e] at r2 t2
          refine ⟨T2, ?_, ?_⟩
          · rw [r2, List.foldl_cons, e]
          · rw [List.foldl_cons, e]; exact t2
        · obtain ⟨T1, r1⟩ := ih a.toNat (by omega) s (k :: rest) (by omega) hi ha
          refine ⟨1 + (T1 + T2), ?_, ?_⟩
          · rw [runS_add]
            rw [runS_one, stp_some (by rw [← hpq]; exact missing_first hp ha), runS_add, r1, r2, List.foldl_cons]
          · rw [List.foldl_cons]; exact t2
    obtain ⟨T, r, t⟩ := key _ [] s rfl (fun b hb => by cases hb) hi
    refine ⟨T + 1, ?_⟩
    rw [runS_add, r, runS_one, stp_none (missing_none t), vis_eq hd hk, if_neg hu]
theorem runS_end {ts : List Nd} {c : List Nat × St} {s' : St} : ∀ (T : Nat), runS ts T c = ([], s') → ∃ T0, T0 ≤ T ∧ runS ts T0 c = ([], s') ∧ ∀ t, t < T0 → (runS ts t c).1 ≠ []
  | 0, h => ⟨0, Nat.le_refl _, h, fun t ht => absurd ht (by omega)⟩
  | T + 1, h => by
    by_cases e : (runS ts T c).1 = []
    · have h2 : runS ts (T + 1) c = runS ts T c := by
        rw [runS_add, runS_one]
        generalize runS ts T c = d at *
        obtain ⟨d1, d2⟩ := d
        simp only at e
        subst e
        rfl
      obtain ⟨T0, h3, h4, h5⟩ := runS_end T (by rw [← h2]; exact h)
      exact ⟨T0, by omega, h4, h5⟩
    · by_cases a : ∃ t, t < T + 1 ∧ (runS ts t c).1 = []
      · obtain ⟨t, ht, h1⟩ := a
        have : ∀ d, runS ts (t + d) c = runS ts t c := by
          intro d
          induction d with
          | zero => rfl
          | succ d ih =>
            rw [← Nat.add_assoc, runS_add, runS_one, ih]
            generalize runS ts t c = x at *
            obtain ⟨x1, x2⟩ := x
            simp only at h1
            subst h1
            rfl
        have h6 := this (T - t)
        rw [show t + (T - t) = T by omega] at h6
        rw [h6] at e
        exact absurd h1 e
      · exact ⟨T + 1, Nat.le_refl _, h, fun t ht e2 => a ⟨t, ht, e2⟩⟩
def st0 (ts : List Nd) : St := ⟨[], List.replicate ts.length (-1)⟩
theorem st0_told (ts : List Nd) (k : Nat) : ¬ (st0 ts).told k := by
  unfold St.told St.no st0
  rw [List.getD_eq_getElem?_getD, List.getElem?_replicate]
  split <;> simp
theorem st0_inv (ts : List Nd) : Inv ts (st0 ts) :=
  ⟨by simp [st0], fun k h => absurd h (st0_told ts k), fun k h => absurd h (st0_told ts k), fun k h => absurd h (st0_told ts k), by simp [st0], (fun i h => by simp [st0] at h), fun i h => by simp [st0] at h⟩
def shr (ts : List Nd) (k : Nat) : List Nd := (vis ts k (st0 ts)).out
theorem vis_top {ts : List Nd} (hd : Down ts) : ∀ (k : Nat) (s : St), k < ts.length → Inv ts s → ∀ j, (vis ts k s).told j → s.told j ∨ (vis ts k s).no j ≤ (vis ts k s).no k := by
  intro k
  induction k using Nat.strongRecOn with
  | _ k ih =>
    intro s hk hi j hj
    have hw := vis_inv hd hk hi
    by_cases ht : s.told k
    · rw [vis_eq hd hk, if_pos ht] at hj; exact Or.inl hj
    have key : ∀ (l : List Int) (s : St), (∀ a ∈ l, 0 ≤ a ∧ a < k) → Inv ts s → Inv ts (l.foldl (fun s a => vis ts a.toNat s) s) ∧ Ext s (l.foldl (fun s a => vis ts a.toNat s) s) ∧ ∀ j, (l.foldl (fun s a => vis ts a.toNat s) s).told j → s.told j ∨ ∃ a ∈ l, (l.foldl (fun s a => vis ts a.toNat s) s).told a.toNat ∧ (l.foldl (fun s a => vis ts a.toNat s) s).no j ≤ (l.foldl (fun s a => vis ts a.toNat s) s).no a.toNat := by
      intro l
      induction l with
      | nil => intro s _ hi; exact ⟨hi, Ext.refl s, fun j h => Or.inl h⟩
      | cons a l ihl =>
        intro s hr hi
        have ha := hr a (List.mem_cons_self ..)
        obtain ⟨w1, t1⟩ := vis_inv hd (show a.toNat < ts.length by omega) hi
        obtain ⟨i2, e2, h2⟩ := ihl (vis ts a.toNat s) (fun b hb => hr b (List.mem_cons_of_mem _ hb)) w1.inv
        rw [List.foldl_cons]
        refine ⟨i2, w1.ext.trans e2, fun j hj => ?_⟩
        rcases h2 j hj with h | ⟨b, hb, h3, h4⟩
        · rcases ih a.toNat (by omega) s (by omega) hi j h with h5 | h5
          · exact Or.inl h5
          · refine Or.inr ⟨a, List.mem_cons_self .., e2.told t1, ?_⟩
            rw [e2.no j h, e2.no _ t1]; exact h5
        · exact Or.inr ⟨b, List.mem_cons_of_mem _ hb, h3, h4⟩
    obtain ⟨i1, e1, h1⟩ := key _ s (hd k hk) hi
    by_cases e : j = k
    · subst e; exact Or.inr (Int.le_refl _)
    have hv : vis ts k s = tell ts k ((nd ts k).args.foldl (fun s a => vis ts a.toNat s) s) := by rw [vis_eq hd hk, if_neg ht]
    have hno : ∀ i, i ≠ k → (vis ts k s).no i = ((nd ts k).args.foldl (fun s a => vis ts a.toNat s) s).no i := fun i hi => by rw [hv]; exact no_tell_ne (fun e => hi e.symm)
    have hj1 : ((nd ts k).args.foldl (fun s a => vis ts a.toNat s) s).told j := by unfold St.told at *; rw [hno j e] at hj; exact hj
    rcases h1 j hj1 with h | ⟨a, ha, h3, h4⟩
    · exact Or.inl h
    · right
      have hak := hd k hk a ha
      have hlow := hw.1.inv.low ((vis ts k s).no k).toNat (by have := hw.1.inv.rng k hw.2; have h0 : 0 ≤ (vis ts k s).no k := hw.2; omega) ((vis ts k s).no a.toNat) (by
        rw [hw.1.inv.node k hw.2]
        exact List.mem_map.2 ⟨a, ha, rfl⟩)
      have h0 : 0 ≤ (vis ts k s).no k := hw.2
      rw [hno a.toNat (by omega)] at hlow
      rw [hno j e]
      omega
theorem shr_root {ts : List Nd} (hd : Down ts) {k : Nat} (hk : k < ts.length) : (vis ts k (st0 ts)).no k = ((shr ts k).length : Int) - 1 ∧ 1 ≤ (shr ts k).length := by
  obtain ⟨w, t⟩ := vis_inv hd hk (st0_inv ts)
  have h1 := w.inv.rng k t
  have h0 : 0 ≤ (vis ts k (st0 ts)).no k := t
  have hlen : (shr ts k).length = (vis ts k (st0 ts)).out.length := rfl
  rw [hlen]
  refine ⟨?_, by omega⟩
  obtain ⟨j, hj, hn⟩ := w.inv.src ((vis ts k (st0 ts)).out.length - 1) (by omega)
  rcases vis_top hd k (st0 ts) hk (st0_inv ts) j hj with h | h
  · exact absurd h (st0_told ts j)
  · omega
/-! ### shared again it is the same -/
theorem Ext.len {s s' : St} (h : Ext s s') : s.out.length ≤ s'.out.length ∧ s.out = s'.out.take s.out.length := by
  obtain ⟨l, hl⟩ := h.out
  rw [hl]
  simp
end Go.Proofs.YtgcfadnnajahhaaGreatDoor
namespace Go.Proofs.YtgcfadnnajahhaaGreatDoor
open Go.Lib
set_option linter.unusedVariables false
set_option linter.unusedSimpArgs false
def isDg (c : UInt8) : Prop := 48 ≤ c.toNat ∧ c.toNat ≤ 57
def dgV (l : List UInt8) : Nat := l.foldl (fun n c => n * 10 + (c.toNat - 48)) 0
theorem dgV_dec (u : Nat) : dgV (decDigits u) = u ∧ ∀ c ∈ decDigits u, isDg c := by
  induction u using Nat.strongRecOn with
  | _ u ih =>
    have hb : ∀ d, d < 10 → (UInt8.ofNat (48 + d)).toNat = 48 + d := fun d hd => by
      simp [UInt8.ofNat, UInt8.toNat]; omega
    rw [decDigits]
    by_cases h : u < 10
    · rw [dif_pos h]
      refine ⟨?_, fun c hc => ?_⟩
      · unfold dgV; simp only [List.foldl_cons, List.foldl_nil]; rw [hb u h]; omega
      · rw [List.mem_singleton] at hc; subst hc; unfold isDg; rw [hb u h]; omega
    · rw [dif_neg h]
      obtain ⟨i1, i2⟩ := ih (u / 10) (by omega)
      refine ⟨?_, fun c hc => ?_⟩
      · unfold dgV at i1 ⊢; rw [List.foldl_append, i1]; simp only [List.foldl_cons, List.foldl_nil]; rw [hb _ (by omega)]; omega
      · rcases List.mem_append.1 hc with hc | hc
        · exact i2 c hc
        · rw [List.mem_singleton] at hc; subst hc; unfold isDg; rw [hb _ (by omega)]; omega
theorem dec_inj {a b : Nat} (h : decDigits a = decDigits b) : a = b := by rw [← (dgV_dec a).1, h, (dgV_dec b).1]
theorem dec_dg (u : Nat) : ∀ c ∈ decDigits u, isDg c := (dgV_dec u).2
def RestD (r : List UInt8) : Prop := ∀ c, r.head? = some c → ¬ isDg c
theorem RestD.nil : RestD [] := fun c h => by cases h
theorem RestD.cons {c : UInt8} {r : List UInt8} (h : ¬ isDg c) : RestD (c :: r) := fun d e => by cases e; exact h
theorem cut_dg : ∀ (l m r s : List UInt8), (∀ c ∈ l, isDg c) → (∀ c ∈ m, isDg c) → RestD r → RestD s → l ++ r = m ++ s → l = m ∧ r = s
  | [], [], r, s, _, _, _, _, h => ⟨rfl, h⟩
  | [], c :: m, r, s, _, h2, h3, _, h => absurd (h2 c (by simp)) (h3 c (by rw [show r = c :: (m ++ s) from h]; rfl))
  | c :: l, [], r, s, h1, _, _, h4, h => absurd (h1 c (by simp)) (h4 c (by rw [show s = c :: (l ++ r) from h.symm]; rfl))
  | c :: l, d :: m, r, s, h1, h2, h3, h4, h => by
    injection h with e1 e2
    obtain ⟨e3, e4⟩ := cut_dg l m r s (fun c hc => h1 c (by simp [hc])) (fun c hc => h2 c (by simp [hc])) h3 h4 e2
    exact ⟨by rw [e1, e3], e4⟩
theorem cut_dec {a b : Nat} {r s : List UInt8} (hr : RestD r) (hs : RestD s) (h : decDigits a ++ r = decDigits b ++ s) : a = b ∧ r = s := by
  obtain ⟨e1, e2⟩ := cut_dg _ _ _ _ (dec_dg a) (dec_dg b) hr hs h
  exact ⟨dec_inj e1, e2⟩
def argT (l : List Int) : List UInt8 := l.flatMap fun a => 44 :: decDigits a.toNat
theorem argT_rest (l : List Int) : RestD (argT l) := by
  cases l with
  | nil => exact RestD.nil
  | cons a l => exact RestD.cons (by unfold isDg; decide)
theorem argT_inj : ∀ (l m : List Int), (∀ a ∈ l, 0 ≤ a) → (∀ a ∈ m, 0 ≤ a) → argT l = argT m → l = m
  | [], [], _, _, _ => rfl
  | [], b :: m, _, _, h => by cases h
  | a :: l, [], _, _, h => by cases h
  | a :: l, b :: m, h1, h2, h => by
    injection h with _ h
    obtain ⟨e1, e2⟩ := cut_dec (argT_rest l) (argT_rest m) h
    have ha := h1 a (by simp)
    have hb := h2 b (by simp)
    have e3 := argT_inj l m (fun c hc => h1 c (by simp [hc])) (fun c hc => h2 c (by simp [hc])) e2
    rw [e3, show a = b by omega]
def immT (op : Int) : Bool := op == 0 || (op == 33 || op == 14)
def immW (x : Nd) : List UInt8 := if immT x.op then 46 :: decDigits x.imm.toNat else []
def ndT (x : Nd) : List UInt8 := decDigits x.op.toNat ++ 58 :: (decDigits x.width.toNat ++ (immW x ++ argT x.args))
structure TxN (x : Nd) : Prop where
  op : 0 ≤ x.op
  width : 0 ≤ x.width
  flags : x.flags = 0
  imm : 0 ≤ x.imm
  args : ∀ a ∈ x.args, 0 ≤ a
  none : immT x.op = false → x.imm = 0
theorem nd_ext {x y : Nd} (h1 : x.op = y.op) (h2 : x.width = y.width) (h3 : x.flags = y.flags) (h4 : x.args = y.args) (h5 : x.imm = y.imm) : x = y := by cases x; cases y; simp_all
theorem imm_rest (x : Nd) : RestD (immW x ++ argT x.args) := by
  unfold immW
  split
  · exact RestD.cons (by unfold isDg; decide)
  · exact argT_rest _
theorem ndT_inj {x y : Nd} (hx : TxN x) (hy : TxN y) (h : ndT x = ndT y) : x = y := by
  obtain ⟨e1, h⟩ := cut_dec (RestD.cons (by unfold isDg; decide)) (RestD.cons (by unfold isDg; decide)) h
  injection h with _ h
  obtain ⟨e2, h⟩ := cut_dec (imm_rest x) (imm_rest y) h
  have p1 := hx.op; have p2 := hy.op; have p3 := hx.width; have p4 := hy.width; have p5 := hx.imm; have p6 := hy.imm
  have o : x.op = y.op := by omega
  have wd : x.width = y.width := by omega
  have fl : x.flags = y.flags := hx.flags.trans hy.flags.symm
  unfold immW at h
  rw [o] at h
  cases hi : immT y.op
  · rw [hi] at h
    exact nd_ext o wd fl (argT_inj _ _ hx.args hy.args h) ((hx.none (by rw [o]; exact hi)).trans (hy.none hi).symm)
  · rw [hi] at h
    injection h with _ h
    obtain ⟨e3, h⟩ := cut_dec (argT_rest _) (argT_rest _) h
    exact nd_ext o wd fl (argT_inj _ _ hx.args hy.args h) (by omega)
def NoBl (l : List UInt8) : Prop := ∀ c ∈ l, c ≠ 32
theorem NoBl.app {l m : List UInt8} (h : NoBl l) (h' : NoBl m) : NoBl (l ++ m) := fun c hc => (List.mem_append.1 hc).elim (h c) (h' c)
theorem NoBl.cons {l : List UInt8} {d : UInt8} (hd : d ≠ 32) (h : NoBl l) : NoBl (d :: l) := fun c hc => (List.mem_cons.1 hc).elim (fun e => by rw [e]; exact hd) (h c)
theorem dec_nobl (u : Nat) : NoBl (decDigits u) := fun c hc e => by
  have := dec_dg u c hc
  rw [e] at this
  unfold isDg at this
  revert this; decide
theorem argT_nobl : ∀ (l : List Int), NoBl (argT l)
  | [] => fun c hc => by cases hc
  | a :: l => ((dec_nobl a.toNat).cons (by decide)).app (argT_nobl l)
theorem ndT_nobl (x : Nd) : NoBl (ndT x) := by
  unfold ndT immW
  refine (dec_nobl _).app (NoBl.cons (by decide) ((dec_nobl _).app (NoBl.app ?_ (argT_nobl _))))
  split
  · exact (dec_nobl _).cons (by decide)
  · exact fun c hc => by cases hc
def joinB : List (List UInt8) → List UInt8
  | [] => []
  | [u] => u
  | u :: v :: l => u ++ 32 :: joinB (v :: l)
theorem cut_bl : ∀ (l m r s : List UInt8), NoBl l → NoBl m → (r = [] ∨ r.head? = some 32) → (s = [] ∨ s.head? = some 32) → l ++ r = m ++ s → l = m ∧ r = s
  | [], [], r, s, _, _, _, _, h => ⟨rfl, h⟩
  | [], c :: m, r, s, _, h2, h3, _, h => by
    have e : r = c :: (m ++ s) := h
    rcases h3 with h3 | h3
    · rw [h3] at e; cases e
    · rw [e] at h3
      injection h3 with h3
      exact absurd h3 (h2 c (by simp))
  | c :: l, [], r, s, h1, _, _, h4, h => by
    have e : s = c :: (l ++ r) := h.symm
    rcases h4 with h4 | h4
    · rw [h4] at e; cases e
    · rw [e] at h4
      injection h4 with h4
      exact absurd h4 (h1 c (by simp))
  | c :: l, d :: m, r, s, h1, h2, h3, h4, h => by
    injection h with e1 e2
    obtain ⟨e3, e4⟩ := cut_bl l m r s (fun c hc => h1 c (by simp [hc])) (fun c hc => h2 c (by simp [hc])) h3 h4 e2
    exact ⟨by rw [e1, e3], e4⟩
theorem joinB_inj : ∀ (l m : List (List UInt8)), l ≠ [] → m ≠ [] → (∀ u ∈ l, NoBl u) → (∀ u ∈ m, NoBl u) → joinB l = joinB m → l = m
  | [], _, h, _, _, _, _ => absurd rfl h
  | _ :: _, [], _, h, _, _, _ => absurd rfl h
  | [u], [v], _, _, _, _, h => by rw [show u = v from h]
  | [u], v :: v' :: m, _, _, h1, h2, h => by
    obtain ⟨_, e⟩ := cut_bl u v [] (32 :: joinB (v' :: m)) (h1 u (by simp)) (h2 v (by simp)) (.inl rfl) (.inr rfl) (by rw [List.append_nil]; exact h)
    cases e
  | u :: u' :: l, [v], _, _, h1, h2, h => by
    obtain ⟨_, e⟩ := cut_bl u v (32 :: joinB (u' :: l)) [] (h1 u (by simp)) (h2 v (by simp)) (.inr rfl) (.inl rfl) (by rw [List.append_nil]; exact h)
    cases e
  | u :: u' :: l, v :: v' :: m, _, _, h1, h2, h => by
    obtain ⟨e1, e2⟩ := cut_bl u v (32 :: joinB (u' :: l)) (32 :: joinB (v' :: m)) (h1 u (by simp)) (h2 v (by simp)) (.inr rfl) (.inr rfl) h
    injection e2 with _ e2
    rw [e1, joinB_inj (u' :: l) (v' :: m) (by simp) (by simp) (fun w hw => h1 w (by simp [hw])) (fun w hw => h2 w (by simp [hw])) e2]
def txtL (l : List Nd) : List UInt8 := joinB (l.map ndT)
theorem map_inj {l m : List Nd} (h1 : ∀ x ∈ l, TxN x) (h2 : ∀ x ∈ m, TxN x) (h : l.map ndT = m.map ndT) : l = m := by
  induction l generalizing m with
  | nil => cases m with
    | nil => rfl
    | cons y m => cases h
  | cons x l ih => cases m with
    | nil => cases h
    | cons y m =>
      injection h with e1 e2
      rw [ndT_inj (h1 x (by simp)) (h2 y (by simp)) e1, ih (fun z hz => h1 z (by simp [hz])) (fun z hz => h2 z (by simp [hz])) e2]
theorem txt_iff {l m : List Nd} (hl : l ≠ []) (hm : m ≠ []) (h1 : ∀ x ∈ l, TxN x) (h2 : ∀ x ∈ m, TxN x) : txtL l = txtL m ↔ l = m := by
  refine ⟨fun h => map_inj h1 h2 (joinB_inj _ _ (by simpa using hl) (by simpa using hm) ?_ ?_ h), fun h => by rw [h]⟩
  · intro u hu; obtain ⟨x, _, rfl⟩ := List.mem_map.1 hu; exact ndT_nobl x
  · intro u hu; obtain ⟨x, _, rfl⟩ := List.mem_map.1 hu; exact ndT_nobl x
end Go.Proofs.YtgcfadnnajahhaaGreatDoor
namespace Go.Proofs
open Go.Shelf Go.RowKit
def Tryz.itoaL_ren : Go.Shelf.Ren := ⟨fun | 171 => 51 | 243 => 93 | 246 => 125 | 283 => 149 | 284 => 150 | 285 => 151 | 286 => 152 | 129 => 166 | 317 => 165 | 318 => 167 | 319 => 168 | 320 => 169 | 337 => 112 | 338 => 196 | n => n, fun | 3 => 3 | 9 => 9 | 2 => 2 | 4 => 4 | 171 => 197 | 0 => 0 | 53 => 150 | 37 => 138 | 5 => 5 | 173 => 200 | 212 => 213 | 51 => 31 | 20 => 20 | 213 => 214 | 46 => 167 | 232 => 192 | 233 => 223 | n => n, fun | 17 => 1 | 18 => 0 | 19 => 3 | n => n⟩
theorem Tryz.itoaL : Go.Proofs.LaysM.n171 Tryz.prog Tryz.itoaL_ren := {
  mixed := by kernel_rfl
  f129 := Tryz.func166.trans (congrArg some (by kernel_rfl))
  f171 := Tryz.func51.trans (congrArg some (by kernel_rfl))
  f243 := Tryz.func93.trans (congrArg some (by kernel_rfl))
  f246 := Tryz.func125.trans (congrArg some (by kernel_rfl))
  f283 := Tryz.func149.trans (congrArg some (by kernel_rfl))
  f284 := Tryz.func150.trans (congrArg some (by kernel_rfl))
  f285 := Tryz.func151.trans (congrArg some (by kernel_rfl))
  f286 := Tryz.func152.trans (congrArg some (by kernel_rfl))
  f317 := Tryz.func165.trans (congrArg some (by kernel_rfl))
  f318 := Tryz.func167.trans (congrArg some (by kernel_rfl))
  f319 := Tryz.func168.trans (congrArg some (by kernel_rfl))
  f320 := Tryz.func169.trans (congrArg some (by kernel_rfl))
  f337 := Tryz.func112.trans (congrArg some (by kernel_rfl))
  f338 := Tryz.func196.trans (congrArg some (by kernel_rfl))
  t0 := Tryz.underlying0
  a0 := Tryz.isAgg0
  z0 := Tryz.sizeOf0
  v0 := Tryz.zeroValue0
  t2 := Tryz.underlying2
  a2 := Tryz.isAgg2
  z2 := Tryz.sizeOf2
  v2 := Tryz.zeroValue2
  t3 := Tryz.underlying3
  a3 := Tryz.isAgg3
  z3 := Tryz.sizeOf3
  v3 := Tryz.zeroValue3
  t4 := Tryz.underlying4
  a4 := Tryz.isAgg4
  z4 := Tryz.sizeOf4
  v4 := Tryz.zeroValue4
  t5 := Tryz.underlying5
  a5 := Tryz.isAgg5
  z5 := Tryz.sizeOf5
  v5 := Tryz.zeroValue5
  t9 := Tryz.underlying9
  a9 := Tryz.isAgg9
  z9 := Tryz.sizeOf9
  v9 := Tryz.zeroValue9
  t20 := Tryz.underlying20
  a20 := Tryz.isAgg20
  z20 := Tryz.sizeOf20
  v20 := Tryz.zeroValue20
  t37 := Tryz.underlying138
  a37 := Tryz.isAgg138
  z37 := Tryz.sizeOf138
  v37 := Tryz.zeroValue138
  t46 := Tryz.underlying167
  a46 := Tryz.isAgg167
  z46 := Tryz.sizeOf167
  v46 := Tryz.zeroValue167
  t51 := Tryz.underlying31
  a51 := Tryz.isAgg31
  z51 := Tryz.sizeOf31
  v51 := Tryz.zeroValue31
  t53 := Tryz.underlying150
  a53 := Tryz.isAgg150
  z53 := Tryz.sizeOf150
  v53 := Tryz.zeroValue150
  t171 := Tryz.underlying197
  a171 := Tryz.isAgg197
  z171 := Tryz.sizeOf197
  v171 := Tryz.zeroValue197
  t173 := Tryz.underlying200
  a173 := Tryz.isAgg200
  z173 := Tryz.sizeOf200
  v173 := Tryz.zeroValue200
  t212 := Tryz.underlying213
  a212 := Tryz.isAgg213
  z212 := Tryz.sizeOf213
  v212 := Tryz.zeroValue213
  t213 := Tryz.underlying214
  a213 := Tryz.isAgg214
  z213 := Tryz.sizeOf214
  t232 := Tryz.underlying192
  a232 := Tryz.isAgg192
  z232 := Tryz.sizeOf192
  v232 := Tryz.zeroValue192
  t233 := Tryz.underlying223
  a233 := Tryz.isAgg223
  z233 := Tryz.sizeOf223
  v233 := Tryz.zeroValue223
  g17 := by kernel_rfl
  g18 := by kernel_rfl
  g19 := by kernel_rfl
  i0 := by kernel_rfl
  i2 := by kernel_rfl
  i3 := by kernel_rfl
  i4 := by kernel_rfl
  i5 := by kernel_rfl
  i9 := by kernel_rfl
  i20 := by kernel_rfl
  i37 := by kernel_rfl
  i46 := by kernel_rfl
  i51 := by kernel_rfl
  i53 := by kernel_rfl
  i171 := by kernel_rfl
  i173 := by kernel_rfl
  i212 := by kernel_rfl
  i232 := by kernel_rfl
  i233 := by kernel_rfl
  m17 := by kernel_rfl
  m18 := by kernel_rfl
  m19 := by kernel_rfl }
def Tryz.joinL_ren : Go.Shelf.Ren := ⟨fun | 156 => 52 | 165 => 94 | 166 => 95 | 169 => 96 | 240 => 126 | 241 => 127 | 276 => 153 | 277 => 154 | n => n, fun | 31 => 94 | 9 => 9 | 3 => 3 | 4 => 4 | 0 => 0 | 20 => 20 | 72 => 140 | 76 => 144 | 70 => 137 | 37 => 138 | 75 => 143 | 127 => 178 | 164 => 202 | 5 => 5 | 80 => 146 | n => n, fun | n => n⟩
theorem Tryz.joinL : Go.Proofs.Lays.n156 Tryz.prog Tryz.joinL_ren := {
  mixed := by kernel_rfl
  f156 := Tryz.func52.trans (congrArg some (by kernel_rfl))
  f165 := Tryz.func94.trans (congrArg some (by kernel_rfl))
  f166 := Tryz.func95.trans (congrArg some (by kernel_rfl))
  f169 := Tryz.func96.trans (congrArg some (by kernel_rfl))
  f240 := Tryz.func126.trans (congrArg some (by kernel_rfl))
  f241 := Tryz.func127.trans (congrArg some (by kernel_rfl))
  f276 := Tryz.func153.trans (congrArg some (by kernel_rfl))
  f277 := Tryz.func154.trans (congrArg some (by kernel_rfl))
  t0 := Tryz.underlying0
  a0 := Tryz.isAgg0
  z0 := Tryz.sizeOf0
  v0 := Tryz.zeroValue0
  t3 := Tryz.underlying3
  a3 := Tryz.isAgg3
  z3 := Tryz.sizeOf3
  v3 := Tryz.zeroValue3
  t4 := Tryz.underlying4
  a4 := Tryz.isAgg4
  z4 := Tryz.sizeOf4
  v4 := Tryz.zeroValue4
  t9 := Tryz.underlying9
  a9 := Tryz.isAgg9
  z9 := Tryz.sizeOf9
  v9 := Tryz.zeroValue9
  t20 := Tryz.underlying20
  a20 := Tryz.isAgg20
  z20 := Tryz.sizeOf20
  v20 := Tryz.zeroValue20
  t31 := Tryz.underlying94
  a31 := Tryz.isAgg94
  z31 := Tryz.sizeOf94
  v31 := Tryz.zeroValue94
  t37 := Tryz.underlying138
  a37 := Tryz.isAgg138
  z37 := Tryz.sizeOf138
  v37 := Tryz.zeroValue138
  t70 := Tryz.underlying137
  a70 := Tryz.isAgg137
  z70 := Tryz.sizeOf137
  v70 := Tryz.zeroValue137
  t72 := Tryz.underlying140
  a72 := Tryz.isAgg140
  z72 := Tryz.sizeOf140
  v72 := Tryz.zeroValue140
  t75 := Tryz.underlying143
  a75 := Tryz.isAgg143
  z75 := Tryz.sizeOf143
  v75 := Tryz.zeroValue143
  t76 := Tryz.underlying144
  a76 := Tryz.isAgg144
  z76 := Tryz.sizeOf144
  v76 := Tryz.zeroValue144
  t127 := Tryz.underlying178
  a127 := Tryz.isAgg178
  z127 := Tryz.sizeOf178
  v127 := Tryz.zeroValue178
  t164 := Tryz.underlying202
  a164 := Tryz.isAgg202
  z164 := Tryz.sizeOf202
  v164 := Tryz.zeroValue202 }
end Go.Proofs
namespace Go.Proofs.YtgcfadnnajahhaaGreatDoor
open Go.RowKit Go.Lib Go.Shelf
set_option linter.unusedVariables false
set_option linter.unusedSimpArgs false
theorem extraB : Builder.Extra Tryz.prog Tryz.joinL_ren := {
  sizeBuilder := by kernel_rfl
  liesBuilder := by kernel_rfl
  t5 := Tryz.itoaL.t5
  a5 := Tryz.itoaL.a5
  z5 := Tryz.itoaL.z5
  v5 := Tryz.itoaL.v5
  infoByte := by kernel_rfl
  cellsByte := by kernel_rfl
  sizeByte := by kernel_rfl
  neB5 := by decide }
def Tab10 (w : World) : Prop := Lib.TabIs Tryz.prog w "internal/strconv.uint64pow10" .u64 Lib.pow10Tab
theorem tab10_stays {w W : World} (h : Tab10 w) (hb : Below w.heap.size w W) : Tab10 W := by
  unfold Tab10 Lib.TabIs World.var? at *
  cases hg : Tryz.prog.globalNamed "internal/strconv.uint64pow10" with
  | none => simp [hg] at h
  | some g =>
    simp only [hg, Option.bind_some] at h ⊢
    have hlt : g < w.heap.size := by
      rcases Nat.lt_or_ge g w.heap.size with h' | h'
      · exact h'
      · rw [Array.getElem?_eq_none h'] at h; simp at h
    rw [hb.block g hlt]
    exact h
theorem itoa_any (n : Int) (w : World) (h0 : 0 ≤ n) (h1 : n ≤ 9223372036854775807) (hT : Tab10 w) : Calls Tryz.prog 51 #[.int .i64 n] w fun e w' => e = .returned (.string ⟨(decDigits n.toNat).toArray⟩) ∧ Below w.heap.size w w' :=
  (Any.strconv_Itoa Tryz.itoaL n (by omega) h1 w hT).mono fun e w' h => by
    obtain ⟨he, k, os, rfl⟩ := h
    refine ⟨by rw [he]; unfold itoa; rw [if_neg (by omega)], rfl, rfl, rfl, ?_, fun k hk => ?_⟩
    · rw [Go.Sort.size_grow]; show w.heap.size ≤ w.heap.size + _; omega
    · exact Go.Sort.heap_grow_old _ os hk
theorem joinB_eq : ∀ (l : List (List UInt8)), Lib.join l [32] = joinB l
  | [] => rfl
  | [u] => Lib.join_one u [32]
  | u :: v :: l => by
    rw [Lib.join_cons]
    show u ++ (([32] ++ v) ++ joinTail [32] l) = u ++ 32 :: joinB (v :: l)
    rw [← joinB_eq (v :: l), Lib.join_cons]
    simp
theorem join_any (bk o c : Nat) (xs : List (List UInt8)) (w : World) (hc : ∀ (j : Nat) x, xs[j]? = some x → w.cell? ⟨bk, o + j, none⟩ = some (.string ⟨x.toArray⟩)) (hbk : bk < w.heap.size) (hN : xs.length ≤ 140737488355328) (hcap : xs.length ≤ c) (hl : (joinB xs).length ≤ 140737488355328) :
    Calls Tryz.prog 52 #[.slice (some ⟨bk, o, none⟩) xs.length c, .string ⟨#[32]⟩] w fun e w' => e = .returned (.string ⟨(joinB xs).toArray⟩) ∧ Below w.heap.size w w' := by
  have em : (xs.map fun l => (⟨l.toArray⟩ : ByteArray)).map (·.data.toList) = xs := by
    rw [List.map_map]
    exact (List.map_congr_left fun l _ => by simp).trans (List.map_id xs)
  have h := Any.strings_Join Tryz.joinL extraB bk o c (xs.map fun l => (⟨l.toArray⟩ : ByteArray)) ⟨#[32]⟩ w (fun j x hx => by
    rw [List.getElem?_map] at hx
    obtain ⟨y, hy, rfl⟩ := Option.map_eq_some_iff.1 hx
    exact hc j y hy) hbk (by rw [List.length_map]; exact hN) (by rw [List.length_map]; exact hcap) (by rw [em]; show (Lib.join xs [32]).length ≤ _; rw [joinB_eq]; exact hl)
  rw [List.length_map, em] at h
  have e2 : Lib.join xs ((⟨#[32]⟩ : ByteArray).data.toList) = joinB xs := joinB_eq xs
  rw [e2] at h
  exact h
end Go.Proofs.YtgcfadnnajahhaaGreatDoor
namespace Go.Proofs.YtgcfadnnajahhaaGreatDoor
open Go.RowKit Go.Maps
set_option linter.unusedVariables false
set_option linter.unusedSimpArgs false
def ents (l : List (Value × Value)) : Array MapEntry := (l.mapIdx fun i p => (⟨p.1, p.2, i⟩ : MapEntry)).toArray
theorem mem_ents {l : List (Value × Value)} {e : MapEntry} (h : e ∈ (ents l).toList) : (e.key, e.val) ∈ l := by
  unfold ents at h
  simp only [List.mem_mapIdx] at h
  obtain ⟨i, hi, rfl⟩ := h
  exact List.getElem_mem hi
theorem ents_push (l : List (Value × Value)) (k v : Value) : (ents l).push ⟨k, v, l.length⟩ = ents (l ++ [(k, v)]) := by
  unfold ents
  simp
def MapIs (P : Program) (K : TypeId) (w : World) (r : Nat) (l : List (Value × Value)) : Prop :=
  r < w.heap.size ∧ mapAt w r = some (ents l, l.length) ∧ (∀ p ∈ l, ∃ q, keyOf P K p.1 = some q) ∧ (l.map (·.1)).Nodup
section
variable {P : Program} {t K E : TypeId} {w : World} {r : Nat} {l : List (Value × Value)}
theorem lookup_hit (law : Keyed P K) (ht : P.underlying t = some (.map K E)) (h : MapIs P K w r l) {k v : Value} {q : Lit} (hk : keyOf P K k = some q) (hm : (k, v) ∈ l) :
    (Instr.lookup t (.map (some r)) k true).run P w = .ok (.tuple #[v, .bool true]) w := by
  obtain ⟨_, h1, h2, h3⟩ := h
  have hb := mapAt_some h1
  have hfind := law.find w hk (ents l).toList (fun e he => h2 _ (mem_ents he))
  have hval : ∀ e ∈ (ents l).toList, e.key = k → e.val = v := by
    intro e he hek
    have hm2 := mem_ents he
    rw [hek] at hm2
    obtain ⟨i, hi, e1⟩ := List.getElem_of_mem hm
    obtain ⟨j, hj, e2⟩ := List.getElem_of_mem hm2
    have hij : i = j := by
      have hp := List.pairwise_iff_getElem.1 h3
      rcases Nat.lt_trichotomy i j with h | h | h
      · exact absurd (show (l.map (·.1))[i]'(by simpa using hi) = (l.map (·.1))[j]'(by simpa using hj) from by simp [e1, e2]) (hp i j (by simpa using hi) (by simpa using hj) h)
      · exact h
      · exact absurd (show (l.map (·.1))[j]'(by simpa using hj) = (l.map (·.1))[i]'(by simpa using hi) from by simp [e1, e2]) (hp j i (by simpa using hj) (by simpa using hi) h)
    subst hij
    rw [e1] at e2
    cases e2; rfl
  rcases hfind with ⟨_, hno⟩ | ⟨j, e, hrun, hj, hek⟩
  · exfalso
    obtain ⟨i, hi, e1⟩ := List.getElem_of_mem hm
    refine hno ⟨k, v, i⟩ ?_ rfl
    unfold ents
    simp only [List.mem_mapIdx]
    exact ⟨i, hi, by rw [e1]⟩
  · have hv := hval e (List.mem_of_getElem? hj) hek
    simp [Instr.lookup, run_underlying ht, MapKept.run_getObj_map hb, law.check w _ hk, hrun, hv, Result.andThen]
theorem lookup_miss (law : Keyed P K) (ht : P.underlying t = some (.map K E)) {z : Value} (hz : ∀ w, (zeroValue E).run P w = .ok z w) (h : MapIs P K w r l) {k : Value} {q : Lit} (hk : keyOf P K k = some q) (hm : ∀ p ∈ l, p.1 ≠ k) :
    (Instr.lookup t (.map (some r)) k true).run P w = .ok (.tuple #[z, .bool false]) w := by
  obtain ⟨_, h1, h2, h3⟩ := h
  have hb := mapAt_some h1
  rcases law.find w hk (ents l).toList (fun e he => h2 _ (mem_ents he)) with ⟨hrun, _⟩ | ⟨j, e, hrun, hj, hek⟩
  · simp [Instr.lookup, run_underlying ht, MapKept.run_getObj_map hb, law.check w _ hk, hrun, hz, Result.andThen]
  · exact absurd hek (hm _ (mem_ents (List.mem_of_getElem? hj)))
theorem lookup_nil (law : Keyed P K) (ht : P.underlying t = some (.map K E)) {z : Value} (hz : ∀ w, (zeroValue E).run P w = .ok z w) {k : Value} {q : Lit} (hk : keyOf P K k = some q) :
    (Instr.lookup t (.map none) k true).run P w = .ok (.tuple #[z, .bool false]) w := by
  rcases law.find w hk [] (fun e he => by cases he) with ⟨hrun, _⟩ | ⟨j, e, _, hj, _⟩
  · simp [Instr.lookup, run_underlying ht, law.check w _ hk, hz, hrun, Result.andThen]
  · cases hj
theorem update_new (law : Keyed P K) (ht : P.underlying t = some (.map K E)) (h : MapIs P K w r l) {k v : Value} {q : Lit} (hk : keyOf P K k = some q) (hm : ∀ p ∈ l, p.1 ≠ k) :
    (Instr.mapUpdate t (.map (some r)) k v).run P w = .ok () (setMap w r (ents (l ++ [(k, v)])) (l.length + 1)) := by
  obtain ⟨_, h1, h2, h3⟩ := h
  have hb := mapAt_some h1
  rcases law.find w hk (ents l).toList (fun e he => h2 _ (mem_ents he)) with ⟨hrun, _⟩ | ⟨j, e, hrun, hj, hek⟩
  · simp [Instr.mapUpdate, run_underlying ht, MapKept.run_getObj_map hb, law.check w _ hk, hrun, MapKept.run_setObj_map _ hb, Result.andThen, setMap, ents_push]
  · exact absurd hek (hm _ (mem_ents (List.mem_of_getElem? hj)))
theorem mapAt_setMap {es es' : Array MapEntry} {c c' : Nat} (h : mapAt w r = some (es, c)) : mapAt (setMap w r es' c') r = some (es', c') := by
  have hb := mapAt_some h
  have hlt : r < w.heap.size := by
    rcases Nat.lt_or_ge r w.heap.size with h | h
    · exact h
    · rw [Array.getElem?_eq_none h] at hb; cases hb
  unfold mapAt setMap
  simp [Array.getElem?_setIfInBounds, hlt]
theorem MapIs.new (h : MapIs P K w r l) {k v : Value} {q : Lit} (hk : keyOf P K k = some q) (hm : ∀ p ∈ l, p.1 ≠ k) : MapIs P K (setMap w r (ents (l ++ [(k, v)])) (l.length + 1)) r (l ++ [(k, v)]) := by
  obtain ⟨h0, h1, h2, h3⟩ := h
  refine ⟨by rw [size_setMap]; exact h0, by rw [mapAt_setMap h1]; simp, ?_, ?_⟩
  · intro p hp
    rcases List.mem_append.1 hp with hp | hp
    · exact h2 p hp
    · simp at hp; subst hp; exact ⟨q, hk⟩
  · rw [List.map_append, List.nodup_append]
    refine ⟨h3, by simp, ?_⟩
    intro a ha b hb
    simp at hb
    subst hb
    obtain ⟨p, hp, rfl⟩ := List.mem_map.1 ha
    exact hm p hp
theorem MapIs.below {w' : World} (h : MapIs P K w r l) (hb : Below w.heap.size w w') : MapIs P K w' r l := by
  obtain ⟨h0, h1, h2, h3⟩ := h
  refine ⟨Nat.lt_of_lt_of_le h0 hb.size, ?_, h2, h3⟩
  rw [← h1]; unfold mapAt; rw [hb.block r h0]
theorem MapIs.made {w : World} : MapIs P K (w.alloc (.map #[] 0)) w.heap.size [] :=
  ⟨by simp, by rw [mapAt_alloc_at _ _ _ _ rfl]; rfl, (fun p hp => by cases hp), by simp⟩
end
end Go.Proofs.YtgcfadnnajahhaaGreatDoor
namespace Go.Proofs.YtgcfadnnajahhaaGreatDoor
open Go.RowKit Go.Maps
set_option linter.unusedVariables false
set_option linter.unusedSimpArgs false
structure Chg (T : Nat → Prop) (w w' : World) : Prop where
  os : w'.os = w.os
  tape : w'.tape = w.tape
  output : w'.output = w.output
  size : w.heap.size ≤ w'.heap.size
  block : ∀ k, k < w.heap.size → ¬ T k → w'.heap[k]? = w.heap[k]?
def Same (T : Nat → Prop) (w w' : World) : Prop := w.heap.size ≤ w'.heap.size ∧ ∀ k, T k → w'.heap[k]? = w.heap[k]?
theorem Chg.refl (T : Nat → Prop) (w : World) : Chg T w w := ⟨rfl, rfl, rfl, Nat.le_refl _, fun _ _ _ => rfl⟩
theorem Chg.trans {T T1 : Nat → Prop} {w w1 w2 : World} (h : Chg T w w1) (h' : Chg T1 w1 w2) (hT : ∀ k, k < w.heap.size → T1 k → T k) : Chg T w w2 :=
  ⟨h'.os.trans h.os, h'.tape.trans h.tape, h'.output.trans h.output, Nat.le_trans h.size h'.size, fun k hk hn =>
    (h'.block k (Nat.lt_of_lt_of_le hk h.size) (fun e => hn (hT k hk e))).trans (h.block k hk hn)⟩
theorem Chg.mono {T T1 : Nat → Prop} {w w' : World} (h : Chg T1 w w') (hT : ∀ k, k < w.heap.size → T1 k → T k) : Chg T w w' :=
  ⟨h.os, h.tape, h.output, h.size, fun k hk hn => h.block k hk (fun e => hn (hT k hk e))⟩
theorem Chg.of_below {T : Nat → Prop} {w w' : World} (h : Below w.heap.size w w') : Chg T w w' :=
  ⟨h.os, h.tape, h.output, h.size, fun k hk _ => h.block k hk⟩
theorem Chg.of_grown {T : Nat → Prop} {w w' : World} {row : Option Nat} (h : w.grownBy w' row) (hT : ∀ k, row = some k → T k) : Chg T w w' :=
  ⟨h.os, h.tape, h.output, h.size, fun k hk hn => h.block k hk (fun e => hn (hT k e.symm))⟩
theorem Chg.below {T : Nat → Prop} {B : Nat} {w w' : World} (h : Chg T w w') (hB : B ≤ w.heap.size) (hT : ∀ k, T k → B ≤ k) : Below B w w' :=
  ⟨h.os, h.tape, h.output, h.size, fun k hk => h.block k (by omega) (fun e => by have := hT k e; omega)⟩
theorem Chg.setCell {T : Nat → Prop} {w w' : World} (h : Chg T w w') {b o : Nat} (hb : T b) (v : Value) : Chg T w (w'.setCell ⟨b, o, none⟩ v) :=
  ⟨h.os, h.tape, h.output, Nat.le_trans h.size (by simp [World.setCell]), fun k hk hn =>
    (Below.heap_setCell w' ⟨b, o, none⟩ v k (fun e => hn (e ▸ hb))).trans (h.block k hk hn)⟩
theorem Chg.setMap {T : Nat → Prop} {w w' : World} (h : Chg T w w') {b : Nat} (hb : T b) (es : Array MapEntry) (c : Nat) : Chg T w (setMap w' b es c) :=
  ⟨h.os, h.tape, h.output, Nat.le_trans h.size (by simp [Go.Proofs.YtgcfadnnajahhaaGreatDoor.setMap]), fun k hk hn => by
    refine Eq.trans ?_ (h.block k hk hn)
    show (w'.heap.setIfInBounds b _)[k]? = _
    rw [Array.getElem?_setIfInBounds, if_neg (fun e => hn (by rw [← e]; exact hb))]⟩
theorem Chg.alloc {T : Nat → Prop} {w w' : World} (h : Chg T w w') (o : Obj) : Chg T w (w'.alloc o) :=
  ⟨h.os, h.tape, h.output, Nat.le_trans h.size (by simp), fun k hk hn => (Below.heap_alloc w' o k (Nat.lt_of_lt_of_le hk h.size)).trans (h.block k hk hn)⟩
theorem Chg.drewN {T : Nat → Prop} {w w' : World} (h : Chg T w w') (n : Nat) : Chg T w (w'.drewN n) := ⟨h.os, h.tape, h.output, h.size, h.block⟩
theorem Chg.drew {T : Nat → Prop} {w w' : World} (h : Chg T w w') : Chg T w w'.drew := ⟨h.os, h.tape, h.output, h.size, h.block⟩
theorem Chg.cell {T : Nat → Prop} {w w' : World} (h : Chg T w w') {b o : Nat} {v : Value} (hb : ¬ T b) (hc : w.cell? ⟨b, o, none⟩ = some v) : w'.cell? ⟨b, o, none⟩ = some v := by
  rw [← hc]; exact World.cell?_of_block (w := w) (h.block b (cell_lt hc) hb)
theorem Chg.frozen {T : Nat → Prop} {w w' : World} (h : Chg T w w') {b o : Nat} (hb : ¬ T b) (hl : b < w.heap.size) : w'.frozen? ⟨b, o, none⟩ = w.frozen? ⟨b, o, none⟩ :=
  World.frozen?_of_block (w := w) (h.block b hl hb)
theorem Chg.same {T U : Nat → Prop} {w w' : World} (h : Chg U w w') (hT : ∀ k, T k → k < w.heap.size ∧ ¬ U k) : Same T w w' :=
  ⟨h.size, fun k hk => h.block k (hT k hk).1 (hT k hk).2⟩
theorem Same.mono {T T1 : Nat → Prop} {w w' : World} (h : Same T w w') (hT : ∀ k, T1 k → T k) : Same T1 w w' := ⟨h.1, fun k hk => h.2 k (hT k hk)⟩
theorem Same.cell {T : Nat → Prop} {w w' : World} (h : Same T w w') {b o : Nat} {v : Value} (hb : T b) (hc : w.cell? ⟨b, o, none⟩ = some v) : w'.cell? ⟨b, o, none⟩ = some v := by
  rw [← hc]; exact World.cell?_of_block (w := w) (h.2 b hb)
theorem Same.frozen {T : Nat → Prop} {w w' : World} (h : Same T w w') {b o : Nat} (hb : T b) : w'.frozen? ⟨b, o, none⟩ = w.frozen? ⟨b, o, none⟩ :=
  World.frozen?_of_block (w := w) (h.2 b hb)
theorem Same.mapAt {T : Nat → Prop} {w w' : World} (h : Same T w w') {b : Nat} (hb : T b) : mapAt w' b = mapAt w b := by
  unfold Go.Proofs.YtgcfadnnajahhaaGreatDoor.mapAt; rw [h.2 b hb]
theorem MapIs.same {P : Program} {K : TypeId} {T : Nat → Prop} {w w' : World} {r : Nat} {l : List (Value × Value)} (h : MapIs P K w r l) (hs : Same T w w') (hr : T r) : MapIs P K w' r l := by
  obtain ⟨h0, h1, h2, h3⟩ := h
  exact ⟨Nat.lt_of_lt_of_le h0 hs.1, by rw [hs.mapAt hr]; exact h1, h2, h3⟩
structure IntsF (w : World) (v : Value) (xs : List Int) : Prop where
  ints : Ints .i64 w v xs
  free : ∀ b q n c, v = .slice (some ⟨b, q, none⟩) n c → ∀ i, i < xs.length → w.frozen? ⟨b, q + i, none⟩ = false
def IntsT (T : Nat → Prop) (w : World) (v : Value) (xs : List Int) : Prop := IntsF w v xs ∧ ∀ b, v.ownBlock = some b → T b
theorem IntsT.same {T : Nat → Prop} {w w' : World} {v : Value} {xs : List Int} (h : IntsT T w v xs) (hs : Same T w w') : IntsT T w' v xs := by
  obtain ⟨⟨⟨a, c, rfl, h1, h2, h3, h4⟩, hf⟩, hT⟩ := h
  refine ⟨⟨⟨a, c, rfl, h1, h2, h3, fun i hi => ?_⟩, fun b q n c e i hi => ?_⟩, hT⟩
  · obtain ⟨b, o, rfl, h5, h6⟩ := h4 i hi
    exact ⟨b, o, rfl, Nat.lt_of_lt_of_le h5 hs.1, hs.cell (hT b rfl) h6⟩
  · rw [hs.frozen (hT b (by rw [e]; rfl))]
    exact hf b q n c e i hi
theorem IntsT.mono {T T' : Nat → Prop} {w : World} {v : Value} {xs : List Int} (h : IntsT T w v xs) (hT : ∀ k, T k → T' k) : IntsT T' w v xs := ⟨h.1, fun b hb => hT b (h.2 b hb)⟩
theorem RowI.intsF {w : World} {base : Nat} {e : TypeId} {v : Value} {xs : List Int} (h : RowI w base e .i64 v xs) (hl : xs.length ≤ 140737488351232) : IntsF w v xs := by
  refine ⟨h.ints hl, fun b q n c ev i hi => ?_⟩
  obtain ⟨_, ⟨rfl, h0⟩ | ⟨g, cap, cur, rfl, hb, hg, h1, h2, h3, h4⟩⟩ := h
  · cases ev
  · cases ev
    simp [World.frozen?, hg]
theorem IntsF.nil (w : World) : IntsF w (.slice none 0 0) [] := ⟨(RowI.nil w 0 0 .i64).ints (by simp), fun b q n c e => by cases e⟩
theorem Ints.chg {k : IntKind} {T : Nat → Prop} {w w' : World} {v : Value} {xs : List Int} (h : Ints k w v xs) (hc : Chg T w w') (hT : ∀ b, v.ownBlock = some b → ¬ T b) : Ints k w' v xs := by
  obtain ⟨a, c, rfl, h1, h2, h3, h4⟩ := h
  refine ⟨a, c, rfl, h1, h2, h3, fun i hi => ?_⟩
  obtain ⟨b, o, rfl, h5, h6⟩ := h4 i hi
  exact ⟨b, o, rfl, Nat.lt_of_lt_of_le h5 hc.size, hc.cell (hT b rfl) h6⟩
theorem own_same {T : Nat → Prop} {w w' : World} {base : Nat} {e : TypeId} {size : Nat} {v : Value} {n : Nat} {xs : List Value} (h : w.ownsRow base e size v n xs) (hs : Same T w w') (hT : ∀ b, v.ownBlock = some b → T b) : w'.ownsRow base e size v n xs := by
  obtain ⟨h0, h1 | ⟨g, cap, cur, rfl, hb', hg, h2⟩⟩ := h
  · exact ⟨h0, .inl h1⟩
  · exact ⟨h0, .inr ⟨g, cap, cur, rfl, hb', by rw [hs.2 g (hT g rfl)]; exact hg, h2⟩⟩
theorem own_lt {w : World} {base : Nat} {e : TypeId} {size : Nat} {v : Value} {n : Nat} {xs : List Value} (h : w.ownsRow base e size v n xs) : ∀ b, v.ownBlock = some b → b < w.heap.size := fun b hb => (h.lt b hb).2
end Go.Proofs.YtgcfadnnajahhaaGreatDoor
namespace Go.Proofs.YtgcfadnnajahhaaGreatDoor
set_option linter.unusedVariables false
set_option linter.unusedSimpArgs false
section
variable {σ : Type}
def gno (l : List Int) (k : Nat) : Int := l.getD k (-1)
def gargs (g : Nat → σ × List Int → σ × List Int) : List Int → σ × List Int → (σ × List Int) × List Int
  | [], c => (c, [])
  | a :: l, c => ((gargs g l (g a.toNat c)).1, gno (g a.toNat c).2 a.toNat :: (gargs g l (g a.toNat c)).2)
def gn (ts : List Nd) (k : Nat) (l : List Int) : Nd := ⟨(nd ts k).op, (nd ts k).width, (nd ts k).flags, l, (nd ts k).imm⟩
def gput (step : σ → Nd → σ × Int) (ts : List Nd) (k : Nat) (r : (σ × List Int) × List Int) : σ × List Int :=
  ((step r.1.1 (gn ts k r.2)).1, r.1.2.set k (step r.1.1 (gn ts k r.2)).2)
def gvis (step : σ → Nd → σ × Int) (ts : List Nd) : Nat → Nat → σ × List Int → σ × List Int
  | 0, _, c => c
  | f + 1, k, c => if 0 ≤ gno c.2 k then c else gput step ts k (gargs (gvis step ts f) (nd ts k).args c)
theorem gargs_snoc (g : Nat → σ × List Int → σ × List Int) (a : Int) : ∀ (l : List Int) (c : σ × List Int),
    gargs g (l ++ [a]) c = (g a.toNat (gargs g l c).1, (gargs g l c).2 ++ [gno (g a.toNat (gargs g l c).1).2 a.toNat])
  | [], c => rfl
  | b :: l, c => by
    show ((gargs g (l ++ [a]) (g b.toNat c)).1, gno (g b.toNat c).2 b.toNat :: (gargs g (l ++ [a]) (g b.toNat c)).2) = _
    rw [gargs_snoc g a l]; rfl
theorem gargs_take (g : Nat → σ × List Int → σ × List Int) (l : List Int) (c : σ × List Int) (j : Nat) (h : j < l.length) :
    gargs g (l.take (j + 1)) c = (g (l.getD j 0).toNat (gargs g (l.take j) c).1, (gargs g (l.take j) c).2 ++ [gno (g (l.getD j 0).toNat (gargs g (l.take j) c).1).2 (l.getD j 0).toNat]) := by
  have e : l.take (j + 1) = l.take j ++ [l.getD j 0] := by
    rw [List.take_succ_eq_append_getElem h, List.getD_eq_getElem?_getD, List.getElem?_eq_getElem h]; rfl
  rw [e, gargs_snoc]
theorem gargs_len (g : Nat → σ × List Int → σ × List Int) : ∀ (l : List Int) (c : σ × List Int), (gargs g l c).2.length = l.length
  | [], c => rfl
  | a :: l, c => by
    show (gno (g a.toNat c).2 a.toNat :: (gargs g l (g a.toNat c)).2).length = _
    rw [List.length_cons, gargs_len g l, List.length_cons]
theorem gno_set_self {l : List Int} {k : Nat} {x : Int} (h : k < l.length) : gno (l.set k x) k = x := by
  unfold gno; rw [List.getD_eq_getElem?_getD, List.getElem?_set_self h]; rfl
theorem gno_set_ne {l : List Int} {k j : Nat} {x : Int} (h : k ≠ j) : gno (l.set k x) j = gno l j := by
  unfold gno; rw [List.getD_eq_getElem?_getD, List.getD_eq_getElem?_getD, List.getElem?_set_ne h]
def gnd (ts : List Nd) (k : Nat) (nos : List Int) : Nd := gn ts k ((nd ts k).args.map fun a => gno nos a.toNat)
structure GJ (step : σ → Nd → σ × Int) (ts : List Nd) (J : σ → List Int → Prop) : Prop where
  len : ∀ {s : σ} {nos : List Int}, J s nos → nos.length = ts.length
  step : ∀ {s : σ} {nos : List Int} {k : Nat}, J s nos → k < ts.length → gno nos k < 0 → (∀ a ∈ (nd ts k).args, 0 ≤ gno nos a.toNat) →
    J (step s (gnd ts k nos)).1 (nos.set k (step s (gnd ts k nos)).2) ∧ 0 ≤ (step s (gnd ts k nos)).2
structure GW (J : σ → List Int → Prop) (m : Nat) (c c' : σ × List Int) : Prop where
  j : J c'.1 c'.2
  keep : ∀ i, 0 ≤ gno c.2 i → gno c'.2 i = gno c.2 i
  up : ∀ i, m ≤ i → gno c'.2 i = gno c.2 i
variable {step : σ → Nd → σ × Int} {ts : List Nd} {J : σ → List Int → Prop}
theorem GW.refl {m : Nat} {c : σ × List Int} (h : J c.1 c.2) : GW J m c c := ⟨h, fun _ _ => rfl, fun _ _ => rfl⟩
theorem GW.trans {m : Nat} {a b c : σ × List Int} (h : GW J m a b) (h' : GW J m b c) : GW J m a c :=
  ⟨h'.j, fun i hi => by rw [h'.keep i (by rw [h.keep i hi]; exact hi), h.keep i hi], fun i hi => by rw [h'.up i hi, h.up i hi]⟩
theorem GW.mono {m n : Nat} {a b : σ × List Int} (h : GW J m a b) (hm : m ≤ n) : GW J n a b := ⟨h.j, h.keep, fun i hi => h.up i (by omega)⟩
theorem gargs_ok {g : Nat → σ × List Int → σ × List Int} {m : Nat} (hg : ∀ a c, a < m → J c.1 c.2 → GW J (a + 1) c (g a c) ∧ 0 ≤ gno (g a c).2 a) :
    ∀ (l : List Int) (c : σ × List Int), (∀ a ∈ l, 0 ≤ a ∧ a < (m : Int)) → J c.1 c.2 →
    GW J m c (gargs g l c).1 ∧ (gargs g l c).2 = (l.map fun a => gno (gargs g l c).1.2 a.toNat) ∧ ∀ a ∈ l, 0 ≤ gno (gargs g l c).1.2 a.toNat
  | [], c, _, hj => ⟨GW.refl hj, rfl, fun a h => by cases h⟩
  | a :: l, c, hr, hj => by
    have ha := hr a (List.mem_cons_self ..)
    obtain ⟨w1, t1⟩ := hg a.toNat c (by omega) hj
    obtain ⟨w2, e2, t2⟩ := gargs_ok hg l (g a.toNat c) (fun b hb => hr b (List.mem_cons_of_mem _ hb)) w1.j
    have e3 : gno (gargs g l (g a.toNat c)).1.2 a.toNat = gno (g a.toNat c).2 a.toNat := w2.keep _ t1
    refine ⟨(w1.mono (by omega)).trans w2, ?_, ?_⟩
    · show gno (g a.toNat c).2 a.toNat :: (gargs g l (g a.toNat c)).2 = gno (gargs g l (g a.toNat c)).1.2 a.toNat :: (l.map fun a_1 => gno (gargs g l (g a.toNat c)).1.2 a_1.toNat)
      rw [← e2, e3]
    · intro b hb
      show 0 ≤ gno (gargs g l (g a.toNat c)).1.2 b.toNat
      rcases List.mem_cons.1 hb with rfl | hb
      · rw [e3]; exact t1
      · exact t2 b hb
theorem gput_eq {k : Nat} {c : σ × List Int} {r : (σ × List Int) × List Int} (h : r.2 = (nd ts k).args.map fun a => gno r.1.2 a.toNat) :
    gput step ts k r = ((step r.1.1 (gnd ts k r.1.2)).1, r.1.2.set k (step r.1.1 (gnd ts k r.1.2)).2) := by
  unfold gput gnd; rw [← h]
theorem gvis_ok (hd : Down ts) (hJ : GJ step ts J) : ∀ (f k : Nat) (c : σ × List Int), k < f → k < ts.length → J c.1 c.2 →
    GW J (k + 1) c (gvis step ts f k c) ∧ 0 ≤ gno (gvis step ts f k c).2 k
  | 0, k, c, h, _, _ => absurd h (by omega)
  | f + 1, k, c, hf, hk, hj => by
    unfold gvis
    by_cases ht : 0 ≤ gno c.2 k
    · rw [if_pos ht]; exact ⟨GW.refl hj, ht⟩
    · rw [if_neg ht]
      obtain ⟨w1, e1, t1⟩ := gargs_ok (g := gvis step ts f) (m := k) (fun a c ha hc => gvis_ok hd hJ f a c (by omega) (by omega) hc) (nd ts k).args c (hd k hk) hj
      generalize hr : gargs (gvis step ts f) (nd ts k).args c = r at *
      have hu : gno r.1.2 k < 0 := by rw [w1.up k (Nat.le_refl _)]; omega
      obtain ⟨j2, n2⟩ := hJ.step w1.j hk hu t1
      have hl : k < r.1.2.length := by rw [hJ.len w1.j]; exact hk
      rw [gput_eq (c := c) e1]
      refine ⟨⟨j2, fun i hi => ?_, fun i hi => ?_⟩, ?_⟩
      · show gno (r.1.2.set k _) i = _
        rw [gno_set_ne (by intro h; subst h; exact ht hi), w1.keep i hi]
      · show gno (r.1.2.set k _) i = _
        rw [gno_set_ne (by omega), w1.up i (by omega)]
      · show 0 ≤ gno (r.1.2.set k _) k
        rw [gno_set_self hl]; exact n2
theorem gvis_args (hd : Down ts) (hJ : GJ step ts J) {f k : Nat} {c : σ × List Int} (hf : k ≤ f) (hk : k < ts.length) (hj : J c.1 c.2) (l : List Int) (hl : ∀ a ∈ l, 0 ≤ a ∧ a < (k : Int)) :
    GW J k c (gargs (gvis step ts f) l c).1 ∧ (gargs (gvis step ts f) l c).2 = (l.map fun a => gno (gargs (gvis step ts f) l c).1.2 a.toNat) ∧ ∀ a ∈ l, 0 ≤ gno (gargs (gvis step ts f) l c).1.2 a.toNat :=
  gargs_ok (g := gvis step ts f) (m := k) (fun a c ha hc => gvis_ok hd hJ f a c (by omega) (by omega) hc) l c hl hj
end
def stepA (o : List Nd) (y : Nd) : List Nd × Int := ((addN o y).1, ((addN o y).2 : Int))
theorem gjA {ts : List Nd} (hd : Down ts) : GJ stepA ts (fun o nos => Inv ts ⟨o, nos⟩) :=
  ⟨fun h => h.len, fun {s nos k} h hk hu ha => by
    have := tell_inv (s := ⟨s, nos⟩) hd h hk (by show ¬ 0 ≤ gno nos k; omega) ha
    exact ⟨this.1, by show (0 : Int) ≤ ((addN _ _).2 : Int); omega⟩⟩
theorem gvis_A {ts : List Nd} (hd : Down ts) : ∀ (f k : Nat) (s : St), k < f → k < ts.length → Inv ts s → gvis stepA ts f k (s.out, s.nos) = ((visit ts f k s).out, (visit ts f k s).nos)
  | 0, k, s, h, _, _ => absurd h (by omega)
  | f + 1, k, s, hf, hk, hi => by
    unfold gvis visit
    by_cases ht : s.told k
    · rw [if_pos ht, if_pos (show 0 ≤ gno s.nos k from ht)]
    · rw [if_neg ht, if_neg (show ¬ 0 ≤ gno s.nos k from ht)]
      have key : ∀ (l : List Int) (s : St), (∀ a ∈ l, 0 ≤ a ∧ a < (k : Int)) → Inv ts s →
          (gargs (gvis stepA ts f) l (s.out, s.nos)).1 = ((l.foldl (fun s a => visit ts f a.toNat s) s).out, (l.foldl (fun s a => visit ts f a.toNat s) s).nos) := by
        intro l
        induction l with
        | nil => intro s _ _; rfl
        | cons a l ih =>
          intro s hr hi
          have ha := hr a (List.mem_cons_self ..)
          show (gargs (gvis stepA ts f) l (gvis stepA ts f a.toNat (s.out, s.nos))).1 = _
          rw [gvis_A hd f a.toNat s (by omega) (by omega) hi, List.foldl_cons]
          exact ih _ (fun b hb => hr b (List.mem_cons_of_mem _ hb)) (visit_inv hd f a.toNat s (by omega) (by omega) hi).1.inv
      obtain ⟨w1, e1, t1⟩ := gvis_args (f := f) hd (gjA hd) (by omega) hk (c := (s.out, s.nos)) hi (nd ts k).args (hd k hk)
      rw [gput_eq (c := (s.out, s.nos)) e1, key _ s (hd k hk) hi]
      rfl
theorem gvis_shr {ts : List Nd} (hd : Down ts) {k : Nat} (hk : k < ts.length) : (gvis stepA ts (k + 1) k ([], List.replicate ts.length (-1))).1 = shr ts k := by
  have h := gvis_A hd (k + 1) k (st0 ts) (by omega) hk (st0_inv ts)
  exact congrArg Prod.fst h
end Go.Proofs.YtgcfadnnajahhaaGreatDoor
namespace Go.Proofs.YtgcfadnnajahhaaGreatDoor
open Go.RowKit Go.Maps
set_option linter.unusedVariables false
set_option linter.unusedSimpArgs false
def pairV (p : Int × Int) : Value × Value := (.int .i64 p.1, .int .i64 p.2)
def seenL (nos : List Int) (l : List (Int × Int)) : Prop := ∀ a b, (a, b) ∈ l ↔ (0 ≤ a ∧ a.toNat < nos.length ∧ gno nos a.toNat = b ∧ 0 ≤ b)
def Sml (a : Int) : Prop := -9223372036854775808 ≤ a ∧ a ≤ 9223372036854775807
def SeenIs (w : World) (r : Nat) (nos : List Int) : Prop := nos.length ≤ 1000000 ∧ ∃ l : List (Int × Int), MapIs Tryz.prog 3 w r (l.map pairV) ∧ seenL nos l
theorem lawInt : Keyed Tryz.prog 3 := int_keyed Tryz.underlying3
theorem keyInt {a : Int} (h : Sml a) : keyOf Tryz.prog 3 (.int .i64 a) = some (.int .i64 a) :=
  keyOf_int_mk Tryz.underlying3 (WalkArith.wf_i64 h)
theorem seenL_miss {nos : List Int} {l : List (Int × Int)} (h : seenL nos l) {k : Nat} (hk : gno nos k < 0) : ∀ p ∈ l.map pairV, p.1 ≠ .int .i64 (k : Int) := by
  intro p hp e
  obtain ⟨⟨a, b⟩, hm, rfl⟩ := List.mem_map.1 hp
  have h2 := (h a b).1 hm
  have e2 : a = (k : Int) := by simpa [pairV] using e
  subst e2
  rw [Int.toNat_natCast] at h2
  omega
theorem SeenIs.hit {w : World} {r : Nat} {nos : List Int} (h : SeenIs w r nos) {k : Nat} (hk : k < nos.length) (h0 : 0 ≤ gno nos k) :
    (Instr.lookup 133 (.map (some r)) (.int .i64 (k : Int)) true).run Tryz.prog w = .ok (.tuple #[.int .i64 (gno nos k), .bool true]) w := by
  obtain ⟨hs, l, hm, hl⟩ := h
  refine lookup_hit lawInt Tryz.underlying133 hm (keyInt ⟨by omega, by omega⟩) ?_
  exact List.mem_map.2 ⟨((k : Int), gno nos k), (hl _ _).2 ⟨by omega, by rw [Int.toNat_natCast]; exact hk, by rw [Int.toNat_natCast], h0⟩, rfl⟩
theorem SeenIs.miss {w : World} {r : Nat} {nos : List Int} (h : SeenIs w r nos) {k : Nat} (hk : k < nos.length) (h0 : gno nos k < 0) :
    (Instr.lookup 133 (.map (some r)) (.int .i64 (k : Int)) true).run Tryz.prog w = .ok (.tuple #[.int .i64 0, .bool false]) w := by
  obtain ⟨hs, l, hm, hl⟩ := h
  exact lookup_miss lawInt Tryz.underlying133 (fun _ => by kernel_rfl) hm (keyInt ⟨by omega, by omega⟩) (seenL_miss hl h0)
theorem SeenIs.put {w : World} {r : Nat} {nos : List Int} (h : SeenIs w r nos) {k : Nat} (hk : k < nos.length) (h0 : gno nos k < 0) {n : Int} (hn : 0 ≤ n) :
    ∃ es c, (Instr.mapUpdate 133 (.map (some r)) (.int .i64 (k : Int)) (.int .i64 n)).run Tryz.prog w = .ok () (setMap w r es c) ∧ SeenIs (setMap w r es c) r (nos.set k n) := by
  obtain ⟨hs, l, hm, hl⟩ := h
  have hmiss := seenL_miss hl h0
  have hkey := keyInt (a := (k : Int)) ⟨by omega, by omega⟩
  refine ⟨_, _, update_new lawInt Tryz.underlying133 hm hkey hmiss, by rw [List.length_set]; exact hs, l ++ [((k : Int), n)], ?_, ?_⟩
  · have := hm.new (v := .int .i64 n) hkey hmiss
    rw [List.map_append]
    exact this
  · intro a b
    rw [List.mem_append, hl a b, List.length_set]
    simp only [List.mem_singleton, Prod.mk.injEq]
    constructor
    · rintro (⟨h1, h2, h3, h4⟩ | ⟨rfl, rfl⟩)
      · refine ⟨h1, h2, ?_, h4⟩
        rw [gno_set_ne (by intro e; subst e; omega)]; exact h3
      · exact ⟨by omega, by rw [Int.toNat_natCast]; exact hk, by rw [Int.toNat_natCast, gno_set_self hk], hn⟩
    · rintro ⟨h1, h2, h3, h4⟩
      by_cases e : k = a.toNat
      · refine .inr ⟨by omega, ?_⟩
        rw [← e, gno_set_self hk] at h3; exact h3.symm
      · rw [gno_set_ne e] at h3
        exact .inl ⟨h1, h2, h3, h4⟩
theorem SeenIs.same {T : Nat → Prop} {w w' : World} {r : Nat} {nos : List Int} (h : SeenIs w r nos) (hs : Same T w w') (hr : T r) : SeenIs w' r nos := by
  obtain ⟨h0, l, hm, hl⟩ := h
  exact ⟨h0, l, hm.same hs hr, hl⟩
theorem SeenIs.lt {w : World} {r : Nat} {nos : List Int} (h : SeenIs w r nos) : r < w.heap.size := by
  obtain ⟨h0, l, hm, hl⟩ := h
  exact hm.1
theorem SeenIs.chg {T : Nat → Prop} {w w' : World} {r : Nat} {nos : List Int} (h : SeenIs w r nos) (hc : Chg T w w') (hr : ¬ T r) : SeenIs w' r nos :=
  h.same (T := fun k => k = r) (hc.same (fun k hk => by subst hk; exact ⟨h.lt, hr⟩)) rfl
theorem gno_repl (n k : Nat) : gno (List.replicate n (-1)) k = -1 := by
  unfold gno
  rw [List.getD_eq_getElem?_getD, List.getElem?_replicate]
  split <;> rfl
theorem SeenIs.made {w : World} {n : Nat} (hn : n ≤ 1000000) : SeenIs (w.alloc (.map #[] 0)) w.heap.size (List.replicate n (-1)) := by
  refine ⟨by rw [List.length_replicate]; exact hn, [], MapIs.made, ?_⟩
  intro a b
  rw [gno_repl]
  constructor
  · intro h; cases h
  · rintro ⟨_, _, h3, h4⟩; omega
end Go.Proofs.YtgcfadnnajahhaaGreatDoor
namespace Go.Proofs.YtgcfadnnajahhaaGreatDoor.Wd
def pw (n : Int) : Int := 2 ^ n.toNat
def isW (n : Int) : Bool := decide (1 ≤ n ∧ n ≤ 32)
def fit (n a : Int) : Bool := decide (a < pw n)
def sgn (n a : Int) : Int := if pw (n - 1) ≤ a then a - pw n else a
def wr (n x : Int) : Int := x % pw n
theorem pw_pos (n : Int) : 0 < pw n := by unfold pw; exact Int.pow_pos (by decide)
theorem pw_succ (n : Int) (h : 1 ≤ n) : pw n = 2 * pw (n - 1) := by
  unfold pw
  have : n.toNat = (n - 1).toNat + 1 := by omega
  rw [this, Int.pow_succ]; omega
theorem pw_mono {m n : Int} (h : m ≤ n) : pw m ≤ pw n := by
  unfold pw
  have h2 := Nat.pow_le_pow_right (n := 2) (by decide) (Int.toNat_le_toNat h)
  have := Int.ofNat_le.2 h2
  simpa using this
theorem pw_32 : pw 32 = 4294967296 := by decide
theorem pw_31 : pw 31 = 2147483648 := by decide
theorem pw_le32 {n : Int} (h : n ≤ 32) : pw n ≤ 4294967296 := by rw [← pw_32]; exact pw_mono h
theorem pw_le31 {n : Int} (h : n ≤ 31) : pw n ≤ 2147483648 := by rw [← pw_31]; exact pw_mono h
def signV (n a : Int) : Int := if sgn n a < 0 then pw n - 1 else 0
theorem pw_cast (k : Nat) : pw (k : Int) = 2 ^ k := by simp [pw]
theorem wr_lo (n x : Int) : 0 ≤ wr n x := Int.emod_nonneg _ (by have := pw_pos n; omega)
theorem wr_hi (n x : Int) : wr n x < pw n := Int.emod_lt_of_pos _ (pw_pos n)
theorem sgn_hi {n a : Int} (h : pw (n - 1) ≤ a) : sgn n a = a - pw n := if_pos h
theorem sgn_lo {n a : Int} (h : a < pw (n - 1)) : sgn n a = a := if_neg (by omega)
theorem hi_bit (n x : Int) (h1 : 1 ≤ n) (h3 : 0 ≤ x) (h4 : x < pw n) : x / 2 ^ (n.toNat - 1) = if pw (n - 1) ≤ x then 1 else 0 := by
  have e : n.toNat - 1 = (n - 1).toNat := by omega
  rw [e]
  have hp := pw_succ n h1
  have hp0 := pw_pos (n - 1)
  show x / pw (n - 1) = _
  split
  · have : x = (x - pw (n - 1)) + 1 * pw (n - 1) := by omega
    rw [this, Int.add_mul_ediv_right _ _ (by omega), Int.ediv_eq_zero_of_lt (by omega) (by omega)]; rfl
  · exact Int.ediv_eq_zero_of_lt h3 (by omega)
def lo (x j : Nat) : Int := ((x % 2 ^ j : Nat) : Int)
theorem and_lt (a b n : Int) (_h1 : 0 ≤ a) (h2 : a < pw n) : ((a.toNat &&& b.toNat : Nat) : Int) < pw n := by
  have := @Nat.and_le_left a.toNat b.toNat
  omega
theorem to_lt {a n : Int} (h2 : a < pw n) : a.toNat < 2 ^ n.toNat := by
  have := pw_pos n
  have e : ((2 ^ n.toNat : Nat) : Int) = pw n := by unfold pw; simp
  omega
theorem or_lt (a b n : Int) (h2 : a < pw n) (h4 : b < pw n) : ((a.toNat ||| b.toNat : Nat) : Int) < pw n := by
  have := Nat.or_lt_two_pow (to_lt h2) (to_lt h4)
  have e : ((2 ^ n.toNat : Nat) : Int) = pw n := by unfold pw; simp
  omega
theorem xor_lt (a b n : Int) (h2 : a < pw n) (h4 : b < pw n) : ((a.toNat ^^^ b.toNat : Nat) : Int) < pw n := by
  have := Nat.xor_lt_two_pow (to_lt h2) (to_lt h4)
  have e : ((2 ^ n.toNat : Nat) : Int) = pw n := by unfold pw; simp
  omega
theorem wr_small {n a : Int} (h1 : 0 ≤ a) (h2 : a < pw n) : wr n a = a := Int.emod_eq_of_lt h1 h2
theorem sgn_ge {n a : Int} (h1 : 1 ≤ n) (_h2 : n ≤ 32) (h3 : 0 ≤ a) : -pw (n - 1) ≤ sgn n a := by
  have := pw_succ n h1
  have := pw_pos (n - 1)
  unfold sgn; split <;> omega
theorem sgn_le {n a : Int} (h1 : 1 ≤ n) (h4 : a < pw n) : sgn n a < pw (n - 1) := by
  have := pw_succ n h1
  have := pw_pos (n - 1)
  unfold sgn; split <;> omega
theorem sgn_lo32 {n a : Int} (h1 : 1 ≤ n) (h2 : n ≤ 32) (h3 : 0 ≤ a) : -2147483648 ≤ sgn n a := by
  have := sgn_ge h1 h2 h3
  have := @pw_le31 (n - 1) (by omega)
  omega
theorem sgn_hi32 {n a : Int} (h1 : 1 ≤ n) (h2 : n ≤ 32) (h4 : a < pw n) : sgn n a ≤ 2147483647 := by
  have := sgn_le h1 h4
  have := @pw_le31 (n - 1) (by omega)
  omega
def tot (op n a b : Int) : Int :=
  if op = 1 then wr n (a + b) else
  if op = 2 then wr n (a - b) else
  if op = 3 then wr n (a * b) else
  if op = 4 then (if b = 0 then pw n - 1 else a / b) else
  if op = 5 then (if b = 0 then a else a % b) else
  if op = 6 then (if b = 0 then (if sgn n a < 0 then 1 else pw n - 1) else if sgn n a = -pw (n - 1) ∧ sgn n b = -1 then a else wr n ((sgn n a).tdiv (sgn n b))) else
  if op = 7 then (if b = 0 then a else if sgn n a = -pw (n - 1) ∧ sgn n b = -1 then 0 else wr n ((sgn n a).tmod (sgn n b))) else
  if op = 8 then ((a.toNat &&& b.toNat : Nat) : Int) else
  if op = 9 then ((a.toNat ||| b.toNat : Nat) : Int) else
  if op = 10 then ((a.toNat ^^^ b.toNat : Nat) : Int) else
  if op = 11 then (if n ≤ b then 0 else wr n (a * pw b)) else
  if op = 12 then (if n ≤ b then 0 else a / pw b) else
  (if n ≤ b then (if sgn n a < 0 then pw n - 1 else 0) else wr n (sgn n a / pw b))
def has (op n a b : Int) : Bool :=
  if op = 4 ∨ op = 5 then decide (b ≠ 0) else
  if op = 6 ∨ op = 7 then decide (b ≠ 0 ∧ ¬ (sgn n a = -pw (n - 1) ∧ sgn n b = -1)) else
  if op = 11 ∨ op = 12 ∨ op = 13 then decide (b < n) else true
def good (op n a b : Int) : Bool := decide (1 ≤ op ∧ op ≤ 13 ∧ 1 ≤ n ∧ n ≤ 32 ∧ a < pw n ∧ b < pw n)
theorem tdiv_bd {x y : Int} (h1 : -2147483648 ≤ x) (h2 : x ≤ 2147483647) : -2147483648 ≤ x.tdiv y ∧ x.tdiv y ≤ 2147483648 := by
  have h := Int.natAbs_tdiv_le_natAbs x y
  omega
theorem sgn_zero {n b : Int} (h1 : 1 ≤ n) (h4 : b < pw n) : sgn n b = 0 ↔ b = 0 := by
  have := pw_succ n h1
  have := pw_pos (n - 1)
  unfold sgn; split <;> omega
theorem good_iff (op n a b : Int) : good op n a b = true ↔ 1 ≤ op ∧ op ≤ 13 ∧ 1 ≤ n ∧ n ≤ 32 ∧ a < pw n ∧ b < pw n := by simp [good]
def Word (n v : Int) : Prop := 0 ≤ v ∧ v < pw n
theorem word_ite {n x y : Int} {c : Prop} [Decidable c] (h1 : c → Word n x) (h2 : ¬c → Word n y) : Word n (if c then x else y) := by
  by_cases h : c
  · rw [if_pos h]; exact h1 h
  · rw [if_neg h]; exact h2 h
theorem word_wr (n x : Int) : Word n (wr n x) := ⟨wr_lo n x, wr_hi n x⟩
theorem tot_word {op n a b : Int} (g : good op n a b = true) (ha : 0 ≤ a) (hb : 0 ≤ b) : Word n (tot op n a b) := by
  obtain ⟨g1, g2, g3, g4, g5, g6⟩ := (good_iff _ _ _ _).1 g
  have hp := pw_pos n
  have hp2 := pw_succ n g3
  have hp3 := pw_pos (n - 1)
  have hd : a / b ≤ a := Int.ediv_le_self b ha
  have hd2 : a / pw b ≤ a := Int.ediv_le_self _ ha
  have hd3 : 0 ≤ a / b := Int.ediv_nonneg ha hb
  have hd4 : 0 ≤ a / pw b := Int.ediv_nonneg ha (Int.le_of_lt (pw_pos _))
  have hm : b ≠ 0 → Word n (a % b) := fun h => ⟨Int.emod_nonneg _ h, by have := Int.emod_lt_of_pos a (show 0 < b by omega); omega⟩
  have wa : Word n (((a.toNat &&& b.toNat : Nat) : Int)) := ⟨Int.natCast_nonneg _, and_lt a b n ha g5⟩
  have wo : Word n (((a.toNat ||| b.toNat : Nat) : Int)) := ⟨Int.natCast_nonneg _, or_lt a b n g5 g6⟩
  have wx : Word n (((a.toNat ^^^ b.toNat : Nat) : Int)) := ⟨Int.natCast_nonneg _, xor_lt a b n g5 g6⟩
  unfold tot
  repeat' (refine word_ite (fun _ => ?_) (fun _ => ?_))
  all_goals first | exact word_wr _ _ | assumption | exact hm ‹_› | exact ⟨by omega, by omega⟩
theorem pw_dvd {m n : Int} (h : m ≤ n) : pw m ∣ pw n := by
  have e : n.toNat = m.toNat + (n.toNat - m.toNat) := by have := Int.toNat_le_toNat h; omega
  unfold pw
  rw [e, Int.pow_add]
  exact Int.dvd_mul_right _ _
theorem pw_toNat (n : Int) : (pw n - 1).toNat = 2 ^ n.toNat - 1 := by
  have e : ((2 ^ n.toNat : Nat) : Int) = pw n := by unfold pw; simp
  have := Nat.two_pow_pos n.toNat
  omega
theorem mask_fit {n x : Int} (h1 : n ≤ 32) (h3 : 0 ≤ x) (h4 : x ≤ 4294967295) : bits .and .u32 x (pw n - 1) = wr n x := by
  have hp := pw_pos n
  have hp2 := pw_le32 h1
  rw [u32_and x _ h3 (by omega) (by omega) (by omega), pw_toNat, Nat.and_two_pow_sub_one_eq_mod]
  unfold wr
  have e : ((2 ^ n.toNat : Nat) : Int) = pw n := by unfold pw; simp
  rw [Int.natCast_emod, e]
  congr 1
  omega
theorem wr_mod {n : Int} (h1 : n ≤ 32) (x : Int) : wr n (x % 4294967296) = wr n x := by
  unfold wr
  rw [← pw_32]
  exact Int.emod_emod_of_dvd x (pw_dvd h1)
theorem mask_wr {n : Int} (h1 : n ≤ 32) (x : Int) : bits .and .u32 (x % 4294967296) (pw n - 1) = wr n x := by
  rw [mask_fit h1 (by omega) (by omega), wr_mod h1]
/-! ### lanes: digits of the base L -/
def sumTo (L : Int) (d : Nat → Int) : Nat → Int
  | 0 => 0
  | j + 1 => sumTo L d j + d j * L ^ j
def lane (op l a b : Int) (j : Nat) : Int := wr l (if op = 20 then wr l (a / pw l ^ j) - wr l (b / pw l ^ j) else wr l (a / pw l ^ j) + wr l (b / pw l ^ j))
def lanes (op n l a b : Int) : Int := sumTo (pw l) (lane op l a b) (n / l).toNat
end Go.Proofs.YtgcfadnnajahhaaGreatDoor.Wd
namespace Go.Proofs.YtgcfadnnajahhaaGreatDoor
open Go.RowKit Wd
theorem ret_i {k : IntKind} {a b : Int} (h : a = b) : Ending.returned (.int k a) = .returned (.int k b) := by rw [h]
theorem ret_b {a b : Bool} (h : a = b) : Ending.returned (.bool a) = .returned (.bool b) := by rw [h]
theorem isWidth_any (n : Int) (w : World) : Calls Tryz.prog 62 #[.int .i64 n] w fun e w' => e = .returned (.bool (isW n)) ∧ w = w' := by
  by_cases h1 : 1 ≤ n <;> by_cases h2 : n ≤ 32
  all_goals
    go_enter Tryz.func62, Tryz.ntmps62
    go_wp2
    go_ret
    exact ⟨ret_b (by simp [isW, h1, h2]), rfl⟩
theorem rIsWidth_any (n : Int) (w : World) : Calls Tryz.prog 139 #[.int .i64 n] w fun e w' => e = .returned (.bool (isW n)) ∧ w = w' := by
  by_cases h1 : 1 ≤ n <;> by_cases h2 : n ≤ 32
  all_goals
    go_enter Tryz.func139, Tryz.ntmps139
    go_wp2
    go_ret
    exact ⟨ret_b (by simp [isW, h1, h2]), rfl⟩
theorem mask_any (n : Int) (w : World) (h1 : 1 ≤ n) (h2 : n ≤ 32) : Calls Tryz.prog 63 #[.int .i64 n] w fun e w' => e = .returned (.int .u32 (pw n - 1)) ∧ w = w' := by
  have hp := pw_le32 h2
  have hp0 := pw_pos n
  have e1 : IntKind.u64.wrap (2 ^ n.toNat) = pw n := by
    show IntKind.u64.wrap (pw n) = pw n
    exact IntWalk.u64_in _ (by omega)
  go_enter Tryz.func63, Tryz.ntmps63
  go_wp2
  go_ret
  exact ⟨rfl, rfl⟩
theorem size_any (n : Int) (w : World) (h1 : 0 ≤ n) (h2 : n ≤ 32) : Calls Tryz.prog 143 #[.int .i64 n] w fun e w' => e = .returned (.int .i64 (pw n)) ∧ w = w' := by
  have hp := pw_le32 h2
  have hp0 := pw_pos n
  go_enter Tryz.func143, Tryz.ntmps143
  go_wp2
  go_ret
  exact ⟨ret_i (IntWalk.wrap64_in (pw n) (by omega)), rfl⟩
theorem signed_any (n x : Int) (w : World) (h1 : 1 ≤ n) (h2 : n ≤ 32) (h3 : 0 ≤ x) (h4 : x < pw n) : Calls Tryz.prog 164 #[.int .i64 n, .int .u32 x] w fun e w' => e = .returned (.int .i64 (sgn n x)) ∧ w = w' := by
  have hp := pw_le32 h2
  have hp0 := pw_pos n
  have e1 : wrap64 (2 ^ n.toNat) = pw n := by
    show wrap64 (pw n) = pw n
    exact IntWalk.wrap64_in _ (by omega)
  have e2 := hi_bit n x h1 h3 h4
  by_cases hc : pw (n - 1) ≤ x
  · rw [if_pos hc] at e2
    go_enter Tryz.func164, Tryz.ntmps164
    go_wp2
    go_ret
    exact ⟨ret_i (sgn_hi hc).symm, rfl⟩
  · rw [if_neg hc] at e2
    go_enter Tryz.func164, Tryz.ntmps164
    go_wp2
    go_ret
    exact ⟨ret_i (sgn_lo (by omega)).symm, rfl⟩
theorem rIsWord_any (n x : Int) (w : World) (h3 : 0 ≤ x) (h4 : x ≤ 4294967295) : Calls Tryz.prog 136 #[.int .i64 n, .int .u32 x] w fun e w' => e = .returned (.bool (isW n && fit n x)) ∧ w = w' := by
  by_cases hw : isW n = true
  · have h12 : 1 ≤ n ∧ n ≤ 32 := by simpa [isW] using hw
    obtain ⟨h1, h2⟩ := h12
    have hp := pw_le32 h2
    go_enter Tryz.func136, Tryz.ntmps136
    go_wp2_with (first | (go_at_call 143; refine (size_any _ _ (by omega) (by omega)).mono ?_; rintro e w' ⟨rfl, rfl⟩) | (go_at_call 139; refine (rIsWidth_any _ _).mono ?_; rintro e w' ⟨rfl, rfl⟩))
    go_ret
    exact ⟨ret_b (by simp [hw, fit]), rfl⟩
  · have hw : isW n = false := by simpa using hw
    go_enter Tryz.func136, Tryz.ntmps136
    go_wp2_with (first | (go_at_call 143; refine (size_any _ _ (by omega) (by omega)).mono ?_; rintro e w' ⟨rfl, rfl⟩) | (go_at_call 139; refine (rIsWidth_any _ _).mono ?_; rintro e w' ⟨rfl, rfl⟩))
    go_ret
    exact ⟨ret_b (by simp [hw]), rfl⟩
theorem fits1 (n a : Int) (b : Nat) (w : World) (g0 : w.cell? ⟨b, 0, none⟩ = some (.int .u32 a))  : Calls Tryz.prog 111 #[.int .i64 n, .slice (some ⟨b, 0, none⟩) 1 1] w fun e w' => e = .returned (.bool (isW n && fit n a)) ∧ w = w' := by
  by_cases hw : isW n = true
  · have h12 : 1 ≤ n ∧ n ≤ 32 := by simpa [isW] using hw
    obtain ⟨h1, h2⟩ := h12
    rcases Int.lt_or_le a (pw n) with f0 | f0
    · go_enter Tryz.func111, Tryz.ntmps111
      go_wp2_with (first | (rw [rounds_succ]) | (go_at_call 62; refine (isWidth_any _ _).mono ?_; rintro e w' ⟨rfl, rfl⟩) | (go_at_call 63; refine (mask_any _ _ (by assumption) (by assumption)).mono ?_; rintro e w' ⟨rfl, rfl⟩))
      refine wp_loop_rounds 2 ?_
      go_wp2_with (first | (rw [rounds_succ]) | (go_at_call 62; refine (isWidth_any _ _).mono ?_; rintro e w' ⟨rfl, rfl⟩) | (go_at_call 63; refine (mask_any _ _ (by assumption) (by assumption)).mono ?_; rintro e w' ⟨rfl, rfl⟩))
      go_ret
      exact ⟨ret_b (by simp [hw, fit, f0]), rfl⟩
    · go_enter Tryz.func111, Tryz.ntmps111
      go_wp2_with (first | (rw [rounds_succ]) | (go_at_call 62; refine (isWidth_any _ _).mono ?_; rintro e w' ⟨rfl, rfl⟩) | (go_at_call 63; refine (mask_any _ _ (by assumption) (by assumption)).mono ?_; rintro e w' ⟨rfl, rfl⟩))
      refine wp_loop_rounds 1 ?_
      go_wp2_with (first | (rw [rounds_succ]) | (go_at_call 62; refine (isWidth_any _ _).mono ?_; rintro e w' ⟨rfl, rfl⟩) | (go_at_call 63; refine (mask_any _ _ (by assumption) (by assumption)).mono ?_; rintro e w' ⟨rfl, rfl⟩))
      go_ret
      exact ⟨ret_b (by simp [hw, fit, Int.not_lt.2 f0]), rfl⟩
  · have hw : isW n = false := by simpa using hw
    go_enter Tryz.func111, Tryz.ntmps111
    go_wp2_with (first | (rw [rounds_succ]) | (go_at_call 62; refine (isWidth_any _ _).mono ?_; rintro e w' ⟨rfl, rfl⟩) | (go_at_call 63; refine (mask_any _ _ (by assumption) (by assumption)).mono ?_; rintro e w' ⟨rfl, rfl⟩))
    go_ret
    exact ⟨ret_b (by simp [hw]), rfl⟩
theorem fits2 (n a c : Int) (b : Nat) (w : World) (g0 : w.cell? ⟨b, 0, none⟩ = some (.int .u32 a)) (g1 : w.cell? ⟨b, 1, none⟩ = some (.int .u32 c))  : Calls Tryz.prog 111 #[.int .i64 n, .slice (some ⟨b, 0, none⟩) 2 2] w fun e w' => e = .returned (.bool (isW n && fit n a && fit n c)) ∧ w = w' := by
  by_cases hw : isW n = true
  · have h12 : 1 ≤ n ∧ n ≤ 32 := by simpa [isW] using hw
    obtain ⟨h1, h2⟩ := h12
    rcases Int.lt_or_le a (pw n) with f0 | f0
    · rcases Int.lt_or_le c (pw n) with f1 | f1
      · go_enter Tryz.func111, Tryz.ntmps111
        go_wp2_with (first | (rw [rounds_succ]) | (go_at_call 62; refine (isWidth_any _ _).mono ?_; rintro e w' ⟨rfl, rfl⟩) | (go_at_call 63; refine (mask_any _ _ (by assumption) (by assumption)).mono ?_; rintro e w' ⟨rfl, rfl⟩))
        refine wp_loop_rounds 3 ?_
        go_wp2_with (first | (rw [rounds_succ]) | (go_at_call 62; refine (isWidth_any _ _).mono ?_; rintro e w' ⟨rfl, rfl⟩) | (go_at_call 63; refine (mask_any _ _ (by assumption) (by assumption)).mono ?_; rintro e w' ⟨rfl, rfl⟩))
        go_ret
        exact ⟨ret_b (by simp [hw, fit, f0, f1]), rfl⟩
      · go_enter Tryz.func111, Tryz.ntmps111
        go_wp2_with (first | (rw [rounds_succ]) | (go_at_call 62; refine (isWidth_any _ _).mono ?_; rintro e w' ⟨rfl, rfl⟩) | (go_at_call 63; refine (mask_any _ _ (by assumption) (by assumption)).mono ?_; rintro e w' ⟨rfl, rfl⟩))
        refine wp_loop_rounds 2 ?_
        go_wp2_with (first | (rw [rounds_succ]) | (go_at_call 62; refine (isWidth_any _ _).mono ?_; rintro e w' ⟨rfl, rfl⟩) | (go_at_call 63; refine (mask_any _ _ (by assumption) (by assumption)).mono ?_; rintro e w' ⟨rfl, rfl⟩))
        go_ret
        exact ⟨ret_b (by simp [hw, fit, f0, Int.not_lt.2 f1]), rfl⟩
    · go_enter Tryz.func111, Tryz.ntmps111
      go_wp2_with (first | (rw [rounds_succ]) | (go_at_call 62; refine (isWidth_any _ _).mono ?_; rintro e w' ⟨rfl, rfl⟩) | (go_at_call 63; refine (mask_any _ _ (by assumption) (by assumption)).mono ?_; rintro e w' ⟨rfl, rfl⟩))
      refine wp_loop_rounds 1 ?_
      go_wp2_with (first | (rw [rounds_succ]) | (go_at_call 62; refine (isWidth_any _ _).mono ?_; rintro e w' ⟨rfl, rfl⟩) | (go_at_call 63; refine (mask_any _ _ (by assumption) (by assumption)).mono ?_; rintro e w' ⟨rfl, rfl⟩))
      go_ret
      exact ⟨ret_b (by simp [hw, fit, Int.not_lt.2 f0]), rfl⟩
  · have hw : isW n = false := by simpa using hw
    go_enter Tryz.func111, Tryz.ntmps111
    go_wp2_with (first | (rw [rounds_succ]) | (go_at_call 62; refine (isWidth_any _ _).mono ?_; rintro e w' ⟨rfl, rfl⟩) | (go_at_call 63; refine (mask_any _ _ (by assumption) (by assumption)).mono ?_; rintro e w' ⟨rfl, rfl⟩))
    go_ret
    exact ⟨ret_b (by simp [hw]), rfl⟩
def Dr (w w' : World) : Prop := ∃ n, w' = w.drewN n
theorem Dr.refl (w : World) : Dr w w := ⟨0, rfl⟩
theorem Dr.drew {w w' : World} (h : Dr w w') (n : Nat) : Dr w (w'.drewN n) := by
  obtain ⟨m, rfl⟩ := h
  exact ⟨m + n, World.drewN_drewN _ _ _⟩
theorem Dr.below {w w' : World} (h : Dr w w') (B : Nat) : Below B w w' := by
  obtain ⟨n, rfl⟩ := h
  exact ⟨rfl, rfl, rfl, Nat.le_refl _, fun _ _ => rfl⟩
theorem Dr.trans {w w' w'' : World} (h : Dr w w') (h' : Dr w' w'') : Dr w w'' := by
  obtain ⟨m, rfl⟩ := h'
  exact h.drew m
theorem quiet_same {P : Program} {f : FuncId} {args : Array Value} {w : World} {n : Nat} {v : Value} (h : Calls P f args (w.drewN n) fun e w' => e = .returned v ∧ w.drewN n = w') :
    Calls P f args (w.drewN n) fun e w'' => e = .returned v ∧ ∃ m, w'' = w.drewN m := h.mono fun _ _ ⟨he, hm⟩ => ⟨he, n, hm.symm⟩
def totV (op n a b : Int) : Value := if good op n a b = true then .tuple #[.int .u32 (tot op n a b), .int .i64 0] else .tuple #[.int .u32 0, .int .i64 1]
theorem wraps_any (f g : Nat) (w : World) : Calls Tryz.prog 170 #[.func (.func f) #[] #[], .func (.func g) #[] #[]] w fun e w' => e = .returned (.agg #[.func (.func 197) #[] #[.pointer (some ⟨w.heap.size, 0, none⟩)], .func (.func f) #[] #[], .nilFunc]) ∧ w' = (w.alloc (.cells #[.func (.func g) #[] #[]] 217)).alloc (.cells #[.func (.func 197) #[] #[.pointer (some ⟨w.heap.size, 0, none⟩)], .func (.func f) #[] #[], .nilFunc] 185) := by
  go_enter Tryz.func170, Tryz.ntmps170
  go_wp2
  exact bodyPost_ret (v := .agg #[.func (.func 197) #[] #[.pointer (some ⟨w.heap.size, 0, none⟩)], .func (.func f) #[] #[], .nilFunc]) (by simp [results, Tryz.results170, go_sem]) rfl ⟨rfl, rfl⟩
theorem plain_any (g : Nat) (w : World) : Calls Tryz.prog 184 #[.func (.func g) #[] #[]] w fun e w' => e = .returned (.agg #[.func (.func 198) #[] #[.pointer (some ⟨w.heap.size, 0, none⟩)], .nilFunc, .nilFunc]) ∧ w' = (w.alloc (.cells #[.func (.func g) #[] #[]] 217)).alloc (.cells #[.func (.func 198) #[] #[.pointer (some ⟨w.heap.size, 0, none⟩)], .nilFunc, .nilFunc] 185) := by
  go_enter Tryz.func184, Tryz.ntmps184
  go_wp2
  exact bodyPost_ret (v := .agg #[.func (.func 198) #[] #[.pointer (some ⟨w.heap.size, 0, none⟩)], .nilFunc, .nilFunc]) (by simp [results, Tryz.results184, go_sem]) rfl ⟨rfl, rfl⟩
def opEntries (h : Nat) : Array MapEntry := #[⟨.int .i64 1, .agg #[.func (.func 197) #[] #[.pointer (some ⟨h + 1, 0, none⟩)], .func (.func 171) #[] #[], .nilFunc], 0⟩,
  ⟨.int .i64 2, .agg #[.func (.func 197) #[] #[.pointer (some ⟨h + 3, 0, none⟩)], .func (.func 173) #[] #[], .nilFunc], 1⟩,
  ⟨.int .i64 3, .agg #[.func (.func 197) #[] #[.pointer (some ⟨h + 5, 0, none⟩)], .func (.func 175) #[] #[], .nilFunc], 2⟩,
  ⟨.int .i64 4, .agg #[.func (.func 177) #[] #[], .nilFunc, .func (.func 178) #[] #[]], 3⟩,
  ⟨.int .i64 5, .agg #[.func (.func 179) #[] #[], .nilFunc, .nilFunc], 4⟩,
  ⟨.int .i64 6, .agg #[.func (.func 180) #[] #[], .nilFunc, .func (.func 182) #[] #[]], 5⟩,
  ⟨.int .i64 7, .agg #[.func (.func 183) #[] #[], .nilFunc, .nilFunc], 6⟩,
  ⟨.int .i64 8, .agg #[.func (.func 198) #[] #[.pointer (some ⟨h + 7, 0, none⟩)], .nilFunc, .nilFunc], 7⟩,
  ⟨.int .i64 9, .agg #[.func (.func 198) #[] #[.pointer (some ⟨h + 9, 0, none⟩)], .nilFunc, .nilFunc], 8⟩,
  ⟨.int .i64 10, .agg #[.func (.func 198) #[] #[.pointer (some ⟨h + 11, 0, none⟩)], .nilFunc, .nilFunc], 9⟩,
  ⟨.int .i64 11, .agg #[.func (.func 188) #[] #[], .func (.func 189) #[] #[], .nilFunc], 10⟩,
  ⟨.int .i64 12, .agg #[.func (.func 190) #[] #[], .nilFunc, .func (.func 191) #[] #[]], 11⟩,
  ⟨.int .i64 13, .agg #[.func (.func 192) #[] #[], .nilFunc, .func (.func 194) #[] #[]], 12⟩]
def Boxes (B h : Nat) (w : World) : Prop := B ≤ h ∧ h + 11 < w.heap.size ∧ w.cell? ⟨h + 1, 0, none⟩ = some (.func (.func 172) #[] #[]) ∧ w.cell? ⟨h + 3, 0, none⟩ = some (.func (.func 174) #[] #[]) ∧ w.cell? ⟨h + 5, 0, none⟩ = some (.func (.func 176) #[] #[]) ∧ w.cell? ⟨h + 7, 0, none⟩ = some (.func (.func 185) #[] #[]) ∧ w.cell? ⟨h + 9, 0, none⟩ = some (.func (.func 186) #[] #[]) ∧ w.cell? ⟨h + 11, 0, none⟩ = some (.func (.func 187) #[] #[])
def Ops (B r h : Nat) (w : World) : Prop := mapAt w r = some (opEntries h, 13) ∧ B ≤ r ∧ r < w.heap.size ∧ B ≤ h ∧ h + 11 < w.heap.size ∧ w.cell? ⟨h + 1, 0, none⟩ = some (.func (.func 172) #[] #[]) ∧ w.cell? ⟨h + 3, 0, none⟩ = some (.func (.func 174) #[] #[]) ∧ w.cell? ⟨h + 5, 0, none⟩ = some (.func (.func 176) #[] #[]) ∧ w.cell? ⟨h + 7, 0, none⟩ = some (.func (.func 185) #[] #[]) ∧ w.cell? ⟨h + 9, 0, none⟩ = some (.func (.func 186) #[] #[]) ∧ w.cell? ⟨h + 11, 0, none⟩ = some (.func (.func 187) #[] #[])
theorem operations_any (w : World) : Calls Tryz.prog 157 #[] w fun e w' => ∃ r h, e = .returned (.map (some r)) ∧ Ops w.heap.size r h w' ∧ Below w.heap.size w w' := by
  have hmm := @run_makeMap Tryz.prog
  have hins := run_insert_int Tryz.prog 209 3 185 .i64 Tryz.underlying209 Tryz.underlying3
  go_enter Tryz.func157, Tryz.ntmps157
  go_wp2_with (first | (go_at_call 170; refine (wraps_any _ _ _).mono ?_; rintro e w' ⟨rfl, rfl⟩) | (go_at_call 184; refine (plain_any _ _).mono ?_; rintro e w' ⟨rfl, rfl⟩))
  go_ret
  refine ⟨w.heap.size, w.heap.size, rfl, ⟨?_, Nat.le_refl _, ?_, Nat.le_refl _, ?_, ?_, ?_, ?_, ?_, ?_, ?_⟩, ?_⟩
  · simp [go_sem, opEntries]
  · simp; omega
  · simp
  · simp [go_sem]
  · simp [go_sem]
  · simp [go_sem]
  · simp [go_sem]
  · simp [go_sem]
  · simp [go_sem]
  · repeat (first | exact Below.refl _ _ | refine Below.alloc ?_ (by simp; try omega) _)
set_option maxHeartbeats 2000000 in
theorem asked_w (op n a b : Int) (i fd fw : Nat) (cd : Nat → Array Value) (w : World) (hf : ∀ h, Instr.findNow (.int .i64) (.int .i64 op) (opEntries h).toList 0 = some (some (i, .agg #[.func (.func fd) #[] (cd h), .func (.func fw) #[] #[], .nilFunc]))) : Calls Tryz.prog 129 #[.int .i64 op, .int .i64 n, .int .u32 a, .int .u32 b] w fun e w' => ∃ h, e = .returned (.tuple #[.agg #[.func (.func fd) #[] (cd h), .func (.func fw) #[] #[], .nilFunc], .bool (isW n && fit n a && fit n b)]) ∧ Boxes w.heap.size h w' ∧ Below w.heap.size w w' := by
  have hlk := run_lookup_int Tryz.prog 209 3 185 .i64 (.agg #[.nilFunc, .nilFunc, .nilFunc]) Tryz.underlying209 Tryz.underlying3 (fun w => by kernel_rfl)
  go_enter Tryz.func129, Tryz.ntmps129
  go_wp2_with (first | (go_at_call 157; refine (operations_any _).mono ?_; rintro e w1 ⟨r, h, rfl, ⟨m0, m1, m2, m3, m4, c1, c2, c3, c8, c9, c10⟩, hb1⟩))
  have hc := bcell hb1
  have z0 : w1.cell? ⟨w.heap.size, 0, none⟩ = some .nilFunc := by rw [hc.1 _ _ (by simp)]; simp [go_sem]
  have z1 : w1.cell? ⟨w.heap.size, 1, none⟩ = some .nilFunc := by rw [hc.1 _ _ (by simp)]; simp [go_sem]
  have z2 : w1.cell? ⟨w.heap.size, 2, none⟩ = some .nilFunc := by rw [hc.1 _ _ (by simp)]; simp [go_sem]
  have f0 : w1.frozen? ⟨w.heap.size, 0, none⟩ = false := by rw [hc.2 _ _ (by simp)]; simp [go_sem]
  have f1 : w1.frozen? ⟨w.heap.size, 1, none⟩ = false := by rw [hc.2 _ _ (by simp)]; simp [go_sem]
  have f2 : w1.frozen? ⟨w.heap.size, 2, none⟩ = false := by rw [hc.2 _ _ (by simp)]; simp [go_sem]
  have hz : w.heap.size < w1.heap.size := by have := hb1.size; simp at this; omega
  have hh : w.heap.size < h := by simp at m3; omega
  have HB : Hid (Below w.heap.size w w1) := ((Below.refl _ _).alloc (Nat.le_refl _) _).trans (hb1.mono (by simp))
  have C1 := Lib.hid c1
  have C2 := Lib.hid c2
  have C3 := Lib.hid c3
  have C8 := Lib.hid c8
  have C9 := Lib.hid c9
  have C10 := Lib.hid c10
  clear hlk hf m0 c1 c2 c3 c8 c9 c10 hc hb1 m1 m2 m3
  go_region_with (first | (go_at_call 111; refine (fits2 n a b _ _ (by simp [go_sem]) (by simp [go_sem])).mono ?_; rintro e w' ⟨rfl, rfl⟩))
  all_goals
    go_wp2
    refine bodyPost_ret (v := .tuple #[.agg #[.func (.func fd) #[] (cd h), .func (.func fw) #[] #[], .nilFunc], .bool (isW n && fit n a && fit n b)]) (by simp [results, Tryz.results129, go_sem, z0, z1, z2, hz]) rfl ⟨h, rfl, ⟨by omega, by simp; omega, ?_, ?_, ?_, ?_, ?_, ?_⟩, ?_⟩
    · exact (Only.cell (w := w1) (b := w.heap.size) (by repeat (first | with_reducible exact Only.refl _ _ | with_reducible refine Only.drew ?_ | with_reducible refine Only.alloc ?_ _ | with_reducible refine Only.at ?_ _ _)) (by omega) (by omega)).trans C1.out
    · exact (Only.cell (w := w1) (b := w.heap.size) (by repeat (first | with_reducible exact Only.refl _ _ | with_reducible refine Only.drew ?_ | with_reducible refine Only.alloc ?_ _ | with_reducible refine Only.at ?_ _ _)) (by omega) (by omega)).trans C2.out
    · exact (Only.cell (w := w1) (b := w.heap.size) (by repeat (first | with_reducible exact Only.refl _ _ | with_reducible refine Only.drew ?_ | with_reducible refine Only.alloc ?_ _ | with_reducible refine Only.at ?_ _ _)) (by omega) (by omega)).trans C3.out
    · exact (Only.cell (w := w1) (b := w.heap.size) (by repeat (first | with_reducible exact Only.refl _ _ | with_reducible refine Only.drew ?_ | with_reducible refine Only.alloc ?_ _ | with_reducible refine Only.at ?_ _ _)) (by omega) (by omega)).trans C8.out
    · exact (Only.cell (w := w1) (b := w.heap.size) (by repeat (first | with_reducible exact Only.refl _ _ | with_reducible refine Only.drew ?_ | with_reducible refine Only.alloc ?_ _ | with_reducible refine Only.at ?_ _ _)) (by omega) (by omega)).trans C9.out
    · exact (Only.cell (w := w1) (b := w.heap.size) (by repeat (first | with_reducible exact Only.refl _ _ | with_reducible refine Only.drew ?_ | with_reducible refine Only.alloc ?_ _ | with_reducible refine Only.at ?_ _ _)) (by omega) (by omega)).trans C10.out
    · exact HB.out.trans (by repeat (first | with_reducible exact Below.refl _ _ | with_reducible refine Below.drew ?_ | with_reducible refine Below.alloc ?_ (by simp; try omega) _ | with_reducible refine below_at ?_ (Nat.le_refl _) _ _))
set_option maxHeartbeats 2000000 in
theorem asked_l (op n a b : Int) (i fd fl : Nat) (cd : Nat → Array Value) (w : World) (hf : ∀ h, Instr.findNow (.int .i64) (.int .i64 op) (opEntries h).toList 0 = some (some (i, .agg #[.func (.func fd) #[] (cd h), .nilFunc, .func (.func fl) #[] #[]]))) : Calls Tryz.prog 129 #[.int .i64 op, .int .i64 n, .int .u32 a, .int .u32 b] w fun e w' => ∃ h, e = .returned (.tuple #[.agg #[.func (.func fd) #[] (cd h), .nilFunc, .func (.func fl) #[] #[]], .bool (isW n && fit n a && fit n b)]) ∧ Boxes w.heap.size h w' ∧ Below w.heap.size w w' := by
  have hlk := run_lookup_int Tryz.prog 209 3 185 .i64 (.agg #[.nilFunc, .nilFunc, .nilFunc]) Tryz.underlying209 Tryz.underlying3 (fun w => by kernel_rfl)
  go_enter Tryz.func129, Tryz.ntmps129
  go_wp2_with (first | (go_at_call 157; refine (operations_any _).mono ?_; rintro e w1 ⟨r, h, rfl, ⟨m0, m1, m2, m3, m4, c1, c2, c3, c8, c9, c10⟩, hb1⟩))
  have hc := bcell hb1
  have z0 : w1.cell? ⟨w.heap.size, 0, none⟩ = some .nilFunc := by rw [hc.1 _ _ (by simp)]; simp [go_sem]
  have z1 : w1.cell? ⟨w.heap.size, 1, none⟩ = some .nilFunc := by rw [hc.1 _ _ (by simp)]; simp [go_sem]
  have z2 : w1.cell? ⟨w.heap.size, 2, none⟩ = some .nilFunc := by rw [hc.1 _ _ (by simp)]; simp [go_sem]
  have f0 : w1.frozen? ⟨w.heap.size, 0, none⟩ = false := by rw [hc.2 _ _ (by simp)]; simp [go_sem]
  have f1 : w1.frozen? ⟨w.heap.size, 1, none⟩ = false := by rw [hc.2 _ _ (by simp)]; simp [go_sem]
  have f2 : w1.frozen? ⟨w.heap.size, 2, none⟩ = false := by rw [hc.2 _ _ (by simp)]; simp [go_sem]
  have hz : w.heap.size < w1.heap.size := by have := hb1.size; simp at this; omega
  have hh : w.heap.size < h := by simp at m3; omega
  have HB : Hid (Below w.heap.size w w1) := ((Below.refl _ _).alloc (Nat.le_refl _) _).trans (hb1.mono (by simp))
  have C1 := Lib.hid c1
  have C2 := Lib.hid c2
  have C3 := Lib.hid c3
  have C8 := Lib.hid c8
  have C9 := Lib.hid c9
  have C10 := Lib.hid c10
  clear hlk hf m0 c1 c2 c3 c8 c9 c10 hc hb1 m1 m2 m3
  go_region_with (first | (go_at_call 111; refine (fits2 n a b _ _ (by simp [go_sem]) (by simp [go_sem])).mono ?_; rintro e w' ⟨rfl, rfl⟩))
  all_goals
    go_wp2
    refine bodyPost_ret (v := .tuple #[.agg #[.func (.func fd) #[] (cd h), .nilFunc, .func (.func fl) #[] #[]], .bool (isW n && fit n a && fit n b)]) (by simp [results, Tryz.results129, go_sem, z0, z1, z2, hz]) rfl ⟨h, rfl, ⟨by omega, by simp; omega, ?_, ?_, ?_, ?_, ?_, ?_⟩, ?_⟩
    · exact (Only.cell (w := w1) (b := w.heap.size) (by repeat (first | with_reducible exact Only.refl _ _ | with_reducible refine Only.drew ?_ | with_reducible refine Only.alloc ?_ _ | with_reducible refine Only.at ?_ _ _)) (by omega) (by omega)).trans C1.out
    · exact (Only.cell (w := w1) (b := w.heap.size) (by repeat (first | with_reducible exact Only.refl _ _ | with_reducible refine Only.drew ?_ | with_reducible refine Only.alloc ?_ _ | with_reducible refine Only.at ?_ _ _)) (by omega) (by omega)).trans C2.out
    · exact (Only.cell (w := w1) (b := w.heap.size) (by repeat (first | with_reducible exact Only.refl _ _ | with_reducible refine Only.drew ?_ | with_reducible refine Only.alloc ?_ _ | with_reducible refine Only.at ?_ _ _)) (by omega) (by omega)).trans C3.out
    · exact (Only.cell (w := w1) (b := w.heap.size) (by repeat (first | with_reducible exact Only.refl _ _ | with_reducible refine Only.drew ?_ | with_reducible refine Only.alloc ?_ _ | with_reducible refine Only.at ?_ _ _)) (by omega) (by omega)).trans C8.out
    · exact (Only.cell (w := w1) (b := w.heap.size) (by repeat (first | with_reducible exact Only.refl _ _ | with_reducible refine Only.drew ?_ | with_reducible refine Only.alloc ?_ _ | with_reducible refine Only.at ?_ _ _)) (by omega) (by omega)).trans C9.out
    · exact (Only.cell (w := w1) (b := w.heap.size) (by repeat (first | with_reducible exact Only.refl _ _ | with_reducible refine Only.drew ?_ | with_reducible refine Only.alloc ?_ _ | with_reducible refine Only.at ?_ _ _)) (by omega) (by omega)).trans C10.out
    · exact HB.out.trans (by repeat (first | with_reducible exact Below.refl _ _ | with_reducible refine Below.drew ?_ | with_reducible refine Below.alloc ?_ (by simp; try omega) _ | with_reducible refine below_at ?_ (Nat.le_refl _) _ _))
set_option maxHeartbeats 2000000 in
theorem asked_n (op n a b : Int) (i fd : Nat) (cd : Nat → Array Value) (w : World) (hf : ∀ h, Instr.findNow (.int .i64) (.int .i64 op) (opEntries h).toList 0 = some (some (i, .agg #[.func (.func fd) #[] (cd h), .nilFunc, .nilFunc]))) : Calls Tryz.prog 129 #[.int .i64 op, .int .i64 n, .int .u32 a, .int .u32 b] w fun e w' => ∃ h, e = .returned (.tuple #[.agg #[.func (.func fd) #[] (cd h), .nilFunc, .nilFunc], .bool (isW n && fit n a && fit n b)]) ∧ Boxes w.heap.size h w' ∧ Below w.heap.size w w' := by
  have hlk := run_lookup_int Tryz.prog 209 3 185 .i64 (.agg #[.nilFunc, .nilFunc, .nilFunc]) Tryz.underlying209 Tryz.underlying3 (fun w => by kernel_rfl)
  go_enter Tryz.func129, Tryz.ntmps129
  go_wp2_with (first | (go_at_call 157; refine (operations_any _).mono ?_; rintro e w1 ⟨r, h, rfl, ⟨m0, m1, m2, m3, m4, c1, c2, c3, c8, c9, c10⟩, hb1⟩))
  have hc := bcell hb1
  have z0 : w1.cell? ⟨w.heap.size, 0, none⟩ = some .nilFunc := by rw [hc.1 _ _ (by simp)]; simp [go_sem]
  have z1 : w1.cell? ⟨w.heap.size, 1, none⟩ = some .nilFunc := by rw [hc.1 _ _ (by simp)]; simp [go_sem]
  have z2 : w1.cell? ⟨w.heap.size, 2, none⟩ = some .nilFunc := by rw [hc.1 _ _ (by simp)]; simp [go_sem]
  have f0 : w1.frozen? ⟨w.heap.size, 0, none⟩ = false := by rw [hc.2 _ _ (by simp)]; simp [go_sem]
  have f1 : w1.frozen? ⟨w.heap.size, 1, none⟩ = false := by rw [hc.2 _ _ (by simp)]; simp [go_sem]
  have f2 : w1.frozen? ⟨w.heap.size, 2, none⟩ = false := by rw [hc.2 _ _ (by simp)]; simp [go_sem]
  have hz : w.heap.size < w1.heap.size := by have := hb1.size; simp at this; omega
  have hh : w.heap.size < h := by simp at m3; omega
  have HB : Hid (Below w.heap.size w w1) := ((Below.refl _ _).alloc (Nat.le_refl _) _).trans (hb1.mono (by simp))
  have C1 := Lib.hid c1
  have C2 := Lib.hid c2
  have C3 := Lib.hid c3
  have C8 := Lib.hid c8
  have C9 := Lib.hid c9
  have C10 := Lib.hid c10
  clear hlk hf m0 c1 c2 c3 c8 c9 c10 hc hb1 m1 m2 m3
  go_region_with (first | (go_at_call 111; refine (fits2 n a b _ _ (by simp [go_sem]) (by simp [go_sem])).mono ?_; rintro e w' ⟨rfl, rfl⟩))
  all_goals
    go_wp2
    refine bodyPost_ret (v := .tuple #[.agg #[.func (.func fd) #[] (cd h), .nilFunc, .nilFunc], .bool (isW n && fit n a && fit n b)]) (by simp [results, Tryz.results129, go_sem, z0, z1, z2, hz]) rfl ⟨h, rfl, ⟨by omega, by simp; omega, ?_, ?_, ?_, ?_, ?_, ?_⟩, ?_⟩
    · exact (Only.cell (w := w1) (b := w.heap.size) (by repeat (first | with_reducible exact Only.refl _ _ | with_reducible refine Only.drew ?_ | with_reducible refine Only.alloc ?_ _ | with_reducible refine Only.at ?_ _ _)) (by omega) (by omega)).trans C1.out
    · exact (Only.cell (w := w1) (b := w.heap.size) (by repeat (first | with_reducible exact Only.refl _ _ | with_reducible refine Only.drew ?_ | with_reducible refine Only.alloc ?_ _ | with_reducible refine Only.at ?_ _ _)) (by omega) (by omega)).trans C2.out
    · exact (Only.cell (w := w1) (b := w.heap.size) (by repeat (first | with_reducible exact Only.refl _ _ | with_reducible refine Only.drew ?_ | with_reducible refine Only.alloc ?_ _ | with_reducible refine Only.at ?_ _ _)) (by omega) (by omega)).trans C3.out
    · exact (Only.cell (w := w1) (b := w.heap.size) (by repeat (first | with_reducible exact Only.refl _ _ | with_reducible refine Only.drew ?_ | with_reducible refine Only.alloc ?_ _ | with_reducible refine Only.at ?_ _ _)) (by omega) (by omega)).trans C8.out
    · exact (Only.cell (w := w1) (b := w.heap.size) (by repeat (first | with_reducible exact Only.refl _ _ | with_reducible refine Only.drew ?_ | with_reducible refine Only.alloc ?_ _ | with_reducible refine Only.at ?_ _ _)) (by omega) (by omega)).trans C9.out
    · exact (Only.cell (w := w1) (b := w.heap.size) (by repeat (first | with_reducible exact Only.refl _ _ | with_reducible refine Only.drew ?_ | with_reducible refine Only.alloc ?_ _ | with_reducible refine Only.at ?_ _ _)) (by omega) (by omega)).trans C10.out
    · exact HB.out.trans (by repeat (first | with_reducible exact Below.refl _ _ | with_reducible refine Below.drew ?_ | with_reducible refine Below.alloc ?_ (by simp; try omega) _ | with_reducible refine below_at ?_ (Nat.le_refl _) _ _))
set_option maxHeartbeats 2000000 in
theorem asked_none (op n a b : Int) (w : World) (hf : ∀ h, Instr.findNow (.int .i64) (.int .i64 op) (opEntries h).toList 0 = some none) : Calls Tryz.prog 129 #[.int .i64 op, .int .i64 n, .int .u32 a, .int .u32 b] w fun e w' => e = .returned (.tuple #[.agg #[.nilFunc, .nilFunc, .nilFunc], .bool false]) ∧ Below w.heap.size w w' := by
  have hlk := run_lookup_int Tryz.prog 209 3 185 .i64 (.agg #[.nilFunc, .nilFunc, .nilFunc]) Tryz.underlying209 Tryz.underlying3 (fun w => by kernel_rfl)
  go_enter Tryz.func129, Tryz.ntmps129
  go_wp2_with (first | (go_at_call 157; refine (operations_any _).mono ?_; rintro e w1 ⟨r, h, rfl, ⟨m0, m1, m2, m3, m4, c1, c2, c3, c8, c9, c10⟩, hb1⟩))
  have hc := bcell hb1
  have z0 : w1.cell? ⟨w.heap.size, 0, none⟩ = some .nilFunc := by rw [hc.1 _ _ (by simp)]; simp [go_sem]
  have z1 : w1.cell? ⟨w.heap.size, 1, none⟩ = some .nilFunc := by rw [hc.1 _ _ (by simp)]; simp [go_sem]
  have z2 : w1.cell? ⟨w.heap.size, 2, none⟩ = some .nilFunc := by rw [hc.1 _ _ (by simp)]; simp [go_sem]
  have f0 : w1.frozen? ⟨w.heap.size, 0, none⟩ = false := by rw [hc.2 _ _ (by simp)]; simp [go_sem]
  have f1 : w1.frozen? ⟨w.heap.size, 1, none⟩ = false := by rw [hc.2 _ _ (by simp)]; simp [go_sem]
  have f2 : w1.frozen? ⟨w.heap.size, 2, none⟩ = false := by rw [hc.2 _ _ (by simp)]; simp [go_sem]
  have hz : w.heap.size < w1.heap.size := by have := hb1.size; simp at this; omega
  have hh : w.heap.size < h := by simp at m3; omega
  have HB : Hid (Below w.heap.size w w1) := ((Below.refl _ _).alloc (Nat.le_refl _) _).trans (hb1.mono (by simp))
  have C1 := Lib.hid c1
  have C2 := Lib.hid c2
  have C3 := Lib.hid c3
  have C8 := Lib.hid c8
  have C9 := Lib.hid c9
  have C10 := Lib.hid c10
  clear hlk hf m0 c1 c2 c3 c8 c9 c10 hc hb1 m1 m2 m3
  clear C1 C2 C3 C8 C9 C10 hh m4
  go_region
  all_goals
    go_wp2
    refine bodyPost_ret (v := .tuple #[.agg #[.nilFunc, .nilFunc, .nilFunc], .bool false]) (by simp [results, Tryz.results129, go_sem, z0, z1, z2, hz]) rfl ⟨rfl, ?_⟩
    exact HB.out.trans (by repeat (first | with_reducible exact Below.refl _ _ | with_reducible refine Below.drew ?_ | with_reducible refine Below.alloc ?_ (by simp; try omega) _ | with_reducible refine below_at ?_ (Nat.le_refl _) _ _))
end Go.Proofs.YtgcfadnnajahhaaGreatDoor
namespace Go.Proofs.YtgcfadnnajahhaaGreatDoor
open Go.RowKit Wd
set_option linter.unusedVariables false
set_option linter.unusedSimpArgs false
theorem fn2 (a b : Int) (w : World) : Calls Tryz.prog 172 #[.int .u32 a, .int .u32 b] w fun e w' => e = .returned (.int .u32 ((a + b) % 4294967296)) ∧ w = w' := by
  go_enter Tryz.func172, Tryz.ntmps172
  go_wp2
  go_ret
  exact ⟨rfl, rfl⟩
theorem fn4 (a b : Int) (w : World) : Calls Tryz.prog 174 #[.int .u32 a, .int .u32 b] w fun e w' => e = .returned (.int .u32 ((a - b) % 4294967296)) ∧ w = w' := by
  go_enter Tryz.func174, Tryz.ntmps174
  go_wp2
  go_ret
  exact ⟨rfl, rfl⟩
theorem fn6 (a b : Int) (w : World) : Calls Tryz.prog 176 #[.int .u32 a, .int .u32 b] w fun e w' => e = .returned (.int .u32 (a * b % 4294967296)) ∧ w = w' := by
  go_enter Tryz.func176, Tryz.ntmps176
  go_wp2
  go_ret
  exact ⟨rfl, rfl⟩
theorem fn13 (a b : Int) (w : World) (h3 : 0 ≤ a) (h4 : a ≤ 4294967295) (h5 : 0 ≤ b) (h6 : b ≤ 4294967295) : Calls Tryz.prog 185 #[.int .u32 a, .int .u32 b] w fun e w' => e = .returned (.int .u32 (((a.toNat &&& b.toNat : Nat) : Int))) ∧ w = w' := by
  go_enter Tryz.func185, Tryz.ntmps185
  go_wp2
  go_ret
  exact ⟨ret_i (u32_and a b h3 (by omega) h5 (by omega)), rfl⟩
theorem fn14 (a b : Int) (w : World) (h3 : 0 ≤ a) (h4 : a ≤ 4294967295) (h5 : 0 ≤ b) (h6 : b ≤ 4294967295) : Calls Tryz.prog 186 #[.int .u32 a, .int .u32 b] w fun e w' => e = .returned (.int .u32 (((a.toNat ||| b.toNat : Nat) : Int))) ∧ w = w' := by
  go_enter Tryz.func186, Tryz.ntmps186
  go_wp2
  go_ret
  exact ⟨ret_i (u32_or a b h3 (by omega) h5 (by omega)), rfl⟩
theorem fn15 (a b : Int) (w : World) (h3 : 0 ≤ a) (h4 : a ≤ 4294967295) (h5 : 0 ≤ b) (h6 : b ≤ 4294967295) : Calls Tryz.prog 187 #[.int .u32 a, .int .u32 b] w fun e w' => e = .returned (.int .u32 (((a.toNat ^^^ b.toNat : Nat) : Int))) ∧ w = w' := by
  go_enter Tryz.func187, Tryz.ntmps187
  go_wp2
  go_ret
  exact ⟨ret_i (u32_xor a b h3 (by omega) h5 (by omega)), rfl⟩
theorem quotient_none (n a b : Int) (w : World) (h1 : 1 ≤ n) (h2 : n ≤ 32) (h3 : 0 ≤ a) (h4 : a < pw n) (h5 : 0 ≤ b) (h6 : b < pw n) (h : has 6 n a b = false) : Calls Tryz.prog 181 #[.int .i64 n, .int .u32 a, .int .u32 b] w fun e w' => e = .returned (.tuple #[.int .i64 0, .int .i64 0, .bool false]) ∧ Dr w w' := by
  obtain ⟨m, rfl⟩ := Int.eq_ofNat_of_zero_le (show 0 ≤ n by omega)
  have hp := @pw_le32 (m : Int) (by omega)
  have hp0 := pw_pos (m : Int)
  have x1 := sgn_lo32 (n := m) (a := a) (by omega) (by omega) h3
  have x2 := sgn_hi32 (n := m) (a := a) (by omega) (by omega) h4
  have y1 := sgn_lo32 (n := m) (a := b) (by omega) (by omega) h5
  have y2 := sgn_hi32 (n := m) (a := b) (by omega) (by omega) h6
  have hp3 := @pw_le31 ((m : Int) - 1) (by omega)
  have hp4 := pw_pos ((m : Int) - 1)
  have hz := sgn_zero (n := m) (b := b) (by omega) h6
  have hpw : wrap64 ((2 : Int) ^ (m - 1)) = pw ((m : Int) - 1) := by
    have e : ((m : Int) - 1).toNat = m - 1 := by omega
    rw [← e]; exact IntWalk.wrap64_in (pw ((m : Int) - 1)) (by omega)
  by_cases hb : b = 0
  · have hb0 : (sgn m b == 0) = true := by simpa using hz.2 hb
    clear hz h hb
    go_enter Tryz.func181, Tryz.ntmps181
    go_wp2_with (first | (go_at_call 164; refine (signed_any _ _ _ (by omega) (by omega) (by omega) (by omega)).mono ?_; rintro e w' ⟨rfl, rfl⟩))
    go_ret3
    exact ⟨rfl, Dr.refl _⟩
  · have hxy : sgn m a = -pw (m - 1) ∧ sgn m b = -1 := by simpa [has, hb] using h
    have hx : (sgn m a == -pw (m - 1)) = true := by simpa using hxy.1
    have hy : (sgn m b == -1) = true := by simpa using hxy.2
    have hb0 : (sgn m b == 0) = false := by simp [hxy.2]
    clear hz h hxy hb
    go_enter Tryz.func181, Tryz.ntmps181
    go_wp2_with (first | (go_at_call 164; refine (signed_any _ _ _ (by omega) (by omega) (by omega) (by omega)).mono ?_; rintro e w' ⟨rfl, rfl⟩))
    go_ret3
    exact ⟨rfl, Dr.refl _⟩
theorem quotient_some (n a b : Int) (w : World) (h1 : 1 ≤ n) (h2 : n ≤ 32) (h3 : 0 ≤ a) (h4 : a < pw n) (h5 : 0 ≤ b) (h6 : b < pw n) (h : has 6 n a b = true) : Calls Tryz.prog 181 #[.int .i64 n, .int .u32 a, .int .u32 b] w fun e w' => e = .returned (.tuple #[.int .i64 ((sgn n a).tdiv (sgn n b)), .int .i64 ((sgn n a).tmod (sgn n b)), .bool true]) ∧ Dr w w' := by
  obtain ⟨m, rfl⟩ := Int.eq_ofNat_of_zero_le (show 0 ≤ n by omega)
  have hp := @pw_le32 (m : Int) (by omega)
  have hp0 := pw_pos (m : Int)
  have x1 := sgn_lo32 (n := m) (a := a) (by omega) (by omega) h3
  have x2 := sgn_hi32 (n := m) (a := a) (by omega) (by omega) h4
  have y1 := sgn_lo32 (n := m) (a := b) (by omega) (by omega) h5
  have y2 := sgn_hi32 (n := m) (a := b) (by omega) (by omega) h6
  have hp3 := @pw_le31 ((m : Int) - 1) (by omega)
  have hp4 := pw_pos ((m : Int) - 1)
  have hz := sgn_zero (n := m) (b := b) (by omega) h6
  have hpw : wrap64 ((2 : Int) ^ (m - 1)) = pw ((m : Int) - 1) := by
    have e : ((m : Int) - 1).toNat = m - 1 := by omega
    rw [← e]; exact IntWalk.wrap64_in (pw ((m : Int) - 1)) (by omega)
  have hb : b ≠ 0 := by
    intro hb; simp [has, hb] at h
  have hxy : ¬ (sgn m a = -pw (m - 1) ∧ sgn m b = -1) := by
    intro hb; simp [has, hb] at h
  have hy0 : ¬ sgn m b = 0 := by omega
  have hb0 : (sgn m b == 0) = false := by simpa using hy0
  clear hz h hb
  have q := @tdiv_bd (sgn m a) (sgn m b) x1 (by omega)
  obtain ⟨q1, q2⟩ := q
  have e0 : wrap64 ((sgn m a).tdiv (sgn m b)) = (sgn m a).tdiv (sgn m b) := IntWalk.wrap64_in _ (by omega)
  by_cases hy : sgn m b = -1
  · have hx : (sgn m a == -pw (m - 1)) = false := by
      have : ¬ sgn m a = -pw (m - 1) := fun e => hxy ⟨e, hy⟩
      simpa using this
    have hy1 : (sgn m b == -1) = true := by simpa using hy
    clear hy hxy
    go_enter Tryz.func181, Tryz.ntmps181
    go_wp2_with (first | (go_at_call 164; refine (signed_any _ _ _ (by omega) (by omega) (by omega) (by omega)).mono ?_; rintro e w' ⟨rfl, rfl⟩))
    go_quiet (fail)
    go_wp2
    go_ret3
    exact ⟨rfl, (Dr.refl _).drew _⟩
  · have hy1 : (sgn m b == -1) = false := by simpa using hy
    clear hy hxy
    go_enter Tryz.func181, Tryz.ntmps181
    go_wp2_with (first | (go_at_call 164; refine (signed_any _ _ _ (by omega) (by omega) (by omega) (by omega)).mono ?_; rintro e w' ⟨rfl, rfl⟩))
    go_quiet (fail)
    go_wp2
    go_ret3
    exact ⟨rfl, (Dr.refl _).drew _⟩
theorem pdo_1 (n a b : Int) (w : World) (h1 : 1 ≤ n) (h2 : n ≤ 32) (h3 : 0 ≤ a) (h4 : a < pw n) (h5 : 0 ≤ b) (h6 : b < pw n) (h : Nat) (hc : w.cell? ⟨h, 0, none⟩ = some (.func (.func 172) #[] #[])) : Calls Tryz.prog 197 #[.int .i64 n, .int .u32 a, .int .u32 b, .pointer (some ⟨h, 0, none⟩)] w fun e w' => e = .returned (.tuple #[.int .u32 (tot 1 n a b), .bool (has 1 n a b)]) ∧ Dr w w' := by
  obtain ⟨m, rfl⟩ := Int.eq_ofNat_of_zero_le (show 0 ≤ n by omega)
  have hp := @pw_le32 (m : Int) (by omega)
  have hp0 := pw_pos (m : Int)
  have hm := mask_wr (n := m) (by omega) (a + b)
  have hv : tot 1 m a b = wr m (a + b) := by simp [tot, has]
  have hh : has 1 m a b = true := by simp [tot, has]
  rw [hv, hh]
  clear hv hh
  go_enter Tryz.func197, Tryz.ntmps197
  go_wp2_with (first | (go_at_call 63; refine (mask_any _ _ (by assumption) (by assumption)).mono ?_; rintro e w' ⟨rfl, rfl⟩) | (go_at_call 172; refine (fn2 _ _ _).mono ?_; rintro e w' ⟨rfl, rfl⟩))
  go_ret2
  exact ⟨rfl, Dr.refl _⟩
theorem pdo_2 (n a b : Int) (w : World) (h1 : 1 ≤ n) (h2 : n ≤ 32) (h3 : 0 ≤ a) (h4 : a < pw n) (h5 : 0 ≤ b) (h6 : b < pw n) (h : Nat) (hc : w.cell? ⟨h, 0, none⟩ = some (.func (.func 174) #[] #[])) : Calls Tryz.prog 197 #[.int .i64 n, .int .u32 a, .int .u32 b, .pointer (some ⟨h, 0, none⟩)] w fun e w' => e = .returned (.tuple #[.int .u32 (tot 2 n a b), .bool (has 2 n a b)]) ∧ Dr w w' := by
  obtain ⟨m, rfl⟩ := Int.eq_ofNat_of_zero_le (show 0 ≤ n by omega)
  have hp := @pw_le32 (m : Int) (by omega)
  have hp0 := pw_pos (m : Int)
  have hm := mask_wr (n := m) (by omega) (a - b)
  have hv : tot 2 m a b = wr m (a - b) := by simp [tot, has]
  have hh : has 2 m a b = true := by simp [tot, has]
  rw [hv, hh]
  clear hv hh
  go_enter Tryz.func197, Tryz.ntmps197
  go_wp2_with (first | (go_at_call 63; refine (mask_any _ _ (by assumption) (by assumption)).mono ?_; rintro e w' ⟨rfl, rfl⟩) | (go_at_call 174; refine (fn4 _ _ _).mono ?_; rintro e w' ⟨rfl, rfl⟩))
  go_ret2
  exact ⟨rfl, Dr.refl _⟩
theorem pdo_3 (n a b : Int) (w : World) (h1 : 1 ≤ n) (h2 : n ≤ 32) (h3 : 0 ≤ a) (h4 : a < pw n) (h5 : 0 ≤ b) (h6 : b < pw n) (h : Nat) (hc : w.cell? ⟨h, 0, none⟩ = some (.func (.func 176) #[] #[])) : Calls Tryz.prog 197 #[.int .i64 n, .int .u32 a, .int .u32 b, .pointer (some ⟨h, 0, none⟩)] w fun e w' => e = .returned (.tuple #[.int .u32 (tot 3 n a b), .bool (has 3 n a b)]) ∧ Dr w w' := by
  obtain ⟨m, rfl⟩ := Int.eq_ofNat_of_zero_le (show 0 ≤ n by omega)
  have hp := @pw_le32 (m : Int) (by omega)
  have hp0 := pw_pos (m : Int)
  have hm := mask_wr (n := m) (by omega) (a * b)
  have hv : tot 3 m a b = wr m (a * b) := by simp [tot, has]
  have hh : has 3 m a b = true := by simp [tot, has]
  rw [hv, hh]
  clear hv hh
  go_enter Tryz.func197, Tryz.ntmps197
  go_wp2_with (first | (go_at_call 63; refine (mask_any _ _ (by assumption) (by assumption)).mono ?_; rintro e w' ⟨rfl, rfl⟩) | (go_at_call 176; refine (fn6 _ _ _).mono ?_; rintro e w' ⟨rfl, rfl⟩))
  go_ret2
  exact ⟨rfl, Dr.refl _⟩
theorem pdo_8 (n a b : Int) (w : World) (h1 : 1 ≤ n) (h2 : n ≤ 32) (h3 : 0 ≤ a) (h4 : a < pw n) (h5 : 0 ≤ b) (h6 : b < pw n) (h : Nat) (hc : w.cell? ⟨h, 0, none⟩ = some (.func (.func 185) #[] #[])) : Calls Tryz.prog 198 #[.int .i64 n, .int .u32 a, .int .u32 b, .pointer (some ⟨h, 0, none⟩)] w fun e w' => e = .returned (.tuple #[.int .u32 (tot 8 n a b), .bool (has 8 n a b)]) ∧ Dr w w' := by
  obtain ⟨m, rfl⟩ := Int.eq_ofNat_of_zero_le (show 0 ≤ n by omega)
  have hp := @pw_le32 (m : Int) (by omega)
  have hp0 := pw_pos (m : Int)
  have hv : tot 8 m a b = ((a.toNat &&& b.toNat : Nat) : Int) := by simp [tot, has]
  have hh : has 8 m a b = true := by simp [tot, has]
  rw [hv, hh]
  clear hv hh
  go_enter Tryz.func198, Tryz.ntmps198
  go_wp2_with (first | (go_at_call 63; refine (mask_any _ _ (by assumption) (by assumption)).mono ?_; rintro e w' ⟨rfl, rfl⟩) | (go_at_call 185; refine (fn13 _ _ _ (by omega) (by omega) (by omega) (by omega)).mono ?_; rintro e w' ⟨rfl, rfl⟩))
  go_ret2
  exact ⟨rfl, Dr.refl _⟩
theorem pdo_9 (n a b : Int) (w : World) (h1 : 1 ≤ n) (h2 : n ≤ 32) (h3 : 0 ≤ a) (h4 : a < pw n) (h5 : 0 ≤ b) (h6 : b < pw n) (h : Nat) (hc : w.cell? ⟨h, 0, none⟩ = some (.func (.func 186) #[] #[])) : Calls Tryz.prog 198 #[.int .i64 n, .int .u32 a, .int .u32 b, .pointer (some ⟨h, 0, none⟩)] w fun e w' => e = .returned (.tuple #[.int .u32 (tot 9 n a b), .bool (has 9 n a b)]) ∧ Dr w w' := by
  obtain ⟨m, rfl⟩ := Int.eq_ofNat_of_zero_le (show 0 ≤ n by omega)
  have hp := @pw_le32 (m : Int) (by omega)
  have hp0 := pw_pos (m : Int)
  have hv : tot 9 m a b = ((a.toNat ||| b.toNat : Nat) : Int) := by simp [tot, has]
  have hh : has 9 m a b = true := by simp [tot, has]
  rw [hv, hh]
  clear hv hh
  go_enter Tryz.func198, Tryz.ntmps198
  go_wp2_with (first | (go_at_call 63; refine (mask_any _ _ (by assumption) (by assumption)).mono ?_; rintro e w' ⟨rfl, rfl⟩) | (go_at_call 186; refine (fn14 _ _ _ (by omega) (by omega) (by omega) (by omega)).mono ?_; rintro e w' ⟨rfl, rfl⟩))
  go_ret2
  exact ⟨rfl, Dr.refl _⟩
theorem pdo_10 (n a b : Int) (w : World) (h1 : 1 ≤ n) (h2 : n ≤ 32) (h3 : 0 ≤ a) (h4 : a < pw n) (h5 : 0 ≤ b) (h6 : b < pw n) (h : Nat) (hc : w.cell? ⟨h, 0, none⟩ = some (.func (.func 187) #[] #[])) : Calls Tryz.prog 198 #[.int .i64 n, .int .u32 a, .int .u32 b, .pointer (some ⟨h, 0, none⟩)] w fun e w' => e = .returned (.tuple #[.int .u32 (tot 10 n a b), .bool (has 10 n a b)]) ∧ Dr w w' := by
  obtain ⟨m, rfl⟩ := Int.eq_ofNat_of_zero_le (show 0 ≤ n by omega)
  have hp := @pw_le32 (m : Int) (by omega)
  have hp0 := pw_pos (m : Int)
  have hv : tot 10 m a b = ((a.toNat ^^^ b.toNat : Nat) : Int) := by simp [tot, has]
  have hh : has 10 m a b = true := by simp [tot, has]
  rw [hv, hh]
  clear hv hh
  go_enter Tryz.func198, Tryz.ntmps198
  go_wp2_with (first | (go_at_call 63; refine (mask_any _ _ (by assumption) (by assumption)).mono ?_; rintro e w' ⟨rfl, rfl⟩) | (go_at_call 187; refine (fn15 _ _ _ (by omega) (by omega) (by omega) (by omega)).mono ?_; rintro e w' ⟨rfl, rfl⟩))
  go_ret2
  exact ⟨rfl, Dr.refl _⟩
theorem pdo_4 (n a b : Int) (w : World) (h1 : 1 ≤ n) (h2 : n ≤ 32) (h3 : 0 ≤ a) (h4 : a < pw n) (h5 : 0 ≤ b) (h6 : b < pw n) : Calls Tryz.prog 177 #[.int .i64 n, .int .u32 a, .int .u32 b] w fun e w' => e = .returned (.tuple #[.int .u32 (tot 4 n a b), .bool (has 4 n a b)]) ∧ Dr w w' := by
  obtain ⟨m, rfl⟩ := Int.eq_ofNat_of_zero_le (show 0 ≤ n by omega)
  have hp := @pw_le32 (m : Int) (by omega)
  have hp0 := pw_pos (m : Int)
  by_cases hb : b = 0
  · have hb1 : (b == 0) = true := by simpa using hb
    have hv : tot 4 m a b = pw m - 1 := by simp [tot, has, hb]
    have hh : has 4 m a b = false := by simp [tot, has, hb]
    rw [hv, hh]
    clear hv hh
    clear hb
    go_enter Tryz.func177, Tryz.ntmps177
    go_wp2_with (first | (go_at_call 63; refine (mask_any _ _ (by assumption) (by assumption)).mono ?_; rintro e w' ⟨rfl, rfl⟩))
    go_ret2
    exact ⟨rfl, Dr.refl _⟩
  · have hb1 : (b == 0) = false := by simpa using hb
    have hb2 : 1 ≤ b := by omega
    have hv : tot 4 m a b = a / b := by simp [tot, has, hb]
    have hh : has 4 m a b = true := by simp [tot, has, hb]
    rw [hv, hh]
    clear hv hh
    clear hb
    go_enter Tryz.func177, Tryz.ntmps177
    go_wp2_with (first | (go_at_call 63; refine (mask_any _ _ (by assumption) (by assumption)).mono ?_; rintro e w' ⟨rfl, rfl⟩))
    go_ret2
    exact ⟨rfl, Dr.refl _⟩
theorem pdo_5 (n a b : Int) (w : World) (h1 : 1 ≤ n) (h2 : n ≤ 32) (h3 : 0 ≤ a) (h4 : a < pw n) (h5 : 0 ≤ b) (h6 : b < pw n) : Calls Tryz.prog 179 #[.int .i64 n, .int .u32 a, .int .u32 b] w fun e w' => e = .returned (.tuple #[.int .u32 (tot 5 n a b), .bool (has 5 n a b)]) ∧ Dr w w' := by
  obtain ⟨m, rfl⟩ := Int.eq_ofNat_of_zero_le (show 0 ≤ n by omega)
  have hp := @pw_le32 (m : Int) (by omega)
  have hp0 := pw_pos (m : Int)
  by_cases hb : b = 0
  · have hb1 : (b == 0) = true := by simpa using hb
    have hv : tot 5 m a b = a := by simp [tot, has, hb]
    have hh : has 5 m a b = false := by simp [tot, has, hb]
    rw [hv, hh]
    clear hv hh
    clear hb
    go_enter Tryz.func179, Tryz.ntmps179
    go_wp2_with (first | (go_at_call 63; refine (mask_any _ _ (by assumption) (by assumption)).mono ?_; rintro e w' ⟨rfl, rfl⟩))
    go_ret2
    exact ⟨rfl, Dr.refl _⟩
  · have hb1 : (b == 0) = false := by simpa using hb
    have hb2 : 1 ≤ b := by omega
    have hv : tot 5 m a b = a % b := by simp [tot, has, hb]
    have hh : has 5 m a b = true := by simp [tot, has, hb]
    rw [hv, hh]
    clear hv hh
    clear hb
    go_enter Tryz.func179, Tryz.ntmps179
    go_wp2_with (first | (go_at_call 63; refine (mask_any _ _ (by assumption) (by assumption)).mono ?_; rintro e w' ⟨rfl, rfl⟩))
    go_ret2
    exact ⟨rfl, Dr.refl _⟩
theorem pdo_6 (n a b : Int) (w : World) (h1 : 1 ≤ n) (h2 : n ≤ 32) (h3 : 0 ≤ a) (h4 : a < pw n) (h5 : 0 ≤ b) (h6 : b < pw n) : Calls Tryz.prog 180 #[.int .i64 n, .int .u32 a, .int .u32 b] w fun e w' => e = .returned (.tuple #[.int .u32 (tot 6 n a b), .bool (has 6 n a b)]) ∧ Dr w w' := by
  obtain ⟨m, rfl⟩ := Int.eq_ofNat_of_zero_le (show 0 ≤ n by omega)
  have hp := @pw_le32 (m : Int) (by omega)
  have hp0 := pw_pos (m : Int)
  have x1 := sgn_lo32 (n := m) (a := a) (by omega) (by omega) h3
  have x2 := sgn_hi32 (n := m) (a := a) (by omega) (by omega) h4
  have y1 := sgn_lo32 (n := m) (a := b) (by omega) (by omega) h5
  have y2 := sgn_hi32 (n := m) (a := b) (by omega) (by omega) h6
  have hp3 := @pw_le31 ((m : Int) - 1) (by omega)
  have hp4 := pw_pos ((m : Int) - 1)
  have hpw : wrap64 ((2 : Int) ^ (m - 1)) = pw ((m : Int) - 1) := by
    have e : ((m : Int) - 1).toNat = m - 1 := by omega
    rw [← e]; exact IntWalk.wrap64_in (pw ((m : Int) - 1)) (by omega)
  by_cases hh : has 6 m a b = true
  · have hq : has 6 m a b = true := by simpa [has] using hh
    have hv : tot 6 m a b = wr m ((sgn m a).tdiv (sgn m b)) := by
      have hb : b ≠ 0 := by
        intro hb; simp [has, hb] at hh
      have hxy : ¬ (sgn m a = -pw (m - 1) ∧ sgn m b = -1) := by
        intro hb; simp [has, hb] at hh
      simp [tot, hb, hxy]
    rw [hv, hh]
    clear hv hh
    have hm := mask_wr (n := m) (by omega) ((sgn m a).tdiv (sgn m b))
    go_enter Tryz.func180, Tryz.ntmps180
    go_wp2_with (first | (go_at_call 63; refine (mask_any _ _ (by assumption) (by assumption)).mono ?_; rintro e w' ⟨rfl, rfl⟩) | (go_at_call 181; refine (quotient_some _ _ _ _ (by omega) (by omega) (by omega) (by omega) (by omega) (by omega) (by assumption)).mono ?_; rintro e w' ⟨rfl, hd1⟩))
    go_ret2
    exact ⟨rfl, hd1⟩
  · have hh : has 6 m a b = false := by simpa using hh
    have hq : has 6 m a b = false := by simpa [has] using hh
    rw [hh]
    clear hh
    by_cases hb : b = 0
    · have hb1 : (b != 0) = false := by simpa using hb
      rcases Int.lt_or_le (sgn m a) 0 with hs | hs
      · have hv : tot 6 m a b = 1 := by simp [tot, hb, hs]
        rw [hv]
        clear hv hb
        go_enter Tryz.func180, Tryz.ntmps180
        go_wp2_with (first | (go_at_call 63; refine (mask_any _ _ (by assumption) (by assumption)).mono ?_; rintro e w' ⟨rfl, rfl⟩) | (go_at_call 181; refine (quotient_none _ _ _ _ (by omega) (by omega) (by omega) (by omega) (by omega) (by omega) (by assumption)).mono ?_; rintro e w' ⟨rfl, hd1⟩) | (go_at_call 164; refine (signed_any _ _ _ (by omega) (by omega) (by omega) (by omega)).mono ?_; rintro e w' ⟨rfl, rfl⟩))
        go_ret2
        exact ⟨rfl, hd1⟩
      · have hv : tot 6 m a b = pw m - 1 := by simp [tot, hb]; intro; omega
        rw [hv]
        clear hv hb
        go_enter Tryz.func180, Tryz.ntmps180
        go_wp2_with (first | (go_at_call 63; refine (mask_any _ _ (by assumption) (by assumption)).mono ?_; rintro e w' ⟨rfl, rfl⟩) | (go_at_call 181; refine (quotient_none _ _ _ _ (by omega) (by omega) (by omega) (by omega) (by omega) (by omega) (by assumption)).mono ?_; rintro e w' ⟨rfl, hd1⟩) | (go_at_call 164; refine (signed_any _ _ _ (by omega) (by omega) (by omega) (by omega)).mono ?_; rintro e w' ⟨rfl, rfl⟩))
        go_ret2
        exact ⟨rfl, hd1⟩
    · have hb1 : (b != 0) = true := by simpa using hb
      have hv : tot 6 m a b = a := by
        have hx : sgn m a = -pw (m - 1) ∧ sgn m b = -1 := by simpa [has, hb] using hq
        simp [tot, hb, hx]
      rw [hv]
      clear hv hb
      go_enter Tryz.func180, Tryz.ntmps180
      go_wp2_with (first | (go_at_call 63; refine (mask_any _ _ (by assumption) (by assumption)).mono ?_; rintro e w' ⟨rfl, rfl⟩) | (go_at_call 181; refine (quotient_none _ _ _ _ (by omega) (by omega) (by omega) (by omega) (by omega) (by omega) (by assumption)).mono ?_; rintro e w' ⟨rfl, hd1⟩) | (go_at_call 164; refine (signed_any _ _ _ (by omega) (by omega) (by omega) (by omega)).mono ?_; rintro e w' ⟨rfl, rfl⟩))
      go_ret2
      exact ⟨rfl, hd1⟩
theorem pdo_7 (n a b : Int) (w : World) (h1 : 1 ≤ n) (h2 : n ≤ 32) (h3 : 0 ≤ a) (h4 : a < pw n) (h5 : 0 ≤ b) (h6 : b < pw n) : Calls Tryz.prog 183 #[.int .i64 n, .int .u32 a, .int .u32 b] w fun e w' => e = .returned (.tuple #[.int .u32 (tot 7 n a b), .bool (has 7 n a b)]) ∧ Dr w w' := by
  obtain ⟨m, rfl⟩ := Int.eq_ofNat_of_zero_le (show 0 ≤ n by omega)
  have hp := @pw_le32 (m : Int) (by omega)
  have hp0 := pw_pos (m : Int)
  have x1 := sgn_lo32 (n := m) (a := a) (by omega) (by omega) h3
  have x2 := sgn_hi32 (n := m) (a := a) (by omega) (by omega) h4
  have y1 := sgn_lo32 (n := m) (a := b) (by omega) (by omega) h5
  have y2 := sgn_hi32 (n := m) (a := b) (by omega) (by omega) h6
  have hp3 := @pw_le31 ((m : Int) - 1) (by omega)
  have hp4 := pw_pos ((m : Int) - 1)
  have hpw : wrap64 ((2 : Int) ^ (m - 1)) = pw ((m : Int) - 1) := by
    have e : ((m : Int) - 1).toNat = m - 1 := by omega
    rw [← e]; exact IntWalk.wrap64_in (pw ((m : Int) - 1)) (by omega)
  by_cases hh : has 7 m a b = true
  · have hq : has 6 m a b = true := by simpa [has] using hh
    have hv : tot 7 m a b = wr m ((sgn m a).tmod (sgn m b)) := by
      have hb : b ≠ 0 := by
        intro hb; simp [has, hb] at hh
      have hxy : ¬ (sgn m a = -pw (m - 1) ∧ sgn m b = -1) := by
        intro hb; simp [has, hb] at hh
      simp [tot, hb, hxy]
    rw [hv, hh]
    clear hv hh
    have hm := mask_wr (n := m) (by omega) ((sgn m a).tmod (sgn m b))
    go_enter Tryz.func183, Tryz.ntmps183
    go_wp2_with (first | (go_at_call 63; refine (mask_any _ _ (by assumption) (by assumption)).mono ?_; rintro e w' ⟨rfl, rfl⟩) | (go_at_call 181; refine (quotient_some _ _ _ _ (by omega) (by omega) (by omega) (by omega) (by omega) (by omega) (by assumption)).mono ?_; rintro e w' ⟨rfl, hd1⟩))
    go_ret2
    exact ⟨rfl, hd1⟩
  · have hh : has 7 m a b = false := by simpa using hh
    have hq : has 6 m a b = false := by simpa [has] using hh
    rw [hh]
    clear hh
    by_cases hb : b = 0
    · have hb1 : (b == 0) = true := by simpa using hb
      have hv : tot 7 m a b = a := by simp [tot, hb]
      rw [hv]
      clear hv hb
      go_enter Tryz.func183, Tryz.ntmps183
      go_wp2_with (first | (go_at_call 63; refine (mask_any _ _ (by assumption) (by assumption)).mono ?_; rintro e w' ⟨rfl, rfl⟩) | (go_at_call 181; refine (quotient_none _ _ _ _ (by omega) (by omega) (by omega) (by omega) (by omega) (by omega) (by assumption)).mono ?_; rintro e w' ⟨rfl, hd1⟩))
      go_ret2
      exact ⟨rfl, hd1⟩
    · have hb1 : (b == 0) = false := by simpa using hb
      have hv : tot 7 m a b = 0 := by
        have hx : sgn m a = -pw (m - 1) ∧ sgn m b = -1 := by simpa [has, hb] using hq
        simp [tot, hb, hx]
      have hm : bits .and .u32 0 (pw m - 1) = 0 := by rw [mask_fit (by omega) (by omega) (by omega)]; exact Int.zero_emod _
      rw [hv]
      clear hv hb
      go_enter Tryz.func183, Tryz.ntmps183
      go_wp2_with (first | (go_at_call 63; refine (mask_any _ _ (by assumption) (by assumption)).mono ?_; rintro e w' ⟨rfl, rfl⟩) | (go_at_call 181; refine (quotient_none _ _ _ _ (by omega) (by omega) (by omega) (by omega) (by omega) (by omega) (by assumption)).mono ?_; rintro e w' ⟨rfl, hd1⟩))
      go_ret2
      exact ⟨rfl, hd1⟩
theorem sign_any (n a : Int) (w : World) (h1 : 1 ≤ n) (h2 : n ≤ 32) (h3 : 0 ≤ a) (h4 : a < pw n) : Calls Tryz.prog 193 #[.int .i64 n, .int .u32 a] w fun e w' => e = .returned (.int .u32 (signV n a)) ∧ w = w' := by
  rcases Int.lt_or_le (sgn n a) 0 with hs | hs
  · have hv : signV n a = pw n - 1 := by simp [signV, hs]
    rw [hv]
    clear hv
    go_enter Tryz.func193, Tryz.ntmps193
    go_wp2_with (first | (go_at_call 63; refine (mask_any _ _ (by assumption) (by assumption)).mono ?_; rintro e w' ⟨rfl, rfl⟩) | (go_at_call 164; refine (signed_any _ _ _ (by omega) (by omega) (by omega) (by omega)).mono ?_; rintro e w' ⟨rfl, rfl⟩))
    go_ret
    exact ⟨rfl, rfl⟩
  · have hv : signV n a = 0 := by simp [signV]; omega
    rw [hv]
    clear hv
    go_enter Tryz.func193, Tryz.ntmps193
    go_wp2_with (first | (go_at_call 63; refine (mask_any _ _ (by assumption) (by assumption)).mono ?_; rintro e w' ⟨rfl, rfl⟩) | (go_at_call 164; refine (signed_any _ _ _ (by omega) (by omega) (by omega) (by omega)).mono ?_; rintro e w' ⟨rfl, rfl⟩))
    go_ret
    exact ⟨rfl, rfl⟩
theorem pdo_11 (n a b : Int) (w : World) (h1 : 1 ≤ n) (h2 : n ≤ 32) (h3 : 0 ≤ a) (h4 : a < pw n) (h5 : 0 ≤ b) (h6 : b < pw n) : Calls Tryz.prog 188 #[.int .i64 n, .int .u32 a, .int .u32 b] w fun e w' => e = .returned (.tuple #[.int .u32 (tot 11 n a b), .bool (has 11 n a b)]) ∧ Dr w w' := by
  obtain ⟨m, rfl⟩ := Int.eq_ofNat_of_zero_le (show 0 ≤ n by omega)
  have hp := @pw_le32 (m : Int) (by omega)
  have hp0 := pw_pos (m : Int)
  by_cases hb : (m : Int) ≤ b
  · have hv : tot 11 m a b = 0 := by simp [tot, has, hb]
    have hh : has 11 m a b = false := by simp [tot, has, hb]
    rw [hv, hh]
    clear hv hh
    go_enter Tryz.func188, Tryz.ntmps188
    go_wp2_with (first | (go_at_call 63; refine (mask_any _ _ (by assumption) (by assumption)).mono ?_; rintro e w' ⟨rfl, rfl⟩) | (go_at_call 193; refine (sign_any _ _ _ (by omega) (by omega) (by omega) (by omega)).mono ?_; rintro e w' ⟨rfl, rfl⟩))
    go_ret2
    exact ⟨rfl, Dr.refl _⟩
  · obtain ⟨k, rfl⟩ := Int.eq_ofNat_of_zero_le h5
    have hk : k < m := by omega
    have hd : decide (m ≤ k) = false := by simpa using hk
    have hv : tot 11 m a k = wr m (a * pw k) := by first | (simp [tot, has, hb]; done) | (simp [tot, has]; omega)
    have hh : has 11 m a k = true := by first | (simp [tot, has, hb]; done) | (simp [tot, has]; omega)
    rw [hv, hh]
    clear hv hh
    have hm := mask_wr (n := m) (by omega) (a * pw k)
    rw [pw_cast] at hm ⊢
    go_enter Tryz.func188, Tryz.ntmps188
    go_wp2_with (first | (go_at_call 63; refine (mask_any _ _ (by assumption) (by assumption)).mono ?_; rintro e w' ⟨rfl, rfl⟩) | (go_at_call 193; refine (sign_any _ _ _ (by omega) (by omega) (by omega) (by omega)).mono ?_; rintro e w' ⟨rfl, rfl⟩) | (go_at_call 164; refine (signed_any _ _ _ (by omega) (by omega) (by omega) (by omega)).mono ?_; rintro e w' ⟨rfl, rfl⟩))
    go_ret2
    exact ⟨rfl, Dr.refl _⟩
theorem pdo_12 (n a b : Int) (w : World) (h1 : 1 ≤ n) (h2 : n ≤ 32) (h3 : 0 ≤ a) (h4 : a < pw n) (h5 : 0 ≤ b) (h6 : b < pw n) : Calls Tryz.prog 190 #[.int .i64 n, .int .u32 a, .int .u32 b] w fun e w' => e = .returned (.tuple #[.int .u32 (tot 12 n a b), .bool (has 12 n a b)]) ∧ Dr w w' := by
  obtain ⟨m, rfl⟩ := Int.eq_ofNat_of_zero_le (show 0 ≤ n by omega)
  have hp := @pw_le32 (m : Int) (by omega)
  have hp0 := pw_pos (m : Int)
  by_cases hb : (m : Int) ≤ b
  · have hv : tot 12 m a b = 0 := by simp [tot, has, hb]
    have hh : has 12 m a b = false := by simp [tot, has, hb]
    rw [hv, hh]
    clear hv hh
    go_enter Tryz.func190, Tryz.ntmps190
    go_wp2_with (first | (go_at_call 63; refine (mask_any _ _ (by assumption) (by assumption)).mono ?_; rintro e w' ⟨rfl, rfl⟩) | (go_at_call 193; refine (sign_any _ _ _ (by omega) (by omega) (by omega) (by omega)).mono ?_; rintro e w' ⟨rfl, rfl⟩))
    go_ret2
    exact ⟨rfl, Dr.refl _⟩
  · obtain ⟨k, rfl⟩ := Int.eq_ofNat_of_zero_le h5
    have hk : k < m := by omega
    have hd : decide (m ≤ k) = false := by simpa using hk
    have hv : tot 12 m a k = a / pw k := by first | (simp [tot, has, hb]; done) | (simp [tot, has]; omega)
    have hh : has 12 m a k = true := by first | (simp [tot, has, hb]; done) | (simp [tot, has]; omega)
    rw [hv, hh]
    clear hv hh
    rw [pw_cast]
    go_enter Tryz.func190, Tryz.ntmps190
    go_wp2_with (first | (go_at_call 63; refine (mask_any _ _ (by assumption) (by assumption)).mono ?_; rintro e w' ⟨rfl, rfl⟩) | (go_at_call 193; refine (sign_any _ _ _ (by omega) (by omega) (by omega) (by omega)).mono ?_; rintro e w' ⟨rfl, rfl⟩) | (go_at_call 164; refine (signed_any _ _ _ (by omega) (by omega) (by omega) (by omega)).mono ?_; rintro e w' ⟨rfl, rfl⟩))
    go_ret2
    exact ⟨rfl, Dr.refl _⟩
theorem pdo_13 (n a b : Int) (w : World) (h1 : 1 ≤ n) (h2 : n ≤ 32) (h3 : 0 ≤ a) (h4 : a < pw n) (h5 : 0 ≤ b) (h6 : b < pw n) : Calls Tryz.prog 192 #[.int .i64 n, .int .u32 a, .int .u32 b] w fun e w' => e = .returned (.tuple #[.int .u32 (tot 13 n a b), .bool (has 13 n a b)]) ∧ Dr w w' := by
  obtain ⟨m, rfl⟩ := Int.eq_ofNat_of_zero_le (show 0 ≤ n by omega)
  have hp := @pw_le32 (m : Int) (by omega)
  have hp0 := pw_pos (m : Int)
  by_cases hb : (m : Int) ≤ b
  · have hv : tot 13 m a b = signV m a := by simp [tot, has, hb, signV]
    have hh : has 13 m a b = false := by simp [tot, has, hb, signV]
    rw [hv, hh]
    clear hv hh
    go_enter Tryz.func192, Tryz.ntmps192
    go_wp2_with (first | (go_at_call 63; refine (mask_any _ _ (by assumption) (by assumption)).mono ?_; rintro e w' ⟨rfl, rfl⟩) | (go_at_call 193; refine (sign_any _ _ _ (by omega) (by omega) (by omega) (by omega)).mono ?_; rintro e w' ⟨rfl, rfl⟩))
    go_ret2
    exact ⟨rfl, Dr.refl _⟩
  · obtain ⟨k, rfl⟩ := Int.eq_ofNat_of_zero_le h5
    have hk : k < m := by omega
    have hd : decide (m ≤ k) = false := by simpa using hk
    have hv : tot 13 m a k = wr m (sgn m a / pw k) := by first | (simp [tot, has, hb]; done) | (simp [tot, has]; omega)
    have hh : has 13 m a k = true := by first | (simp [tot, has, hb]; done) | (simp [tot, has]; omega)
    rw [hv, hh]
    clear hv hh
    have hm := mask_wr (n := m) (by omega) (sgn m a / pw k)
    rw [pw_cast] at hm ⊢
    go_enter Tryz.func192, Tryz.ntmps192
    go_wp2_with (first | (go_at_call 63; refine (mask_any _ _ (by assumption) (by assumption)).mono ?_; rintro e w' ⟨rfl, rfl⟩) | (go_at_call 193; refine (sign_any _ _ _ (by omega) (by omega) (by omega) (by omega)).mono ?_; rintro e w' ⟨rfl, rfl⟩) | (go_at_call 164; refine (signed_any _ _ _ (by omega) (by omega) (by omega) (by omega)).mono ?_; rintro e w' ⟨rfl, rfl⟩))
    go_ret2
    exact ⟨rfl, Dr.refl _⟩
end Go.Proofs.YtgcfadnnajahhaaGreatDoor
namespace Go.Proofs.YtgcfadnnajahhaaGreatDoor
open Go.RowKit Wd
def Shape (v : Value) : Prop := (∃ (fd fw : Nat) (cd : Array Value), v = .agg #[.func (.func fd) #[] cd, .func (.func fw) #[] #[], .nilFunc]) ∨ (∃ (fd fl : Nat) (cd : Array Value), v = .agg #[.func (.func fd) #[] cd, .nilFunc, .func (.func fl) #[] #[]]) ∨ (∃ (fd : Nat) (cd : Array Value), v = .agg #[.func (.func fd) #[] cd, .nilFunc, .nilFunc]) ∨ v = .agg #[.nilFunc, .nilFunc, .nilFunc]
theorem asked_bad (op n a b : Int) (w : World) (g : good op n a b = false) : Calls Tryz.prog 129 #[.int .i64 op, .int .i64 n, .int .u32 a, .int .u32 b] w fun e w' => ∃ v, e = .returned (.tuple #[v, .bool false]) ∧ Shape v ∧ Below w.heap.size w w' := by
  by_cases ho : 1 ≤ op ∧ op ≤ 13
  · have hx : (isW n && fit n a && fit n b) = false := by
      rw [Bool.eq_false_iff]
      intro h
      have := (good_iff op n a b).2 (by simp [isW, fit] at h; omega)
      rw [g] at this; cases this
    have h : op = 1 ∨ op = 2 ∨ op = 3 ∨ op = 4 ∨ op = 5 ∨ op = 6 ∨ op = 7 ∨ op = 8 ∨ op = 9 ∨ op = 10 ∨ op = 11 ∨ op = 12 ∨ op = 13 := by omega
    rcases h with rfl | rfl | rfl | rfl | rfl | rfl | rfl | rfl | rfl | rfl | rfl | rfl | rfl
    · refine (asked_w 1 n a b 0 197 171 (fun h => #[.pointer (some ⟨h + 1, 0, none⟩)]) _ (fun _ => rfl)).mono ?_
      rintro e w1 ⟨h, rfl, _, hb1⟩
      exact ⟨_, by rw [hx], .inl ⟨_, _, _, rfl⟩, hb1⟩
    · refine (asked_w 2 n a b 1 197 173 (fun h => #[.pointer (some ⟨h + 3, 0, none⟩)]) _ (fun _ => rfl)).mono ?_
      rintro e w1 ⟨h, rfl, _, hb1⟩
      exact ⟨_, by rw [hx], .inl ⟨_, _, _, rfl⟩, hb1⟩
    · refine (asked_w 3 n a b 2 197 175 (fun h => #[.pointer (some ⟨h + 5, 0, none⟩)]) _ (fun _ => rfl)).mono ?_
      rintro e w1 ⟨h, rfl, _, hb1⟩
      exact ⟨_, by rw [hx], .inl ⟨_, _, _, rfl⟩, hb1⟩
    · refine (asked_l 4 n a b 3 177 178 (fun _ => #[]) _ (fun _ => rfl)).mono ?_
      rintro e w1 ⟨h, rfl, _, hb1⟩
      exact ⟨_, by rw [hx], .inr (.inl ⟨_, _, _, rfl⟩), hb1⟩
    · refine (asked_n 5 n a b 4 179 (fun _ => #[]) _ (fun _ => rfl)).mono ?_
      rintro e w1 ⟨h, rfl, _, hb1⟩
      exact ⟨_, by rw [hx], .inr (.inr (.inl ⟨_, _, rfl⟩)), hb1⟩
    · refine (asked_l 6 n a b 5 180 182 (fun _ => #[]) _ (fun _ => rfl)).mono ?_
      rintro e w1 ⟨h, rfl, _, hb1⟩
      exact ⟨_, by rw [hx], .inr (.inl ⟨_, _, _, rfl⟩), hb1⟩
    · refine (asked_n 7 n a b 6 183 (fun _ => #[]) _ (fun _ => rfl)).mono ?_
      rintro e w1 ⟨h, rfl, _, hb1⟩
      exact ⟨_, by rw [hx], .inr (.inr (.inl ⟨_, _, rfl⟩)), hb1⟩
    · refine (asked_n 8 n a b 7 198 (fun h => #[.pointer (some ⟨h + 7, 0, none⟩)]) _ (fun _ => rfl)).mono ?_
      rintro e w1 ⟨h, rfl, _, hb1⟩
      exact ⟨_, by rw [hx], .inr (.inr (.inl ⟨_, _, rfl⟩)), hb1⟩
    · refine (asked_n 9 n a b 8 198 (fun h => #[.pointer (some ⟨h + 9, 0, none⟩)]) _ (fun _ => rfl)).mono ?_
      rintro e w1 ⟨h, rfl, _, hb1⟩
      exact ⟨_, by rw [hx], .inr (.inr (.inl ⟨_, _, rfl⟩)), hb1⟩
    · refine (asked_n 10 n a b 9 198 (fun h => #[.pointer (some ⟨h + 11, 0, none⟩)]) _ (fun _ => rfl)).mono ?_
      rintro e w1 ⟨h, rfl, _, hb1⟩
      exact ⟨_, by rw [hx], .inr (.inr (.inl ⟨_, _, rfl⟩)), hb1⟩
    · refine (asked_w 11 n a b 10 188 189 (fun _ => #[]) _ (fun _ => rfl)).mono ?_
      rintro e w1 ⟨h, rfl, _, hb1⟩
      exact ⟨_, by rw [hx], .inl ⟨_, _, _, rfl⟩, hb1⟩
    · refine (asked_l 12 n a b 11 190 191 (fun _ => #[]) _ (fun _ => rfl)).mono ?_
      rintro e w1 ⟨h, rfl, _, hb1⟩
      exact ⟨_, by rw [hx], .inr (.inl ⟨_, _, _, rfl⟩), hb1⟩
    · refine (asked_l 13 n a b 12 192 194 (fun _ => #[]) _ (fun _ => rfl)).mono ?_
      rintro e w1 ⟨h, rfl, _, hb1⟩
      exact ⟨_, by rw [hx], .inr (.inl ⟨_, _, _, rfl⟩), hb1⟩
  · refine (asked_none op n a b w (fun h => ?_)).mono ?_
    · unfold opEntries
      simp only [findNow_int, findNow_nil]
      repeat rw [if_neg (by omega)]
    · rintro e w1 ⟨rfl, hb1⟩
      exact ⟨_, rfl, .inr (.inr (.inr rfl)), hb1⟩
theorem pTotal_1 (n a b : Int) (w : World) (g : good 1 n a b = true) (h3 : 0 ≤ a) (h5 : 0 ≤ b) : Calls Tryz.prog 100 #[.int .i64 1, .int .i64 n, .int .u32 a, .int .u32 b] w fun e w' => e = .returned (.tuple #[.int .u32 (tot 1 n a b), .int .i64 0]) ∧ Below w.heap.size w w' := by
  obtain ⟨_, _, g3, g4, g5, g6⟩ := (good_iff _ _ _ _).1 g
  have hw : isW n = true := by simp [isW, g3, g4]
  have fa : fit n a = true := by simp [fit, g5]
  have fb : fit n b = true := by simp [fit, g6]
  go_enter Tryz.func100, Tryz.ntmps100
  go_wp2_with (first | (go_at_call 129; refine (asked_w 1 n a b 0 197 171 (fun h => #[.pointer (some ⟨h + 1, 0, none⟩)]) _ (fun _ => rfl)).mono ?_; rintro e w1 ⟨h, rfl, ⟨m3, m4, c1, c2, c3, c8, c9, c10⟩, hb1⟩) | (go_at_call 197; refine (pdo_1 n a b _ (by assumption) (by assumption) (by assumption) (by assumption) (by assumption) (by assumption) (h + 1) (by have q : h + 1 < w1.heap.size := (by omega); simp [go_sem, *])).mono ?_; rintro e w2 ⟨rfl, hd1⟩))
  go_ret2
  exact ⟨rfl, ((hb1.trans ((Below.refl _ _).alloc hb1.size _)).trans (hd1.below _))⟩
theorem pTotal_2 (n a b : Int) (w : World) (g : good 2 n a b = true) (h3 : 0 ≤ a) (h5 : 0 ≤ b) : Calls Tryz.prog 100 #[.int .i64 2, .int .i64 n, .int .u32 a, .int .u32 b] w fun e w' => e = .returned (.tuple #[.int .u32 (tot 2 n a b), .int .i64 0]) ∧ Below w.heap.size w w' := by
  obtain ⟨_, _, g3, g4, g5, g6⟩ := (good_iff _ _ _ _).1 g
  have hw : isW n = true := by simp [isW, g3, g4]
  have fa : fit n a = true := by simp [fit, g5]
  have fb : fit n b = true := by simp [fit, g6]
  go_enter Tryz.func100, Tryz.ntmps100
  go_wp2_with (first | (go_at_call 129; refine (asked_w 2 n a b 1 197 173 (fun h => #[.pointer (some ⟨h + 3, 0, none⟩)]) _ (fun _ => rfl)).mono ?_; rintro e w1 ⟨h, rfl, ⟨m3, m4, c1, c2, c3, c8, c9, c10⟩, hb1⟩) | (go_at_call 197; refine (pdo_2 n a b _ (by assumption) (by assumption) (by assumption) (by assumption) (by assumption) (by assumption) (h + 3) (by have q : h + 3 < w1.heap.size := (by omega); simp [go_sem, *])).mono ?_; rintro e w2 ⟨rfl, hd1⟩))
  go_ret2
  exact ⟨rfl, ((hb1.trans ((Below.refl _ _).alloc hb1.size _)).trans (hd1.below _))⟩
theorem pTotal_3 (n a b : Int) (w : World) (g : good 3 n a b = true) (h3 : 0 ≤ a) (h5 : 0 ≤ b) : Calls Tryz.prog 100 #[.int .i64 3, .int .i64 n, .int .u32 a, .int .u32 b] w fun e w' => e = .returned (.tuple #[.int .u32 (tot 3 n a b), .int .i64 0]) ∧ Below w.heap.size w w' := by
  obtain ⟨_, _, g3, g4, g5, g6⟩ := (good_iff _ _ _ _).1 g
  have hw : isW n = true := by simp [isW, g3, g4]
  have fa : fit n a = true := by simp [fit, g5]
  have fb : fit n b = true := by simp [fit, g6]
  go_enter Tryz.func100, Tryz.ntmps100
  go_wp2_with (first | (go_at_call 129; refine (asked_w 3 n a b 2 197 175 (fun h => #[.pointer (some ⟨h + 5, 0, none⟩)]) _ (fun _ => rfl)).mono ?_; rintro e w1 ⟨h, rfl, ⟨m3, m4, c1, c2, c3, c8, c9, c10⟩, hb1⟩) | (go_at_call 197; refine (pdo_3 n a b _ (by assumption) (by assumption) (by assumption) (by assumption) (by assumption) (by assumption) (h + 5) (by have q : h + 5 < w1.heap.size := (by omega); simp [go_sem, *])).mono ?_; rintro e w2 ⟨rfl, hd1⟩))
  go_ret2
  exact ⟨rfl, ((hb1.trans ((Below.refl _ _).alloc hb1.size _)).trans (hd1.below _))⟩
theorem pTotal_4 (n a b : Int) (w : World) (g : good 4 n a b = true) (h3 : 0 ≤ a) (h5 : 0 ≤ b) : Calls Tryz.prog 100 #[.int .i64 4, .int .i64 n, .int .u32 a, .int .u32 b] w fun e w' => e = .returned (.tuple #[.int .u32 (tot 4 n a b), .int .i64 0]) ∧ Below w.heap.size w w' := by
  obtain ⟨_, _, g3, g4, g5, g6⟩ := (good_iff _ _ _ _).1 g
  have hw : isW n = true := by simp [isW, g3, g4]
  have fa : fit n a = true := by simp [fit, g5]
  have fb : fit n b = true := by simp [fit, g6]
  go_enter Tryz.func100, Tryz.ntmps100
  go_wp2_with (first | (go_at_call 129; refine (asked_l 4 n a b 3 177 178 (fun _ => #[]) _ (fun _ => rfl)).mono ?_; rintro e w1 ⟨h, rfl, ⟨m3, m4, c1, c2, c3, c8, c9, c10⟩, hb1⟩) | (go_at_call 177; refine (pdo_4 n a b _ (by assumption) (by assumption) (by assumption) (by assumption) (by assumption) (by assumption)).mono ?_; rintro e w2 ⟨rfl, hd1⟩))
  go_ret2
  exact ⟨rfl, ((hb1.trans ((Below.refl _ _).alloc hb1.size _)).trans (hd1.below _))⟩
theorem pTotal_5 (n a b : Int) (w : World) (g : good 5 n a b = true) (h3 : 0 ≤ a) (h5 : 0 ≤ b) : Calls Tryz.prog 100 #[.int .i64 5, .int .i64 n, .int .u32 a, .int .u32 b] w fun e w' => e = .returned (.tuple #[.int .u32 (tot 5 n a b), .int .i64 0]) ∧ Below w.heap.size w w' := by
  obtain ⟨_, _, g3, g4, g5, g6⟩ := (good_iff _ _ _ _).1 g
  have hw : isW n = true := by simp [isW, g3, g4]
  have fa : fit n a = true := by simp [fit, g5]
  have fb : fit n b = true := by simp [fit, g6]
  go_enter Tryz.func100, Tryz.ntmps100
  go_wp2_with (first | (go_at_call 129; refine (asked_n 5 n a b 4 179 (fun _ => #[]) _ (fun _ => rfl)).mono ?_; rintro e w1 ⟨h, rfl, ⟨m3, m4, c1, c2, c3, c8, c9, c10⟩, hb1⟩) | (go_at_call 179; refine (pdo_5 n a b _ (by assumption) (by assumption) (by assumption) (by assumption) (by assumption) (by assumption)).mono ?_; rintro e w2 ⟨rfl, hd1⟩))
  go_ret2
  exact ⟨rfl, ((hb1.trans ((Below.refl _ _).alloc hb1.size _)).trans (hd1.below _))⟩
theorem pTotal_6 (n a b : Int) (w : World) (g : good 6 n a b = true) (h3 : 0 ≤ a) (h5 : 0 ≤ b) : Calls Tryz.prog 100 #[.int .i64 6, .int .i64 n, .int .u32 a, .int .u32 b] w fun e w' => e = .returned (.tuple #[.int .u32 (tot 6 n a b), .int .i64 0]) ∧ Below w.heap.size w w' := by
  obtain ⟨_, _, g3, g4, g5, g6⟩ := (good_iff _ _ _ _).1 g
  have hw : isW n = true := by simp [isW, g3, g4]
  have fa : fit n a = true := by simp [fit, g5]
  have fb : fit n b = true := by simp [fit, g6]
  go_enter Tryz.func100, Tryz.ntmps100
  go_wp2_with (first | (go_at_call 129; refine (asked_l 6 n a b 5 180 182 (fun _ => #[]) _ (fun _ => rfl)).mono ?_; rintro e w1 ⟨h, rfl, ⟨m3, m4, c1, c2, c3, c8, c9, c10⟩, hb1⟩) | (go_at_call 180; refine (pdo_6 n a b _ (by assumption) (by assumption) (by assumption) (by assumption) (by assumption) (by assumption)).mono ?_; rintro e w2 ⟨rfl, hd1⟩))
  go_ret2
  exact ⟨rfl, ((hb1.trans ((Below.refl _ _).alloc hb1.size _)).trans (hd1.below _))⟩
theorem pTotal_7 (n a b : Int) (w : World) (g : good 7 n a b = true) (h3 : 0 ≤ a) (h5 : 0 ≤ b) : Calls Tryz.prog 100 #[.int .i64 7, .int .i64 n, .int .u32 a, .int .u32 b] w fun e w' => e = .returned (.tuple #[.int .u32 (tot 7 n a b), .int .i64 0]) ∧ Below w.heap.size w w' := by
  obtain ⟨_, _, g3, g4, g5, g6⟩ := (good_iff _ _ _ _).1 g
  have hw : isW n = true := by simp [isW, g3, g4]
  have fa : fit n a = true := by simp [fit, g5]
  have fb : fit n b = true := by simp [fit, g6]
  go_enter Tryz.func100, Tryz.ntmps100
  go_wp2_with (first | (go_at_call 129; refine (asked_n 7 n a b 6 183 (fun _ => #[]) _ (fun _ => rfl)).mono ?_; rintro e w1 ⟨h, rfl, ⟨m3, m4, c1, c2, c3, c8, c9, c10⟩, hb1⟩) | (go_at_call 183; refine (pdo_7 n a b _ (by assumption) (by assumption) (by assumption) (by assumption) (by assumption) (by assumption)).mono ?_; rintro e w2 ⟨rfl, hd1⟩))
  go_ret2
  exact ⟨rfl, ((hb1.trans ((Below.refl _ _).alloc hb1.size _)).trans (hd1.below _))⟩
theorem pTotal_8 (n a b : Int) (w : World) (g : good 8 n a b = true) (h3 : 0 ≤ a) (h5 : 0 ≤ b) : Calls Tryz.prog 100 #[.int .i64 8, .int .i64 n, .int .u32 a, .int .u32 b] w fun e w' => e = .returned (.tuple #[.int .u32 (tot 8 n a b), .int .i64 0]) ∧ Below w.heap.size w w' := by
  obtain ⟨_, _, g3, g4, g5, g6⟩ := (good_iff _ _ _ _).1 g
  have hw : isW n = true := by simp [isW, g3, g4]
  have fa : fit n a = true := by simp [fit, g5]
  have fb : fit n b = true := by simp [fit, g6]
  go_enter Tryz.func100, Tryz.ntmps100
  go_wp2_with (first | (go_at_call 129; refine (asked_n 8 n a b 7 198 (fun h => #[.pointer (some ⟨h + 7, 0, none⟩)]) _ (fun _ => rfl)).mono ?_; rintro e w1 ⟨h, rfl, ⟨m3, m4, c1, c2, c3, c8, c9, c10⟩, hb1⟩) | (go_at_call 198; refine (pdo_8 n a b _ (by assumption) (by assumption) (by assumption) (by assumption) (by assumption) (by assumption) (h + 7) (by have q : h + 7 < w1.heap.size := (by omega); simp [go_sem, *])).mono ?_; rintro e w2 ⟨rfl, hd1⟩))
  go_ret2
  exact ⟨rfl, ((hb1.trans ((Below.refl _ _).alloc hb1.size _)).trans (hd1.below _))⟩
theorem pTotal_9 (n a b : Int) (w : World) (g : good 9 n a b = true) (h3 : 0 ≤ a) (h5 : 0 ≤ b) : Calls Tryz.prog 100 #[.int .i64 9, .int .i64 n, .int .u32 a, .int .u32 b] w fun e w' => e = .returned (.tuple #[.int .u32 (tot 9 n a b), .int .i64 0]) ∧ Below w.heap.size w w' := by
  obtain ⟨_, _, g3, g4, g5, g6⟩ := (good_iff _ _ _ _).1 g
  have hw : isW n = true := by simp [isW, g3, g4]
  have fa : fit n a = true := by simp [fit, g5]
  have fb : fit n b = true := by simp [fit, g6]
  go_enter Tryz.func100, Tryz.ntmps100
  go_wp2_with (first | (go_at_call 129; refine (asked_n 9 n a b 8 198 (fun h => #[.pointer (some ⟨h + 9, 0, none⟩)]) _ (fun _ => rfl)).mono ?_; rintro e w1 ⟨h, rfl, ⟨m3, m4, c1, c2, c3, c8, c9, c10⟩, hb1⟩) | (go_at_call 198; refine (pdo_9 n a b _ (by assumption) (by assumption) (by assumption) (by assumption) (by assumption) (by assumption) (h + 9) (by have q : h + 9 < w1.heap.size := (by omega); simp [go_sem, *])).mono ?_; rintro e w2 ⟨rfl, hd1⟩))
  go_ret2
  exact ⟨rfl, ((hb1.trans ((Below.refl _ _).alloc hb1.size _)).trans (hd1.below _))⟩
theorem pTotal_10 (n a b : Int) (w : World) (g : good 10 n a b = true) (h3 : 0 ≤ a) (h5 : 0 ≤ b) : Calls Tryz.prog 100 #[.int .i64 10, .int .i64 n, .int .u32 a, .int .u32 b] w fun e w' => e = .returned (.tuple #[.int .u32 (tot 10 n a b), .int .i64 0]) ∧ Below w.heap.size w w' := by
  obtain ⟨_, _, g3, g4, g5, g6⟩ := (good_iff _ _ _ _).1 g
  have hw : isW n = true := by simp [isW, g3, g4]
  have fa : fit n a = true := by simp [fit, g5]
  have fb : fit n b = true := by simp [fit, g6]
  go_enter Tryz.func100, Tryz.ntmps100
  go_wp2_with (first | (go_at_call 129; refine (asked_n 10 n a b 9 198 (fun h => #[.pointer (some ⟨h + 11, 0, none⟩)]) _ (fun _ => rfl)).mono ?_; rintro e w1 ⟨h, rfl, ⟨m3, m4, c1, c2, c3, c8, c9, c10⟩, hb1⟩) | (go_at_call 198; refine (pdo_10 n a b _ (by assumption) (by assumption) (by assumption) (by assumption) (by assumption) (by assumption) (h + 11) (by have q : h + 11 < w1.heap.size := (by omega); simp [go_sem, *])).mono ?_; rintro e w2 ⟨rfl, hd1⟩))
  go_ret2
  exact ⟨rfl, ((hb1.trans ((Below.refl _ _).alloc hb1.size _)).trans (hd1.below _))⟩
theorem pTotal_11 (n a b : Int) (w : World) (g : good 11 n a b = true) (h3 : 0 ≤ a) (h5 : 0 ≤ b) : Calls Tryz.prog 100 #[.int .i64 11, .int .i64 n, .int .u32 a, .int .u32 b] w fun e w' => e = .returned (.tuple #[.int .u32 (tot 11 n a b), .int .i64 0]) ∧ Below w.heap.size w w' := by
  obtain ⟨_, _, g3, g4, g5, g6⟩ := (good_iff _ _ _ _).1 g
  have hw : isW n = true := by simp [isW, g3, g4]
  have fa : fit n a = true := by simp [fit, g5]
  have fb : fit n b = true := by simp [fit, g6]
  go_enter Tryz.func100, Tryz.ntmps100
  go_wp2_with (first | (go_at_call 129; refine (asked_w 11 n a b 10 188 189 (fun _ => #[]) _ (fun _ => rfl)).mono ?_; rintro e w1 ⟨h, rfl, ⟨m3, m4, c1, c2, c3, c8, c9, c10⟩, hb1⟩) | (go_at_call 188; refine (pdo_11 n a b _ (by assumption) (by assumption) (by assumption) (by assumption) (by assumption) (by assumption)).mono ?_; rintro e w2 ⟨rfl, hd1⟩))
  go_ret2
  exact ⟨rfl, ((hb1.trans ((Below.refl _ _).alloc hb1.size _)).trans (hd1.below _))⟩
theorem pTotal_12 (n a b : Int) (w : World) (g : good 12 n a b = true) (h3 : 0 ≤ a) (h5 : 0 ≤ b) : Calls Tryz.prog 100 #[.int .i64 12, .int .i64 n, .int .u32 a, .int .u32 b] w fun e w' => e = .returned (.tuple #[.int .u32 (tot 12 n a b), .int .i64 0]) ∧ Below w.heap.size w w' := by
  obtain ⟨_, _, g3, g4, g5, g6⟩ := (good_iff _ _ _ _).1 g
  have hw : isW n = true := by simp [isW, g3, g4]
  have fa : fit n a = true := by simp [fit, g5]
  have fb : fit n b = true := by simp [fit, g6]
  go_enter Tryz.func100, Tryz.ntmps100
  go_wp2_with (first | (go_at_call 129; refine (asked_l 12 n a b 11 190 191 (fun _ => #[]) _ (fun _ => rfl)).mono ?_; rintro e w1 ⟨h, rfl, ⟨m3, m4, c1, c2, c3, c8, c9, c10⟩, hb1⟩) | (go_at_call 190; refine (pdo_12 n a b _ (by assumption) (by assumption) (by assumption) (by assumption) (by assumption) (by assumption)).mono ?_; rintro e w2 ⟨rfl, hd1⟩))
  go_ret2
  exact ⟨rfl, ((hb1.trans ((Below.refl _ _).alloc hb1.size _)).trans (hd1.below _))⟩
theorem pTotal_13 (n a b : Int) (w : World) (g : good 13 n a b = true) (h3 : 0 ≤ a) (h5 : 0 ≤ b) : Calls Tryz.prog 100 #[.int .i64 13, .int .i64 n, .int .u32 a, .int .u32 b] w fun e w' => e = .returned (.tuple #[.int .u32 (tot 13 n a b), .int .i64 0]) ∧ Below w.heap.size w w' := by
  obtain ⟨_, _, g3, g4, g5, g6⟩ := (good_iff _ _ _ _).1 g
  have hw : isW n = true := by simp [isW, g3, g4]
  have fa : fit n a = true := by simp [fit, g5]
  have fb : fit n b = true := by simp [fit, g6]
  go_enter Tryz.func100, Tryz.ntmps100
  go_wp2_with (first | (go_at_call 129; refine (asked_l 13 n a b 12 192 194 (fun _ => #[]) _ (fun _ => rfl)).mono ?_; rintro e w1 ⟨h, rfl, ⟨m3, m4, c1, c2, c3, c8, c9, c10⟩, hb1⟩) | (go_at_call 192; refine (pdo_13 n a b _ (by assumption) (by assumption) (by assumption) (by assumption) (by assumption) (by assumption)).mono ?_; rintro e w2 ⟨rfl, hd1⟩))
  go_ret2
  exact ⟨rfl, ((hb1.trans ((Below.refl _ _).alloc hb1.size _)).trans (hd1.below _))⟩
theorem pTotal_any (op n a b : Int) (w : World) (h3 : 0 ≤ a) (h5 : 0 ≤ b) : Calls Tryz.prog 100 #[.int .i64 op, .int .i64 n, .int .u32 a, .int .u32 b] w fun e w' => e = .returned (totV op n a b) ∧ Below w.heap.size w w' := by
  by_cases g : good op n a b = true
  · have hv : totV op n a b = .tuple #[.int .u32 (tot op n a b), .int .i64 0] := by simp [totV, g]
    rw [hv]
    obtain ⟨g1, g2, g3, g4, g5, g6⟩ := (good_iff _ _ _ _).1 g
    have h : op = 1 ∨ op = 2 ∨ op = 3 ∨ op = 4 ∨ op = 5 ∨ op = 6 ∨ op = 7 ∨ op = 8 ∨ op = 9 ∨ op = 10 ∨ op = 11 ∨ op = 12 ∨ op = 13 := by omega
    rcases h with rfl | rfl | rfl | rfl | rfl | rfl | rfl | rfl | rfl | rfl | rfl | rfl | rfl
    · exact pTotal_1 n a b w g h3 h5
    · exact pTotal_2 n a b w g h3 h5
    · exact pTotal_3 n a b w g h3 h5
    · exact pTotal_4 n a b w g h3 h5
    · exact pTotal_5 n a b w g h3 h5
    · exact pTotal_6 n a b w g h3 h5
    · exact pTotal_7 n a b w g h3 h5
    · exact pTotal_8 n a b w g h3 h5
    · exact pTotal_9 n a b w g h3 h5
    · exact pTotal_10 n a b w g h3 h5
    · exact pTotal_11 n a b w g h3 h5
    · exact pTotal_12 n a b w g h3 h5
    · exact pTotal_13 n a b w g h3 h5
  · have g : good op n a b = false := by simpa using g
    have hv : totV op n a b = .tuple #[.int .u32 0, .int .i64 1] := by simp [totV, g]
    rw [hv]
    clear hv
    go_enter Tryz.func100, Tryz.ntmps100
    go_wp2_with (first | (go_at_call 129; refine (asked_bad _ _ _ _ _ (by assumption)).mono ?_; rintro e w1 ⟨v, rfl, (⟨fd, fw, cd, rfl⟩ | ⟨fd, fl, cd, rfl⟩ | ⟨fd, cd, rfl⟩ | rfl), hb1⟩))
    all_goals
      go_ret2
      exact ⟨rfl, hb1.trans ((Below.refl _ _).alloc hb1.size _)⟩
end Go.Proofs.YtgcfadnnajahhaaGreatDoor
namespace Go.Proofs.YtgcfadnnajahhaaGreatDoor
open Go.RowKit Wd
set_option linter.unusedVariables false
set_option linter.unusedSimpArgs false
def doE (op n a b : Int) : Int := if good op n a b = true then 0 else 1
def toX (op n a b : Int) : Int := if good op n a b = true then tot op n a b else 0
theorem totV_eq (op n a b : Int) : totV op n a b = .tuple #[.int .u32 (toX op n a b), .int .i64 (doE op n a b)] := by
  unfold totV toX doE
  cases good op n a b <;> rfl
theorem pTotal (op n a b : Int) (w : World) (h3 : 0 ≤ a) (h4 : a ≤ 4294967295) (h5 : 0 ≤ b) (h6 : b ≤ 4294967295) : Calls Tryz.prog 100 #[.int .i64 op, .int .i64 n, .int .u32 a, .int .u32 b] w fun e w' => e = .returned (.tuple #[.int .u32 (toX op n a b), .int .i64 (doE op n a b)]) ∧ Below w.heap.size w w' := by rw [← totV_eq]; exact pTotal_any op n a b w h3 h5
def Since (w0 w : World) : Prop := Below w0.heap.size w0 w
theorem Since.refl (w : World) : Since w w := Below.refl _ _
theorem Since.drewN {w0 w : World} (h : Since w0 w) (n : Nat) : Since w0 (w.drewN n) := below_drewN h n
theorem acc_p {P : Program} {f : FuncId} {args : Array Value} {w : World} {v : Value} (h : Calls P f args w fun e w' => e = .returned v ∧ Below w.heap.size w w') {w0 : World} (h0 : Since w0 w) :
    Calls P f args w fun e w' => e = .returned v ∧ Since w0 w' := h.mono fun _ _ hh => ⟨hh.1, below_hop h0 hh.2⟩
theorem acc_e {P : Program} {f : FuncId} {args : Array Value} {w : World} {v : Value} (h : Calls P f args w fun e w' => e = .returned v ∧ w = w') {w0 : World} (h0 : Since w0 w) :
    Calls P f args w fun e w' => e = .returned v ∧ Since w0 w' := h.mono fun _ _ hh => ⟨hh.1, hh.2 ▸ h0⟩
end Go.Proofs.YtgcfadnnajahhaaGreatDoor
namespace Go.Proofs.YtgcfadnnajahhaaGreatDoor.Wd
set_option linter.unusedVariables false
set_option linter.unusedSimpArgs false
/-! ### the ring of words -/
section
variable {n a b c : Int} (g : 1 ≤ n ∧ n ≤ 32) (ha : Word n a) (hb : Word n b) (hc : Word n c)
include ha
end
/-! ### wider and narrower -/
def goodX (op m n x : Int) : Bool := decide (1 ≤ m ∧ m ≤ 32 ∧ x < pw m ∧ 1 ≤ n ∧ n ≤ 32 ∧ ((op = 16 ∨ op = 17) ∧ m < n ∨ op = 18 ∧ n < m))
theorem goodX_iff (op m n x : Int) : goodX op m n x = true ↔ 1 ≤ m ∧ m ≤ 32 ∧ x < pw m ∧ 1 ≤ n ∧ n ≤ 32 ∧ ((op = 16 ∨ op = 17) ∧ m < n ∨ op = 18 ∧ n < m) := by simp only [goodX, decide_eq_true_eq]
def extV (op m n x : Int) : Int := if op = 17 then wr n (sgn m x) else wr n x
/-! ### comparisons -/
def cmp2 (p x y : Int) : Bool :=
  if p = 0 then x == y else if p = 1 then x != y else if p = 2 ∨ p = 6 then decide (x < y) else if p = 3 ∨ p = 7 then decide (x ≤ y) else if p = 4 ∨ p = 8 then decide (y < x) else decide (y ≤ x)
def cmpV (p n a b : Int) : Bool := if 6 ≤ p then cmp2 p (sgn n a) (sgn n b) else cmp2 p a b
def goodC (p n a b : Int) : Bool := decide (0 ≤ p ∧ p ≤ 9 ∧ 1 ≤ n ∧ n ≤ 32 ∧ a < pw n ∧ b < pw n)
theorem goodC_iff (p n a b : Int) : goodC p n a b = true ↔ 0 ≤ p ∧ p ≤ 9 ∧ 1 ≤ n ∧ n ≤ 32 ∧ a < pw n ∧ b < pw n := by simp only [goodC, decide_eq_true_eq]
end Go.Proofs.YtgcfadnnajahhaaGreatDoor.Wd
namespace Go.Proofs.YtgcfadnnajahhaaGreatDoor
open Go.RowKit Wd
set_option linter.unusedVariables false
set_option linter.unusedSimpArgs false
def mkX (n : Int) : Int := if isW n = true then pw n - 1 else 0
def mkE (n : Int) : Int := if isW n = true then 0 else 1
def exX (op m n x : Int) : Int := if goodX op m n x = true then extV op m n x else 0
def exE (op m n x : Int) : Int := if goodX op m n x = true then 0 else 1
theorem pMask (n : Int) (w : World) : Calls Tryz.prog 28 #[.int .i64 n] w fun e w' => e = .returned (.tuple #[.int .u32 (mkX n), .int .i64 (mkE n)]) ∧ w = w' := by
  by_cases hw : isW n = true
  · have hv : mkX n = pw n - 1 := by simp [mkX, hw]
    rw [hv]
    clear hv
    have hv : mkE n = 0 := by simp [mkE, hw]
    rw [hv]
    clear hv
    have h12 : 1 ≤ n ∧ n ≤ 32 := by simpa [isW] using hw
    obtain ⟨h1, h2⟩ := h12
    have hp := pw_le32 h2
    have hp0 := pw_pos n
    go_enter Tryz.func28, Tryz.ntmps28
    go_wp2_with (first | (go_at_call 62; refine (isWidth_any _ _).mono ?_; rintro e w' ⟨rfl, rfl⟩) | (go_at_call 63; refine (mask_any _ _ (by assumption) (by assumption)).mono ?_; rintro e w' ⟨rfl, rfl⟩))
    go_ret2
    exact ⟨rfl, rfl⟩
  · have hw : isW n = false := by simpa using hw
    have hv : mkX n = 0 := by simp [mkX, hw]
    rw [hv]
    clear hv
    have hv : mkE n = 1 := by simp [mkE, hw]
    rw [hv]
    clear hv
    go_enter Tryz.func28, Tryz.ntmps28
    go_wp2_with (first | (go_at_call 62; refine (isWidth_any _ _).mono ?_; rintro e w' ⟨rfl, rfl⟩) | (go_at_call 63; refine (mask_any _ _ (by assumption) (by assumption)).mono ?_; rintro e w' ⟨rfl, rfl⟩))
    go_ret2
    exact ⟨rfl, rfl⟩
theorem pExtend (op m n x : Int) (h0 : 0 ≤ x) (h4 : x ≤ 4294967295) (w : World) : Calls Tryz.prog 146 #[.int .i64 op, .int .i64 m, .int .i64 n, .int .u32 x] w fun e w' => e = .returned (.tuple #[.int .u32 (exX op m n x), .int .i64 (exE op m n x)]) ∧ Below w.heap.size w w' := by
  by_cases g : goodX op m n x = true
  · obtain ⟨g1, g2, g3, g4, g5, g6⟩ := (goodX_iff _ _ _ _).1 g
    have e2 : exE op m n x = 0 := by simp [exE, g]
    have e1 : exX op m n x = extV op m n x := by simp [exX, g]
    rw [e1, e2]
    have hm : isW m = true := by simp [isW, g1, g2]
    have hn : isW n = true := by simp [isW, g4, g5]
    have fx : fit m x = true := by simp [fit, g3]
    have q1 := sgn_lo32 (n := m) (a := x) g1 g2 h0
    have q2 := sgn_hi32 (n := m) (a := x) g1 g2 g3
    have k1 := mask_wr g5 (sgn m x)
    have k2 := mask_fit g5 h0 h4
    have pn := pw_le32 g5
    rcases g6 with ⟨rfl | rfl, g7⟩ | ⟨rfl, g7⟩
    · have e3 : extV 16 m n x = x := by
        show wr n x = x
        exact wr_small h0 (by have := pw_mono (m := m) (n := n) (by omega); omega)
      have e4 : wr n x = x := e3
      rw [e3]
      clear e1 e2 e3 g k2
      go_enter Tryz.func146, Tryz.ntmps146
      go_wp2_with (first | (go_at_call 111; refine (fits1 m x _ _ (by simp [go_sem])).mono ?_; rintro e w' ⟨rfl, rfl⟩) | (go_at_call 62; refine (isWidth_any _ _).mono ?_; rintro e w' ⟨rfl, rfl⟩) | (go_at_call 63; refine (mask_any _ _ (by assumption) (by assumption)).mono ?_; rintro e w' ⟨rfl, rfl⟩) | (go_at_call 164; refine (signed_any _ _ _ (by omega) (by omega) (by omega) (by omega)).mono ?_; rintro e w' ⟨rfl, rfl⟩))
      all_goals go_ret2
      all_goals exact ⟨rfl, (Below.refl _ _).alloc (Nat.le_refl _) _⟩
    · have e3 : extV 17 m n x = wr n (sgn m x) := rfl
      rw [e3]
      clear e1 e2 e3 g
      go_enter Tryz.func146, Tryz.ntmps146
      go_wp2_with (first | (go_at_call 111; refine (fits1 m x _ _ (by simp [go_sem])).mono ?_; rintro e w' ⟨rfl, rfl⟩) | (go_at_call 62; refine (isWidth_any _ _).mono ?_; rintro e w' ⟨rfl, rfl⟩) | (go_at_call 63; refine (mask_any _ _ (by assumption) (by assumption)).mono ?_; rintro e w' ⟨rfl, rfl⟩) | (go_at_call 164; refine (signed_any _ _ _ (by omega) (by omega) (by omega) (by omega)).mono ?_; rintro e w' ⟨rfl, rfl⟩))
      all_goals go_ret2
      all_goals exact ⟨rfl, (Below.refl _ _).alloc (Nat.le_refl _) _⟩
    · have e3 : extV 18 m n x = wr n x := rfl
      rw [e3]
      clear e1 e2 e3 g
      go_enter Tryz.func146, Tryz.ntmps146
      go_wp2_with (first | (go_at_call 111; refine (fits1 m x _ _ (by simp [go_sem])).mono ?_; rintro e w' ⟨rfl, rfl⟩) | (go_at_call 62; refine (isWidth_any _ _).mono ?_; rintro e w' ⟨rfl, rfl⟩) | (go_at_call 63; refine (mask_any _ _ (by assumption) (by assumption)).mono ?_; rintro e w' ⟨rfl, rfl⟩) | (go_at_call 164; refine (signed_any _ _ _ (by omega) (by omega) (by omega) (by omega)).mono ?_; rintro e w' ⟨rfl, rfl⟩))
      all_goals go_ret2
      all_goals exact ⟨rfl, (Below.refl _ _).alloc (Nat.le_refl _) _⟩
  · have e2 : exE op m n x = 1 := by simp [exE, g]
    have e1 : exX op m n x = 0 := by simp [exX, g]
    rw [e1, e2]
    clear e1 e2
    cases hm : isW m
    · clear g
      go_enter Tryz.func146, Tryz.ntmps146
      go_wp2_with (first | (go_at_call 111; refine (fits1 m x _ _ (by simp [go_sem])).mono ?_; rintro e w' ⟨rfl, rfl⟩) | (go_at_call 62; refine (isWidth_any _ _).mono ?_; rintro e w' ⟨rfl, rfl⟩) | (go_at_call 63; refine (mask_any _ _ (by assumption) (by assumption)).mono ?_; rintro e w' ⟨rfl, rfl⟩) | (go_at_call 164; refine (signed_any _ _ _ (by omega) (by omega) (by omega) (by omega)).mono ?_; rintro e w' ⟨rfl, rfl⟩))
      all_goals go_ret2
      all_goals exact ⟨rfl, (Below.refl _ _).alloc (Nat.le_refl _) _⟩
    · cases fx : fit m x
      · clear g
        go_enter Tryz.func146, Tryz.ntmps146
        go_wp2_with (first | (go_at_call 111; refine (fits1 m x _ _ (by simp [go_sem])).mono ?_; rintro e w' ⟨rfl, rfl⟩) | (go_at_call 62; refine (isWidth_any _ _).mono ?_; rintro e w' ⟨rfl, rfl⟩) | (go_at_call 63; refine (mask_any _ _ (by assumption) (by assumption)).mono ?_; rintro e w' ⟨rfl, rfl⟩) | (go_at_call 164; refine (signed_any _ _ _ (by omega) (by omega) (by omega) (by omega)).mono ?_; rintro e w' ⟨rfl, rfl⟩))
        all_goals go_ret2
        all_goals exact ⟨rfl, (Below.refl _ _).alloc (Nat.le_refl _) _⟩
      · cases hn : isW n
        · clear g
          go_enter Tryz.func146, Tryz.ntmps146
          go_wp2_with (first | (go_at_call 111; refine (fits1 m x _ _ (by simp [go_sem])).mono ?_; rintro e w' ⟨rfl, rfl⟩) | (go_at_call 62; refine (isWidth_any _ _).mono ?_; rintro e w' ⟨rfl, rfl⟩) | (go_at_call 63; refine (mask_any _ _ (by assumption) (by assumption)).mono ?_; rintro e w' ⟨rfl, rfl⟩) | (go_at_call 164; refine (signed_any _ _ _ (by omega) (by omega) (by omega) (by omega)).mono ?_; rintro e w' ⟨rfl, rfl⟩))
          all_goals go_ret2
          all_goals exact ⟨rfl, (Below.refl _ _).alloc (Nat.le_refl _) _⟩
        · have hg : ¬ ((op = 16 ∨ op = 17) ∧ m < n ∨ op = 18 ∧ n < m) := by
            intro h
            apply g
            simp only [isW, fit, decide_eq_true_eq] at hm fx hn
            exact (goodX_iff _ _ _ _).2 ⟨hm.1, hm.2, fx, hn.1, hn.2, h⟩
          clear g
          by_cases o1 : op = 16
          · have c : decide (m < n) = false := by simp; omega
            have c2 : decide (n ≤ m) = true := by simp; omega
            subst o1
            clear hg
            go_enter Tryz.func146, Tryz.ntmps146
            go_wp2_with (first | (go_at_call 111; refine (fits1 m x _ _ (by simp [go_sem])).mono ?_; rintro e w' ⟨rfl, rfl⟩) | (go_at_call 62; refine (isWidth_any _ _).mono ?_; rintro e w' ⟨rfl, rfl⟩) | (go_at_call 63; refine (mask_any _ _ (by assumption) (by assumption)).mono ?_; rintro e w' ⟨rfl, rfl⟩) | (go_at_call 164; refine (signed_any _ _ _ (by omega) (by omega) (by omega) (by omega)).mono ?_; rintro e w' ⟨rfl, rfl⟩))
            all_goals go_ret2
            all_goals exact ⟨rfl, (Below.refl _ _).alloc (Nat.le_refl _) _⟩
          · by_cases o2 : op = 17
            · have c : decide (m < n) = false := by simp; omega
              have c2 : decide (n ≤ m) = true := by simp; omega
              subst o2
              clear hg
              go_enter Tryz.func146, Tryz.ntmps146
              go_wp2_with (first | (go_at_call 111; refine (fits1 m x _ _ (by simp [go_sem])).mono ?_; rintro e w' ⟨rfl, rfl⟩) | (go_at_call 62; refine (isWidth_any _ _).mono ?_; rintro e w' ⟨rfl, rfl⟩) | (go_at_call 63; refine (mask_any _ _ (by assumption) (by assumption)).mono ?_; rintro e w' ⟨rfl, rfl⟩) | (go_at_call 164; refine (signed_any _ _ _ (by omega) (by omega) (by omega) (by omega)).mono ?_; rintro e w' ⟨rfl, rfl⟩))
              all_goals go_ret2
              all_goals exact ⟨rfl, (Below.refl _ _).alloc (Nat.le_refl _) _⟩
            · by_cases o3 : op = 18
              · have c : decide (n < m) = false := by simp; omega
                have c2 : decide (m ≤ n) = true := by simp; omega
                subst o3
                clear hg
                go_enter Tryz.func146, Tryz.ntmps146
                go_wp2_with (first | (go_at_call 111; refine (fits1 m x _ _ (by simp [go_sem])).mono ?_; rintro e w' ⟨rfl, rfl⟩) | (go_at_call 62; refine (isWidth_any _ _).mono ?_; rintro e w' ⟨rfl, rfl⟩) | (go_at_call 63; refine (mask_any _ _ (by assumption) (by assumption)).mono ?_; rintro e w' ⟨rfl, rfl⟩) | (go_at_call 164; refine (signed_any _ _ _ (by omega) (by omega) (by omega) (by omega)).mono ?_; rintro e w' ⟨rfl, rfl⟩))
                all_goals go_ret2
                all_goals exact ⟨rfl, (Below.refl _ _).alloc (Nat.le_refl _) _⟩
              · have b1 : (op == 16) = false := by simpa using o1
                have b2 : (op == 17) = false := by simpa using o2
                have b3 : (op == 18) = false := by simpa using o3
                have b4 : decide (op < 16) = true ∨ decide (18 < op) = true := by simp; omega
                clear hg o1 o2 o3
                rcases b4 with b4 | b4
                · go_enter Tryz.func146, Tryz.ntmps146
                  go_wp2_with (first | (go_at_call 111; refine (fits1 m x _ _ (by simp [go_sem])).mono ?_; rintro e w' ⟨rfl, rfl⟩) | (go_at_call 62; refine (isWidth_any _ _).mono ?_; rintro e w' ⟨rfl, rfl⟩) | (go_at_call 63; refine (mask_any _ _ (by assumption) (by assumption)).mono ?_; rintro e w' ⟨rfl, rfl⟩) | (go_at_call 164; refine (signed_any _ _ _ (by omega) (by omega) (by omega) (by omega)).mono ?_; rintro e w' ⟨rfl, rfl⟩))
                  all_goals go_ret2
                  all_goals exact ⟨rfl, (Below.refl _ _).alloc (Nat.le_refl _) _⟩
                · go_enter Tryz.func146, Tryz.ntmps146
                  go_wp2_with (first | (go_at_call 111; refine (fits1 m x _ _ (by simp [go_sem])).mono ?_; rintro e w' ⟨rfl, rfl⟩) | (go_at_call 62; refine (isWidth_any _ _).mono ?_; rintro e w' ⟨rfl, rfl⟩) | (go_at_call 63; refine (mask_any _ _ (by assumption) (by assumption)).mono ?_; rintro e w' ⟨rfl, rfl⟩) | (go_at_call 164; refine (signed_any _ _ _ (by omega) (by omega) (by omega) (by omega)).mono ?_; rintro e w' ⟨rfl, rfl⟩))
                  all_goals go_ret2
                  all_goals exact ⟨rfl, (Below.refl _ _).alloc (Nat.le_refl _) _⟩
def Nd.val (x : Nd) (v : Value) : Value := .agg #[.int .i64 x.op, .int .i64 x.width, .int .i64 x.flags, v, .int .u32 x.imm]
structure Nd.Wf (x : Nd) : Prop where
  op : -9223372036854775808 ≤ x.op ∧ x.op ≤ 9223372036854775807
  width : -9223372036854775808 ≤ x.width ∧ x.width ≤ 9223372036854775807
  flags : -9223372036854775808 ≤ x.flags ∧ x.flags ≤ 9223372036854775807
  imm : 0 ≤ x.imm ∧ x.imm ≤ 4294967295
  args : ∀ a ∈ x.args, -9223372036854775808 ≤ a ∧ a ≤ 9223372036854775807
  len : x.args.length ≤ 4611686018427387904
def arV (op : Int) : Int := if op = 0 ∨ op = 33 then 0 else if 1 ≤ op ∧ op ≤ 14 then 2 else if op = 15 then 3 else if 16 ≤ op ∧ op ≤ 18 then 1 else -1
def immOk (x : Nd) : Bool :=
  if x.op = 0 then isW x.width && fit x.width x.imm else if x.op = 33 then decide (x.imm < 4) else if x.op = 14 then decide (x.imm ≤ 9) else x.imm == 0
theorem arV_cases (op : Int) : (op = 0 ∨ op = 33) ∧ arV op = 0 ∨ (1 ≤ op ∧ op ≤ 14) ∧ arV op = 2 ∨ op = 15 ∧ arV op = 3 ∨ (16 ≤ op ∧ op ≤ 18) ∧ arV op = 1 ∨ (op < 0 ∨ 18 < op ∧ op < 33 ∨ 33 < op) ∧ arV op = -1 := by
  unfold arV
  repeat' split
  all_goals omega
theorem arity_any (op : Int) (w : World) : Calls Tryz.prog 118 #[.int .i64 op] w fun e w' => e = .returned (.tuple #[.int .i64 (if arV op = -1 then 0 else arV op), .bool (arV op != -1)]) ∧ w = w' := by
  rcases arV_cases op with ⟨rfl | rfl, e⟩ | ⟨⟨h1, h2⟩, e⟩ | ⟨rfl, e⟩ | ⟨⟨h1, h2⟩, e⟩ | ⟨h, e⟩
  · rw [e]
    clear e
    go_enter Tryz.func118, Tryz.ntmps118
    go_wp2
    go_ret2
    exact ⟨rfl, rfl⟩
  · rw [e]
    clear e
    go_enter Tryz.func118, Tryz.ntmps118
    go_wp2
    go_ret2
    exact ⟨rfl, rfl⟩
  · rw [e]
    clear e
    have q0 : (op == 0) = false := by simp; omega
    have q1 : (op == 33) = false := by simp; omega
    have q2 : decide (1 ≤ op) = true := by simp; omega
    have q3 : decide (op ≤ 14) = true := by simp; omega
    go_enter Tryz.func118, Tryz.ntmps118
    go_wp2
    go_ret2
    exact ⟨rfl, rfl⟩
  · rw [e]
    clear e
    go_enter Tryz.func118, Tryz.ntmps118
    go_wp2
    go_ret2
    exact ⟨rfl, rfl⟩
  · rw [e]
    clear e
    have q0 : (op == 0) = false := by simp; omega
    have q1 : (op == 33) = false := by simp; omega
    have q2 : (op == 15) = false := by simp; omega
    have q3 : decide (1 ≤ op) = true := by simp; omega
    have q4 : decide (op ≤ 14) = false := by simp; omega
    have q5 : decide (16 ≤ op) = true := by simp; omega
    have q6 : decide (op ≤ 18) = true := by simp; omega
    go_enter Tryz.func118, Tryz.ntmps118
    go_wp2
    go_ret2
    exact ⟨rfl, rfl⟩
  · rcases h with h | ⟨h1, h2⟩ | h
    · rw [e]
      clear e
      have q0 : (op == 0) = false := by simp; omega
      have q1 : (op == 33) = false := by simp; omega
      have q2 : (op == 15) = false := by simp; omega
      have q3 : decide (1 ≤ op) = false := by simp; omega
      have q4 : decide (16 ≤ op) = false := by simp; omega
      go_enter Tryz.func118, Tryz.ntmps118
      go_wp2
      go_ret2
      exact ⟨rfl, rfl⟩
    · rw [e]
      clear e
      have q0 : (op == 0) = false := by simp; omega
      have q1 : (op == 33) = false := by simp; omega
      have q2 : (op == 15) = false := by simp; omega
      have q3 : decide (1 ≤ op) = true := by simp; omega
      have q4 : decide (op ≤ 14) = false := by simp; omega
      have q5 : decide (16 ≤ op) = true := by simp; omega
      have q6 : decide (op ≤ 18) = false := by simp; omega
      go_enter Tryz.func118, Tryz.ntmps118
      go_wp2
      go_ret2
      exact ⟨rfl, rfl⟩
    · rw [e]
      clear e
      have q0 : (op == 0) = false := by simp; omega
      have q1 : (op == 33) = false := by simp; omega
      have q2 : (op == 15) = false := by simp; omega
      have q3 : decide (1 ≤ op) = true := by simp; omega
      have q4 : decide (op ≤ 14) = false := by simp; omega
      have q5 : decide (16 ≤ op) = true := by simp; omega
      have q6 : decide (op ≤ 18) = false := by simp; omega
      go_enter Tryz.func118, Tryz.ntmps118
      go_wp2
      go_ret2
      exact ⟨rfl, rfl⟩
theorem rArity_any (op : Int) (w : World) : Calls Tryz.prog 147 #[.int .i64 op] w fun e w' => e = .returned (.int .i64 (arV op)) ∧ w = w' := by
  rcases arV_cases op with ⟨rfl | rfl, e⟩ | ⟨⟨h1, h2⟩, e⟩ | ⟨rfl, e⟩ | ⟨⟨h1, h2⟩, e⟩ | ⟨h, e⟩
  · rw [e]
    clear e
    go_enter Tryz.func147, Tryz.ntmps147
    go_wp2
    go_ret
    exact ⟨rfl, rfl⟩
  · rw [e]
    clear e
    go_enter Tryz.func147, Tryz.ntmps147
    go_wp2
    go_ret
    exact ⟨rfl, rfl⟩
  · rw [e]
    clear e
    have q0 : (op == 0) = false := by simp; omega
    have q1 : (op == 33) = false := by simp; omega
    have q2 : decide (1 ≤ op) = true := by simp; omega
    have q3 : decide (op ≤ 14) = true := by simp; omega
    go_enter Tryz.func147, Tryz.ntmps147
    go_wp2
    go_ret
    exact ⟨rfl, rfl⟩
  · rw [e]
    clear e
    go_enter Tryz.func147, Tryz.ntmps147
    go_wp2
    go_ret
    exact ⟨rfl, rfl⟩
  · rw [e]
    clear e
    have q0 : (op == 0) = false := by simp; omega
    have q1 : (op == 33) = false := by simp; omega
    have q2 : (op == 15) = false := by simp; omega
    have q3 : decide (1 ≤ op) = true := by simp; omega
    have q4 : decide (op ≤ 14) = false := by simp; omega
    have q5 : decide (16 ≤ op) = true := by simp; omega
    have q6 : decide (op ≤ 18) = true := by simp; omega
    go_enter Tryz.func147, Tryz.ntmps147
    go_wp2
    go_ret
    exact ⟨rfl, rfl⟩
  · rcases h with h | ⟨h1, h2⟩ | h
    · rw [e]
      clear e
      have q0 : (op == 0) = false := by simp; omega
      have q1 : (op == 33) = false := by simp; omega
      have q2 : (op == 15) = false := by simp; omega
      have q3 : decide (1 ≤ op) = false := by simp; omega
      have q4 : decide (16 ≤ op) = false := by simp; omega
      go_enter Tryz.func147, Tryz.ntmps147
      go_wp2
      go_ret
      exact ⟨rfl, rfl⟩
    · rw [e]
      clear e
      have q0 : (op == 0) = false := by simp; omega
      have q1 : (op == 33) = false := by simp; omega
      have q2 : (op == 15) = false := by simp; omega
      have q3 : decide (1 ≤ op) = true := by simp; omega
      have q4 : decide (op ≤ 14) = false := by simp; omega
      have q5 : decide (16 ≤ op) = true := by simp; omega
      have q6 : decide (op ≤ 18) = false := by simp; omega
      go_enter Tryz.func147, Tryz.ntmps147
      go_wp2
      go_ret
      exact ⟨rfl, rfl⟩
    · rw [e]
      clear e
      have q0 : (op == 0) = false := by simp; omega
      have q1 : (op == 33) = false := by simp; omega
      have q2 : (op == 15) = false := by simp; omega
      have q3 : decide (1 ≤ op) = true := by simp; omega
      have q4 : decide (op ≤ 14) = false := by simp; omega
      have q5 : decide (16 ≤ op) = true := by simp; omega
      have q6 : decide (op ≤ 18) = false := by simp; omega
      go_enter Tryz.func147, Tryz.ntmps147
      go_wp2
      go_ret
      exact ⟨rfl, rfl⟩
theorem arity_yes (op : Int) (w : World) (h : (arV op != -1) = true) : Calls Tryz.prog 118 #[.int .i64 op] w fun e w' => e = .returned (.tuple #[.int .i64 (arV op), .bool true]) ∧ w = w' := by
  have h2 : arV op ≠ -1 := by simpa using h
  have := arity_any op w
  rw [if_neg h2, h] at this
  exact this
theorem arity_no (op : Int) (w : World) (h : (arV op != -1) = false) : Calls Tryz.prog 118 #[.int .i64 op] w fun e w' => e = .returned (.tuple #[.int .i64 0, .bool false]) ∧ w = w' := by
  have h2 : arV op = -1 := by simpa using h
  have := arity_any op w
  rw [if_pos h2, h] at this
  exact this
theorem isImm_any (x : Nd) (v : Value) (w : World) (hv : ∃ a n c, v = .slice a n c) (i1 : 0 ≤ x.imm) (i2 : x.imm ≤ 4294967295) : Calls Tryz.prog 119 #[.agg #[.int .i64 x.op, .int .i64 x.width, .int .i64 x.flags, v, .int .u32 x.imm]] w fun e w' => e = .returned (.bool (immOk x)) ∧ Below w.heap.size w w' := by
  obtain ⟨a, n, c, rfl⟩ := hv
  obtain ⟨op, width, flags, args, imm⟩ := x
  simp only at i1 i2 ⊢
  by_cases o0 : op = 0
  · subst o0
    cases hw : isW width
    · have e : immOk ⟨0, width, flags, args, imm⟩ = false := by simp [immOk, hw]
      have m1 : mkE width = 1 := by simp [mkE, hw]
      rw [e]
      clear e
      go_enter Tryz.func119, Tryz.ntmps119
      go_wp2_with (first | (go_at_call 28; refine (pMask _ _).mono ?_; rintro e w' ⟨rfl, rfl⟩))
      go_ret
      exact ⟨rfl, by repeat (first | with_reducible exact Below.refl _ _ | with_reducible refine Below.drew ?_ | with_reducible refine below_drewN ?_ _ | with_reducible refine Below.alloc ?_ (by simp; try omega) _)⟩
    · have m1 : mkE width = 0 := by simp [mkE, hw]
      have m2 : mkX width = pw width - 1 := by simp [mkX, hw]
      have e : immOk ⟨0, width, flags, args, imm⟩ = decide (imm ≤ pw width - 1) := by
        simp [immOk, hw, fit]; omega
      rw [e]
      clear e
      go_enter Tryz.func119, Tryz.ntmps119
      go_wp2_with (first | (go_at_call 28; refine (pMask _ _).mono ?_; rintro e w' ⟨rfl, rfl⟩))
      go_ret
      exact ⟨rfl, by repeat (first | with_reducible exact Below.refl _ _ | with_reducible refine Below.drew ?_ | with_reducible refine below_drewN ?_ _ | with_reducible refine Below.alloc ?_ (by simp; try omega) _)⟩
  · by_cases o1 : op = 33
    · subst o1
      have e : immOk ⟨33, width, flags, args, imm⟩ = decide (imm < 4) := rfl
      rw [e]
      clear e o0
      go_enter Tryz.func119, Tryz.ntmps119
      go_wp2_with (first | (go_at_call 28; refine (pMask _ _).mono ?_; rintro e w' ⟨rfl, rfl⟩))
      go_ret
      exact ⟨rfl, by repeat (first | with_reducible exact Below.refl _ _ | with_reducible refine Below.drew ?_ | with_reducible refine below_drewN ?_ _ | with_reducible refine Below.alloc ?_ (by simp; try omega) _)⟩
    · by_cases o2 : op = 14
      · subst o2
        have e : immOk ⟨14, width, flags, args, imm⟩ = decide (imm ≤ 9) := rfl
        rw [e]
        clear e o0 o1
        go_enter Tryz.func119, Tryz.ntmps119
        go_wp2_with (first | (go_at_call 28; refine (pMask _ _).mono ?_; rintro e w' ⟨rfl, rfl⟩))
        go_ret
        exact ⟨rfl, by repeat (first | with_reducible exact Below.refl _ _ | with_reducible refine Below.drew ?_ | with_reducible refine below_drewN ?_ _ | with_reducible refine Below.alloc ?_ (by simp; try omega) _)⟩
      · have e : immOk ⟨op, width, flags, args, imm⟩ = (imm == 0) := by simp [immOk, o0, o1, o2]
        have c0 : (op == 0) = false := by simpa using o0
        have c1 : (op == 33) = false := by simpa using o1
        have c2 : (op == 14) = false := by simpa using o2
        rw [e]
        clear e o0 o1 o2
        go_enter Tryz.func119, Tryz.ntmps119
        go_wp2_with (first | (go_at_call 28; refine (pMask _ _).mono ?_; rintro e w' ⟨rfl, rfl⟩))
        go_ret
        exact ⟨rfl, by repeat (first | with_reducible exact Below.refl _ _ | with_reducible refine Below.drew ?_ | with_reducible refine below_drewN ?_ _ | with_reducible refine Below.alloc ?_ (by simp; try omega) _)⟩
def bad (k a : Int) : Bool := decide (a < 0) || decide (k ≤ a)
theorem any_getD {p : Int → Bool} {xs : List Int} {j : Nat} (hj : j < xs.length) (h : p (xs.getD j 0) = true) : xs.any p = true := by
  rw [List.any_eq_true]
  refine ⟨xs.getD j 0, ?_, h⟩
  rw [List.getD_eq_getElem?_getD, List.getElem?_eq_getElem hj]
  exact List.getElem_mem hj
theorem none_getD {p : Int → Bool} {xs : List Int} (h : ∀ i, i < xs.length → p (xs.getD i 0) = false) : xs.any p = false := by
  rw [Bool.eq_false_iff]
  intro ha
  obtain ⟨a, hm, hp⟩ := List.any_eq_true.1 ha
  obtain ⟨i, hi, rfl⟩ := List.getElem_of_mem hm
  have := h i hi
  rw [List.getD_eq_getElem?_getD, List.getElem?_eq_getElem hi] at this
  simp at this
  rw [this] at hp; cases hp
theorem shaped1 (k a : Int) (b : Nat) (w : World) (hk : w.cell? ⟨b, 0, none⟩ = some (.int .i64 k)) : Calls Tryz.prog 120 #[.int .i64 a, .pointer (some ⟨b, 0, none⟩)] w fun e w' => e = .returned (.bool (bad k a)) ∧ w = w' := by
  cases c1 : decide (a < 0)
  · have e : bad k a = decide (k ≤ a) := by simp [bad, c1]
    rw [e]
    clear e
    go_enter Tryz.func120, Tryz.ntmps120
    go_wp2
    go_ret
    exact ⟨rfl, rfl⟩
  · have e : bad k a = true := by simp [bad, c1]
    rw [e]
    clear e
    go_enter Tryz.func120, Tryz.ntmps120
    go_wp2
    go_ret
    exact ⟨rfl, rfl⟩
theorem index_yes (k : Int) (xs : List Int) (v : Value) (b : Nat) (w : World) (hk : w.cell? ⟨b, 0, none⟩ = some (.int .i64 k)) (hv : Ints .i64 w v xs) (ha : xs.any (bad k) = true) : Calls Tryz.prog 101 #[v, .func (.func 120) #[] #[.pointer (some ⟨b, 0, none⟩)]] w fun e w' => ∃ r : Nat, e = .returned (.int .i64 r) ∧ w = w' := by
  obtain ⟨a, c, rfl, hc1, hc2, hc3, hcell⟩ := hv
  have HC := Lib.hid hcell
  clear hcell hc3
  go_enter Tryz.func101, Tryz.ntmps101
  go_wp2_with fail
  go_loop [5, 8] (fun _ i => ∃ j : Nat, j ≤ xs.length ∧ i = .int .i64 j ∧ Hid (∀ i, i < j → bad k (xs.getD i 0) = false)) (fun _ i => xs.length - (intOf i).toNat)
  case atStart => exact ⟨0, Nat.zero_le _, rfl, fun i hi => absurd hi (by omega)⟩
  case round =>
    obtain ⟨j, hj, rfl, hno⟩ := hrel
    by_cases hlt : j < xs.length
    · obtain ⟨b2, o2, rfl, _, hcell⟩ := HC.out j hlt
      simp only [Nat.mul_one] at hcell
      generalize hy : xs.getD j 0 = y at *
      have HY := Lib.hid hy
      clear hy
      cases hb : bad k y
      · have HB := Lib.hid hb
        go_wp2_with (first | (go_at_call 120; refine (shaped1 k _ _ _ (by assumption)).mono ?_; rintro e w' ⟨rfl, rfl⟩))
        go_round
        case rel => exact ⟨j + 1, by omega, by go_num, fun i hi => by
          by_cases e : i = j
          · rw [e, HY.out]; exact HB.out
          · exact hno.out i (by omega)⟩
        case measure => simp [intOf]; omega
      · go_wp2_with (first | (go_at_call 120; refine (shaped1 k _ _ _ (by assumption)).mono ?_; rintro e w' ⟨rfl, rfl⟩))
        go_ret
        exact ⟨j, rfl, rfl⟩
    · obtain rfl : j = xs.length := by omega
      exfalso
      have := none_getD hno.out
      rw [ha] at this; cases this
theorem index_no (k : Int) (xs : List Int) (v : Value) (b : Nat) (w : World) (hk : w.cell? ⟨b, 0, none⟩ = some (.int .i64 k)) (hv : Ints .i64 w v xs) (ha : xs.any (bad k) = false) : Calls Tryz.prog 101 #[v, .func (.func 120) #[] #[.pointer (some ⟨b, 0, none⟩)]] w fun e w' => e = .returned (.int .i64 (-1)) ∧ w = w' := by
  obtain ⟨a, c, rfl, hc1, hc2, hc3, hcell⟩ := hv
  have HC := Lib.hid hcell
  clear hcell hc3
  go_enter Tryz.func101, Tryz.ntmps101
  go_wp2_with fail
  go_loop [5, 8] (fun _ i => ∃ j : Nat, j ≤ xs.length ∧ i = .int .i64 j ∧ Hid (∀ i, i < j → bad k (xs.getD i 0) = false)) (fun _ i => xs.length - (intOf i).toNat)
  case atStart => exact ⟨0, Nat.zero_le _, rfl, fun i hi => absurd hi (by omega)⟩
  case round =>
    obtain ⟨j, hj, rfl, hno⟩ := hrel
    by_cases hlt : j < xs.length
    · obtain ⟨b2, o2, rfl, _, hcell⟩ := HC.out j hlt
      simp only [Nat.mul_one] at hcell
      generalize hy : xs.getD j 0 = y at *
      have HY := Lib.hid hy
      clear hy
      cases hb : bad k y
      · have HB := Lib.hid hb
        go_wp2_with (first | (go_at_call 120; refine (shaped1 k _ _ _ (by assumption)).mono ?_; rintro e w' ⟨rfl, rfl⟩))
        go_round
        case rel => exact ⟨j + 1, by omega, by go_num, fun i hi => by
          by_cases e : i = j
          · rw [e, HY.out]; exact HB.out
          · exact hno.out i (by omega)⟩
        case measure => simp [intOf]; omega
      · exfalso
        have := any_getD (p := bad k) hlt (by rw [HY.out]; exact hb)
        rw [ha] at this; cases this
    · obtain rfl : j = xs.length := by omega
      go_wp2_with fail
      go_ret
      exact ⟨rfl, rfl⟩
theorem contains_bad (k : Int) (xs : List Int) (v : Value) (b : Nat) (w : World) (hk : w.cell? ⟨b, 0, none⟩ = some (.int .i64 k)) (hv : Ints .i64 w v xs) : Calls Tryz.prog 65 #[v, .func (.func 120) #[] #[.pointer (some ⟨b, 0, none⟩)]] w fun e w' => e = .returned (.bool (xs.any (bad k))) ∧ w = w' := by
  cases ha : xs.any (bad k)
  · go_enter Tryz.func65, Tryz.ntmps65
    go_wp2_with (first | (go_at_call 101; refine (index_no k xs _ _ _ (by assumption) (by assumption) (by assumption)).mono ?_; rintro e w' ⟨rfl, rfl⟩))
    go_ret
    exact ⟨rfl, rfl⟩
  · go_enter Tryz.func65, Tryz.ntmps65
    go_wp2_with (first | (go_at_call 101; refine (index_yes k xs _ _ _ (by assumption) (by assumption) (by assumption)).mono ?_; rintro e w' ⟨r, rfl, rfl⟩))
    go_ret
    exact ⟨rfl, rfl⟩
def shaped (k : Int) (x : Nd) : Bool :=
  (arV x.op != -1) && !decide (x.width < 1) && !decide (32 < x.width) && !(x.flags != 0) && !((x.args.length : Int) != arV x.op) && immOk x && !((x.op == 14) && (x.width != 1)) && !(x.args.any (bad k))
set_option maxHeartbeats 4000000 in
theorem isShaped_any (k : Int) (x : Nd) (v : Value) (w : World) (hv : Ints .i64 w v x.args) (i1 : 0 ≤ x.imm) (i2 : x.imm ≤ 4294967295) : Calls Tryz.prog 85 #[.int .i64 k, .agg #[.int .i64 x.op, .int .i64 x.width, .int .i64 x.flags, v, .int .u32 x.imm]] w fun e w' => e = .returned (.bool (shaped k x)) ∧ Below w.heap.size w w' := by
  obtain ⟨op, width, flags, args, imm⟩ := x
  simp only at hv i1 i2 ⊢
  have HV := Lib.hid hv
  obtain ⟨a, c, rfl, hc1, hc2, hc3, hcell⟩ := hv
  clear hcell hc3
  cases c1 : (arV op != -1)
  · have e : shaped k ⟨op, width, flags, args, imm⟩ = false := by simp only [shaped, c1]; simp
    rw [e]
    clear e
    go_enter Tryz.func85, Tryz.ntmps85
    go_wp2_with fail
    have h00 := Since.refl ((w.alloc (.cells #[.int .i64 k] 3)).alloc (.cells #[.int .i64 op, .int .i64 width, .int .i64 flags, .slice a args.length c, .int .u32 imm] 65))
    have l0 : ∀ wk, Since ((w.alloc (.cells #[.int .i64 k] 3)).alloc (.cells #[.int .i64 op, .int .i64 width, .int .i64 flags, .slice a args.length c, .int .u32 imm] 65)) wk → wk.cell? ⟨w.heap.size, 0, none⟩ = some (.int .i64 k) := fun wk h => by rw [(bcell (show Below _ _ _ from h)).1 _ _ (by simp; try omega)]; simp [go_sem]
    have l1 : ∀ wk, Since ((w.alloc (.cells #[.int .i64 k] 3)).alloc (.cells #[.int .i64 op, .int .i64 width, .int .i64 flags, .slice a args.length c, .int .u32 imm] 65)) wk → wk.cell? ⟨w.heap.size + 1, 0, none⟩ = some (.int .i64 op) := fun wk h => by rw [(bcell (show Below _ _ _ from h)).1 _ _ (by simp; try omega)]; simp [go_sem]
    have l2 : ∀ wk, Since ((w.alloc (.cells #[.int .i64 k] 3)).alloc (.cells #[.int .i64 op, .int .i64 width, .int .i64 flags, .slice a args.length c, .int .u32 imm] 65)) wk → wk.cell? ⟨w.heap.size + 1, 1, none⟩ = some (.int .i64 width) := fun wk h => by rw [(bcell (show Below _ _ _ from h)).1 _ _ (by simp; try omega)]; simp [go_sem]
    have l3 : ∀ wk, Since ((w.alloc (.cells #[.int .i64 k] 3)).alloc (.cells #[.int .i64 op, .int .i64 width, .int .i64 flags, .slice a args.length c, .int .u32 imm] 65)) wk → wk.cell? ⟨w.heap.size + 1, 2, none⟩ = some (.int .i64 flags) := fun wk h => by rw [(bcell (show Below _ _ _ from h)).1 _ _ (by simp; try omega)]; simp [go_sem]
    have l4 : ∀ wk, Since ((w.alloc (.cells #[.int .i64 k] 3)).alloc (.cells #[.int .i64 op, .int .i64 width, .int .i64 flags, .slice a args.length c, .int .u32 imm] 65)) wk → wk.cell? ⟨w.heap.size + 1, 3, none⟩ = some (.slice a args.length c) := fun wk h => by rw [(bcell (show Below _ _ _ from h)).1 _ _ (by simp; try omega)]; simp [go_sem]
    have l5 : ∀ wk, Since ((w.alloc (.cells #[.int .i64 k] 3)).alloc (.cells #[.int .i64 op, .int .i64 width, .int .i64 flags, .slice a args.length c, .int .u32 imm] 65)) wk → wk.cell? ⟨w.heap.size + 1, 4, none⟩ = some (.int .u32 imm) := fun wk h => by rw [(bcell (show Below _ _ _ from h)).1 _ _ (by simp; try omega)]; simp [go_sem]
    have hlk : ∀ wk, Since ((w.alloc (.cells #[.int .i64 k] 3)).alloc (.cells #[.int .i64 op, .int .i64 width, .int .i64 flags, .slice a args.length c, .int .u32 imm] 65)) wk → wk.cell? ⟨w.heap.size, 0, none⟩ = some (.int .i64 k) := l0
    have hin : ∀ wk, Since ((w.alloc (.cells #[.int .i64 k] 3)).alloc (.cells #[.int .i64 op, .int .i64 width, .int .i64 flags, .slice a args.length c, .int .u32 imm] 65)) wk → Ints .i64 wk (.slice a args.length c) args := fun wk h => HV.out.stays (below_box (below_box h))
    go_wp2_with (first | (go_at_call 118; refine (arity_yes _ _ (by assumption)).mono ?_; rintro e w' ⟨rfl, rfl⟩) | (go_at_call 118; refine (arity_no _ _ (by assumption)).mono ?_; rintro e w' ⟨rfl, rfl⟩) | (go_at_call 119; refine (acc_p (isImm_any ⟨op, width, flags, args, imm⟩ _ _ ⟨_, _, _, rfl⟩ i1 i2) (by assumption)).mono ?_; rintro e w' ⟨rfl, hb⟩) | (go_at_call 65; refine (acc_e (contains_bad k args _ _ _ (hlk _ (by assumption)) (hin _ (by assumption))) (by assumption)).mono ?_; rintro e w' ⟨rfl, hb⟩))
    go_ret
    exact ⟨rfl, below_box (below_box ‹_›)⟩
  · skip
    cases c2 : decide (width < 1)
    rotate_left
    · have e : shaped k ⟨op, width, flags, args, imm⟩ = false := by simp only [shaped, c1, c2]; simp
      rw [e]
      clear e
      go_enter Tryz.func85, Tryz.ntmps85
      go_wp2_with fail
      have h00 := Since.refl ((w.alloc (.cells #[.int .i64 k] 3)).alloc (.cells #[.int .i64 op, .int .i64 width, .int .i64 flags, .slice a args.length c, .int .u32 imm] 65))
      have l0 : ∀ wk, Since ((w.alloc (.cells #[.int .i64 k] 3)).alloc (.cells #[.int .i64 op, .int .i64 width, .int .i64 flags, .slice a args.length c, .int .u32 imm] 65)) wk → wk.cell? ⟨w.heap.size, 0, none⟩ = some (.int .i64 k) := fun wk h => by rw [(bcell (show Below _ _ _ from h)).1 _ _ (by simp; try omega)]; simp [go_sem]
      have l1 : ∀ wk, Since ((w.alloc (.cells #[.int .i64 k] 3)).alloc (.cells #[.int .i64 op, .int .i64 width, .int .i64 flags, .slice a args.length c, .int .u32 imm] 65)) wk → wk.cell? ⟨w.heap.size + 1, 0, none⟩ = some (.int .i64 op) := fun wk h => by rw [(bcell (show Below _ _ _ from h)).1 _ _ (by simp; try omega)]; simp [go_sem]
      have l2 : ∀ wk, Since ((w.alloc (.cells #[.int .i64 k] 3)).alloc (.cells #[.int .i64 op, .int .i64 width, .int .i64 flags, .slice a args.length c, .int .u32 imm] 65)) wk → wk.cell? ⟨w.heap.size + 1, 1, none⟩ = some (.int .i64 width) := fun wk h => by rw [(bcell (show Below _ _ _ from h)).1 _ _ (by simp; try omega)]; simp [go_sem]
      have l3 : ∀ wk, Since ((w.alloc (.cells #[.int .i64 k] 3)).alloc (.cells #[.int .i64 op, .int .i64 width, .int .i64 flags, .slice a args.length c, .int .u32 imm] 65)) wk → wk.cell? ⟨w.heap.size + 1, 2, none⟩ = some (.int .i64 flags) := fun wk h => by rw [(bcell (show Below _ _ _ from h)).1 _ _ (by simp; try omega)]; simp [go_sem]
      have l4 : ∀ wk, Since ((w.alloc (.cells #[.int .i64 k] 3)).alloc (.cells #[.int .i64 op, .int .i64 width, .int .i64 flags, .slice a args.length c, .int .u32 imm] 65)) wk → wk.cell? ⟨w.heap.size + 1, 3, none⟩ = some (.slice a args.length c) := fun wk h => by rw [(bcell (show Below _ _ _ from h)).1 _ _ (by simp; try omega)]; simp [go_sem]
      have l5 : ∀ wk, Since ((w.alloc (.cells #[.int .i64 k] 3)).alloc (.cells #[.int .i64 op, .int .i64 width, .int .i64 flags, .slice a args.length c, .int .u32 imm] 65)) wk → wk.cell? ⟨w.heap.size + 1, 4, none⟩ = some (.int .u32 imm) := fun wk h => by rw [(bcell (show Below _ _ _ from h)).1 _ _ (by simp; try omega)]; simp [go_sem]
      have hlk : ∀ wk, Since ((w.alloc (.cells #[.int .i64 k] 3)).alloc (.cells #[.int .i64 op, .int .i64 width, .int .i64 flags, .slice a args.length c, .int .u32 imm] 65)) wk → wk.cell? ⟨w.heap.size, 0, none⟩ = some (.int .i64 k) := l0
      have hin : ∀ wk, Since ((w.alloc (.cells #[.int .i64 k] 3)).alloc (.cells #[.int .i64 op, .int .i64 width, .int .i64 flags, .slice a args.length c, .int .u32 imm] 65)) wk → Ints .i64 wk (.slice a args.length c) args := fun wk h => HV.out.stays (below_box (below_box h))
      go_wp2_with (first | (go_at_call 118; refine (arity_yes _ _ (by assumption)).mono ?_; rintro e w' ⟨rfl, rfl⟩) | (go_at_call 118; refine (arity_no _ _ (by assumption)).mono ?_; rintro e w' ⟨rfl, rfl⟩) | (go_at_call 119; refine (acc_p (isImm_any ⟨op, width, flags, args, imm⟩ _ _ ⟨_, _, _, rfl⟩ i1 i2) (by assumption)).mono ?_; rintro e w' ⟨rfl, hb⟩) | (go_at_call 65; refine (acc_e (contains_bad k args _ _ _ (hlk _ (by assumption)) (hin _ (by assumption))) (by assumption)).mono ?_; rintro e w' ⟨rfl, hb⟩))
      go_ret
      exact ⟨rfl, below_box (below_box ‹_›)⟩
    · skip
      cases c3 : decide (32 < width)
      rotate_left
      · have e : shaped k ⟨op, width, flags, args, imm⟩ = false := by simp only [shaped, c1, c2, c3]; simp
        rw [e]
        clear e
        go_enter Tryz.func85, Tryz.ntmps85
        go_wp2_with fail
        have h00 := Since.refl ((w.alloc (.cells #[.int .i64 k] 3)).alloc (.cells #[.int .i64 op, .int .i64 width, .int .i64 flags, .slice a args.length c, .int .u32 imm] 65))
        have l0 : ∀ wk, Since ((w.alloc (.cells #[.int .i64 k] 3)).alloc (.cells #[.int .i64 op, .int .i64 width, .int .i64 flags, .slice a args.length c, .int .u32 imm] 65)) wk → wk.cell? ⟨w.heap.size, 0, none⟩ = some (.int .i64 k) := fun wk h => by rw [(bcell (show Below _ _ _ from h)).1 _ _ (by simp; try omega)]; simp [go_sem]
        have l1 : ∀ wk, Since ((w.alloc (.cells #[.int .i64 k] 3)).alloc (.cells #[.int .i64 op, .int .i64 width, .int .i64 flags, .slice a args.length c, .int .u32 imm] 65)) wk → wk.cell? ⟨w.heap.size + 1, 0, none⟩ = some (.int .i64 op) := fun wk h => by rw [(bcell (show Below _ _ _ from h)).1 _ _ (by simp; try omega)]; simp [go_sem]
        have l2 : ∀ wk, Since ((w.alloc (.cells #[.int .i64 k] 3)).alloc (.cells #[.int .i64 op, .int .i64 width, .int .i64 flags, .slice a args.length c, .int .u32 imm] 65)) wk → wk.cell? ⟨w.heap.size + 1, 1, none⟩ = some (.int .i64 width) := fun wk h => by rw [(bcell (show Below _ _ _ from h)).1 _ _ (by simp; try omega)]; simp [go_sem]
        have l3 : ∀ wk, Since ((w.alloc (.cells #[.int .i64 k] 3)).alloc (.cells #[.int .i64 op, .int .i64 width, .int .i64 flags, .slice a args.length c, .int .u32 imm] 65)) wk → wk.cell? ⟨w.heap.size + 1, 2, none⟩ = some (.int .i64 flags) := fun wk h => by rw [(bcell (show Below _ _ _ from h)).1 _ _ (by simp; try omega)]; simp [go_sem]
        have l4 : ∀ wk, Since ((w.alloc (.cells #[.int .i64 k] 3)).alloc (.cells #[.int .i64 op, .int .i64 width, .int .i64 flags, .slice a args.length c, .int .u32 imm] 65)) wk → wk.cell? ⟨w.heap.size + 1, 3, none⟩ = some (.slice a args.length c) := fun wk h => by rw [(bcell (show Below _ _ _ from h)).1 _ _ (by simp; try omega)]; simp [go_sem]
        have l5 : ∀ wk, Since ((w.alloc (.cells #[.int .i64 k] 3)).alloc (.cells #[.int .i64 op, .int .i64 width, .int .i64 flags, .slice a args.length c, .int .u32 imm] 65)) wk → wk.cell? ⟨w.heap.size + 1, 4, none⟩ = some (.int .u32 imm) := fun wk h => by rw [(bcell (show Below _ _ _ from h)).1 _ _ (by simp; try omega)]; simp [go_sem]
        have hlk : ∀ wk, Since ((w.alloc (.cells #[.int .i64 k] 3)).alloc (.cells #[.int .i64 op, .int .i64 width, .int .i64 flags, .slice a args.length c, .int .u32 imm] 65)) wk → wk.cell? ⟨w.heap.size, 0, none⟩ = some (.int .i64 k) := l0
        have hin : ∀ wk, Since ((w.alloc (.cells #[.int .i64 k] 3)).alloc (.cells #[.int .i64 op, .int .i64 width, .int .i64 flags, .slice a args.length c, .int .u32 imm] 65)) wk → Ints .i64 wk (.slice a args.length c) args := fun wk h => HV.out.stays (below_box (below_box h))
        go_wp2_with (first | (go_at_call 118; refine (arity_yes _ _ (by assumption)).mono ?_; rintro e w' ⟨rfl, rfl⟩) | (go_at_call 118; refine (arity_no _ _ (by assumption)).mono ?_; rintro e w' ⟨rfl, rfl⟩) | (go_at_call 119; refine (acc_p (isImm_any ⟨op, width, flags, args, imm⟩ _ _ ⟨_, _, _, rfl⟩ i1 i2) (by assumption)).mono ?_; rintro e w' ⟨rfl, hb⟩) | (go_at_call 65; refine (acc_e (contains_bad k args _ _ _ (hlk _ (by assumption)) (hin _ (by assumption))) (by assumption)).mono ?_; rintro e w' ⟨rfl, hb⟩))
        go_ret
        exact ⟨rfl, below_box (below_box ‹_›)⟩
      · skip
        cases c4 : (flags != 0)
        rotate_left
        · have e : shaped k ⟨op, width, flags, args, imm⟩ = false := by simp only [shaped, c1, c2, c3, c4]; simp
          rw [e]
          clear e
          go_enter Tryz.func85, Tryz.ntmps85
          go_wp2_with fail
          have h00 := Since.refl ((w.alloc (.cells #[.int .i64 k] 3)).alloc (.cells #[.int .i64 op, .int .i64 width, .int .i64 flags, .slice a args.length c, .int .u32 imm] 65))
          have l0 : ∀ wk, Since ((w.alloc (.cells #[.int .i64 k] 3)).alloc (.cells #[.int .i64 op, .int .i64 width, .int .i64 flags, .slice a args.length c, .int .u32 imm] 65)) wk → wk.cell? ⟨w.heap.size, 0, none⟩ = some (.int .i64 k) := fun wk h => by rw [(bcell (show Below _ _ _ from h)).1 _ _ (by simp; try omega)]; simp [go_sem]
          have l1 : ∀ wk, Since ((w.alloc (.cells #[.int .i64 k] 3)).alloc (.cells #[.int .i64 op, .int .i64 width, .int .i64 flags, .slice a args.length c, .int .u32 imm] 65)) wk → wk.cell? ⟨w.heap.size + 1, 0, none⟩ = some (.int .i64 op) := fun wk h => by rw [(bcell (show Below _ _ _ from h)).1 _ _ (by simp; try omega)]; simp [go_sem]
          have l2 : ∀ wk, Since ((w.alloc (.cells #[.int .i64 k] 3)).alloc (.cells #[.int .i64 op, .int .i64 width, .int .i64 flags, .slice a args.length c, .int .u32 imm] 65)) wk → wk.cell? ⟨w.heap.size + 1, 1, none⟩ = some (.int .i64 width) := fun wk h => by rw [(bcell (show Below _ _ _ from h)).1 _ _ (by simp; try omega)]; simp [go_sem]
          have l3 : ∀ wk, Since ((w.alloc (.cells #[.int .i64 k] 3)).alloc (.cells #[.int .i64 op, .int .i64 width, .int .i64 flags, .slice a args.length c, .int .u32 imm] 65)) wk → wk.cell? ⟨w.heap.size + 1, 2, none⟩ = some (.int .i64 flags) := fun wk h => by rw [(bcell (show Below _ _ _ from h)).1 _ _ (by simp; try omega)]; simp [go_sem]
          have l4 : ∀ wk, Since ((w.alloc (.cells #[.int .i64 k] 3)).alloc (.cells #[.int .i64 op, .int .i64 width, .int .i64 flags, .slice a args.length c, .int .u32 imm] 65)) wk → wk.cell? ⟨w.heap.size + 1, 3, none⟩ = some (.slice a args.length c) := fun wk h => by rw [(bcell (show Below _ _ _ from h)).1 _ _ (by simp; try omega)]; simp [go_sem]
          have l5 : ∀ wk, Since ((w.alloc (.cells #[.int .i64 k] 3)).alloc (.cells #[.int .i64 op, .int .i64 width, .int .i64 flags, .slice a args.length c, .int .u32 imm] 65)) wk → wk.cell? ⟨w.heap.size + 1, 4, none⟩ = some (.int .u32 imm) := fun wk h => by rw [(bcell (show Below _ _ _ from h)).1 _ _ (by simp; try omega)]; simp [go_sem]
          have hlk : ∀ wk, Since ((w.alloc (.cells #[.int .i64 k] 3)).alloc (.cells #[.int .i64 op, .int .i64 width, .int .i64 flags, .slice a args.length c, .int .u32 imm] 65)) wk → wk.cell? ⟨w.heap.size, 0, none⟩ = some (.int .i64 k) := l0
          have hin : ∀ wk, Since ((w.alloc (.cells #[.int .i64 k] 3)).alloc (.cells #[.int .i64 op, .int .i64 width, .int .i64 flags, .slice a args.length c, .int .u32 imm] 65)) wk → Ints .i64 wk (.slice a args.length c) args := fun wk h => HV.out.stays (below_box (below_box h))
          go_wp2_with (first | (go_at_call 118; refine (arity_yes _ _ (by assumption)).mono ?_; rintro e w' ⟨rfl, rfl⟩) | (go_at_call 118; refine (arity_no _ _ (by assumption)).mono ?_; rintro e w' ⟨rfl, rfl⟩) | (go_at_call 119; refine (acc_p (isImm_any ⟨op, width, flags, args, imm⟩ _ _ ⟨_, _, _, rfl⟩ i1 i2) (by assumption)).mono ?_; rintro e w' ⟨rfl, hb⟩) | (go_at_call 65; refine (acc_e (contains_bad k args _ _ _ (hlk _ (by assumption)) (hin _ (by assumption))) (by assumption)).mono ?_; rintro e w' ⟨rfl, hb⟩))
          go_ret
          exact ⟨rfl, below_box (below_box ‹_›)⟩
        · skip
          cases c5 : ((args.length : Int) != arV op)
          rotate_left
          · have e : shaped k ⟨op, width, flags, args, imm⟩ = false := by simp only [shaped, c1, c2, c3, c4, c5]; simp
            rw [e]
            clear e
            go_enter Tryz.func85, Tryz.ntmps85
            go_wp2_with fail
            have h00 := Since.refl ((w.alloc (.cells #[.int .i64 k] 3)).alloc (.cells #[.int .i64 op, .int .i64 width, .int .i64 flags, .slice a args.length c, .int .u32 imm] 65))
            have l0 : ∀ wk, Since ((w.alloc (.cells #[.int .i64 k] 3)).alloc (.cells #[.int .i64 op, .int .i64 width, .int .i64 flags, .slice a args.length c, .int .u32 imm] 65)) wk → wk.cell? ⟨w.heap.size, 0, none⟩ = some (.int .i64 k) := fun wk h => by rw [(bcell (show Below _ _ _ from h)).1 _ _ (by simp; try omega)]; simp [go_sem]
            have l1 : ∀ wk, Since ((w.alloc (.cells #[.int .i64 k] 3)).alloc (.cells #[.int .i64 op, .int .i64 width, .int .i64 flags, .slice a args.length c, .int .u32 imm] 65)) wk → wk.cell? ⟨w.heap.size + 1, 0, none⟩ = some (.int .i64 op) := fun wk h => by rw [(bcell (show Below _ _ _ from h)).1 _ _ (by simp; try omega)]; simp [go_sem]
            have l2 : ∀ wk, Since ((w.alloc (.cells #[.int .i64 k] 3)).alloc (.cells #[.int .i64 op, .int .i64 width, .int .i64 flags, .slice a args.length c, .int .u32 imm] 65)) wk → wk.cell? ⟨w.heap.size + 1, 1, none⟩ = some (.int .i64 width) := fun wk h => by rw [(bcell (show Below _ _ _ from h)).1 _ _ (by simp; try omega)]; simp [go_sem]
            have l3 : ∀ wk, Since ((w.alloc (.cells #[.int .i64 k] 3)).alloc (.cells #[.int .i64 op, .int .i64 width, .int .i64 flags, .slice a args.length c, .int .u32 imm] 65)) wk → wk.cell? ⟨w.heap.size + 1, 2, none⟩ = some (.int .i64 flags) := fun wk h => by rw [(bcell (show Below _ _ _ from h)).1 _ _ (by simp; try omega)]; simp [go_sem]
            have l4 : ∀ wk, Since ((w.alloc (.cells #[.int .i64 k] 3)).alloc (.cells #[.int .i64 op, .int .i64 width, .int .i64 flags, .slice a args.length c, .int .u32 imm] 65)) wk → wk.cell? ⟨w.heap.size + 1, 3, none⟩ = some (.slice a args.length c) := fun wk h => by rw [(bcell (show Below _ _ _ from h)).1 _ _ (by simp; try omega)]; simp [go_sem]
            have l5 : ∀ wk, Since ((w.alloc (.cells #[.int .i64 k] 3)).alloc (.cells #[.int .i64 op, .int .i64 width, .int .i64 flags, .slice a args.length c, .int .u32 imm] 65)) wk → wk.cell? ⟨w.heap.size + 1, 4, none⟩ = some (.int .u32 imm) := fun wk h => by rw [(bcell (show Below _ _ _ from h)).1 _ _ (by simp; try omega)]; simp [go_sem]
            have hlk : ∀ wk, Since ((w.alloc (.cells #[.int .i64 k] 3)).alloc (.cells #[.int .i64 op, .int .i64 width, .int .i64 flags, .slice a args.length c, .int .u32 imm] 65)) wk → wk.cell? ⟨w.heap.size, 0, none⟩ = some (.int .i64 k) := l0
            have hin : ∀ wk, Since ((w.alloc (.cells #[.int .i64 k] 3)).alloc (.cells #[.int .i64 op, .int .i64 width, .int .i64 flags, .slice a args.length c, .int .u32 imm] 65)) wk → Ints .i64 wk (.slice a args.length c) args := fun wk h => HV.out.stays (below_box (below_box h))
            go_wp2_with (first | (go_at_call 118; refine (arity_yes _ _ (by assumption)).mono ?_; rintro e w' ⟨rfl, rfl⟩) | (go_at_call 118; refine (arity_no _ _ (by assumption)).mono ?_; rintro e w' ⟨rfl, rfl⟩) | (go_at_call 119; refine (acc_p (isImm_any ⟨op, width, flags, args, imm⟩ _ _ ⟨_, _, _, rfl⟩ i1 i2) (by assumption)).mono ?_; rintro e w' ⟨rfl, hb⟩) | (go_at_call 65; refine (acc_e (contains_bad k args _ _ _ (hlk _ (by assumption)) (hin _ (by assumption))) (by assumption)).mono ?_; rintro e w' ⟨rfl, hb⟩))
            go_ret
            exact ⟨rfl, below_box (below_box ‹_›)⟩
          · skip
            cases c6 : immOk ⟨op, width, flags, args, imm⟩
            · have e : shaped k ⟨op, width, flags, args, imm⟩ = false := by simp only [shaped, c1, c2, c3, c4, c5, c6]; simp
              rw [e]
              clear e
              go_enter Tryz.func85, Tryz.ntmps85
              go_wp2_with fail
              have h00 := Since.refl ((w.alloc (.cells #[.int .i64 k] 3)).alloc (.cells #[.int .i64 op, .int .i64 width, .int .i64 flags, .slice a args.length c, .int .u32 imm] 65))
              have l0 : ∀ wk, Since ((w.alloc (.cells #[.int .i64 k] 3)).alloc (.cells #[.int .i64 op, .int .i64 width, .int .i64 flags, .slice a args.length c, .int .u32 imm] 65)) wk → wk.cell? ⟨w.heap.size, 0, none⟩ = some (.int .i64 k) := fun wk h => by rw [(bcell (show Below _ _ _ from h)).1 _ _ (by simp; try omega)]; simp [go_sem]
              have l1 : ∀ wk, Since ((w.alloc (.cells #[.int .i64 k] 3)).alloc (.cells #[.int .i64 op, .int .i64 width, .int .i64 flags, .slice a args.length c, .int .u32 imm] 65)) wk → wk.cell? ⟨w.heap.size + 1, 0, none⟩ = some (.int .i64 op) := fun wk h => by rw [(bcell (show Below _ _ _ from h)).1 _ _ (by simp; try omega)]; simp [go_sem]
              have l2 : ∀ wk, Since ((w.alloc (.cells #[.int .i64 k] 3)).alloc (.cells #[.int .i64 op, .int .i64 width, .int .i64 flags, .slice a args.length c, .int .u32 imm] 65)) wk → wk.cell? ⟨w.heap.size + 1, 1, none⟩ = some (.int .i64 width) := fun wk h => by rw [(bcell (show Below _ _ _ from h)).1 _ _ (by simp; try omega)]; simp [go_sem]
              have l3 : ∀ wk, Since ((w.alloc (.cells #[.int .i64 k] 3)).alloc (.cells #[.int .i64 op, .int .i64 width, .int .i64 flags, .slice a args.length c, .int .u32 imm] 65)) wk → wk.cell? ⟨w.heap.size + 1, 2, none⟩ = some (.int .i64 flags) := fun wk h => by rw [(bcell (show Below _ _ _ from h)).1 _ _ (by simp; try omega)]; simp [go_sem]
              have l4 : ∀ wk, Since ((w.alloc (.cells #[.int .i64 k] 3)).alloc (.cells #[.int .i64 op, .int .i64 width, .int .i64 flags, .slice a args.length c, .int .u32 imm] 65)) wk → wk.cell? ⟨w.heap.size + 1, 3, none⟩ = some (.slice a args.length c) := fun wk h => by rw [(bcell (show Below _ _ _ from h)).1 _ _ (by simp; try omega)]; simp [go_sem]
              have l5 : ∀ wk, Since ((w.alloc (.cells #[.int .i64 k] 3)).alloc (.cells #[.int .i64 op, .int .i64 width, .int .i64 flags, .slice a args.length c, .int .u32 imm] 65)) wk → wk.cell? ⟨w.heap.size + 1, 4, none⟩ = some (.int .u32 imm) := fun wk h => by rw [(bcell (show Below _ _ _ from h)).1 _ _ (by simp; try omega)]; simp [go_sem]
              have hlk : ∀ wk, Since ((w.alloc (.cells #[.int .i64 k] 3)).alloc (.cells #[.int .i64 op, .int .i64 width, .int .i64 flags, .slice a args.length c, .int .u32 imm] 65)) wk → wk.cell? ⟨w.heap.size, 0, none⟩ = some (.int .i64 k) := l0
              have hin : ∀ wk, Since ((w.alloc (.cells #[.int .i64 k] 3)).alloc (.cells #[.int .i64 op, .int .i64 width, .int .i64 flags, .slice a args.length c, .int .u32 imm] 65)) wk → Ints .i64 wk (.slice a args.length c) args := fun wk h => HV.out.stays (below_box (below_box h))
              go_wp2_with (first | (go_at_call 118; refine (arity_yes _ _ (by assumption)).mono ?_; rintro e w' ⟨rfl, rfl⟩) | (go_at_call 118; refine (arity_no _ _ (by assumption)).mono ?_; rintro e w' ⟨rfl, rfl⟩) | (go_at_call 119; refine (acc_p (isImm_any ⟨op, width, flags, args, imm⟩ _ _ ⟨_, _, _, rfl⟩ i1 i2) (by assumption)).mono ?_; rintro e w' ⟨rfl, hb⟩) | (go_at_call 65; refine (acc_e (contains_bad k args _ _ _ (hlk _ (by assumption)) (hin _ (by assumption))) (by assumption)).mono ?_; rintro e w' ⟨rfl, hb⟩))
              go_ret
              exact ⟨rfl, below_box (below_box ‹_›)⟩
            · skip
              cases c7 : (op == 14)
              · have e : shaped k ⟨op, width, flags, args, imm⟩ = !(args.any (bad k)) := by simp only [shaped, c1, c2, c3, c4, c5, c6, c7]; simp
                rw [e]
                clear e
                go_enter Tryz.func85, Tryz.ntmps85
                go_wp2_with fail
                have h00 := Since.refl ((w.alloc (.cells #[.int .i64 k] 3)).alloc (.cells #[.int .i64 op, .int .i64 width, .int .i64 flags, .slice a args.length c, .int .u32 imm] 65))
                have l0 : ∀ wk, Since ((w.alloc (.cells #[.int .i64 k] 3)).alloc (.cells #[.int .i64 op, .int .i64 width, .int .i64 flags, .slice a args.length c, .int .u32 imm] 65)) wk → wk.cell? ⟨w.heap.size, 0, none⟩ = some (.int .i64 k) := fun wk h => by rw [(bcell (show Below _ _ _ from h)).1 _ _ (by simp; try omega)]; simp [go_sem]
                have l1 : ∀ wk, Since ((w.alloc (.cells #[.int .i64 k] 3)).alloc (.cells #[.int .i64 op, .int .i64 width, .int .i64 flags, .slice a args.length c, .int .u32 imm] 65)) wk → wk.cell? ⟨w.heap.size + 1, 0, none⟩ = some (.int .i64 op) := fun wk h => by rw [(bcell (show Below _ _ _ from h)).1 _ _ (by simp; try omega)]; simp [go_sem]
                have l2 : ∀ wk, Since ((w.alloc (.cells #[.int .i64 k] 3)).alloc (.cells #[.int .i64 op, .int .i64 width, .int .i64 flags, .slice a args.length c, .int .u32 imm] 65)) wk → wk.cell? ⟨w.heap.size + 1, 1, none⟩ = some (.int .i64 width) := fun wk h => by rw [(bcell (show Below _ _ _ from h)).1 _ _ (by simp; try omega)]; simp [go_sem]
                have l3 : ∀ wk, Since ((w.alloc (.cells #[.int .i64 k] 3)).alloc (.cells #[.int .i64 op, .int .i64 width, .int .i64 flags, .slice a args.length c, .int .u32 imm] 65)) wk → wk.cell? ⟨w.heap.size + 1, 2, none⟩ = some (.int .i64 flags) := fun wk h => by rw [(bcell (show Below _ _ _ from h)).1 _ _ (by simp; try omega)]; simp [go_sem]
                have l4 : ∀ wk, Since ((w.alloc (.cells #[.int .i64 k] 3)).alloc (.cells #[.int .i64 op, .int .i64 width, .int .i64 flags, .slice a args.length c, .int .u32 imm] 65)) wk → wk.cell? ⟨w.heap.size + 1, 3, none⟩ = some (.slice a args.length c) := fun wk h => by rw [(bcell (show Below _ _ _ from h)).1 _ _ (by simp; try omega)]; simp [go_sem]
                have l5 : ∀ wk, Since ((w.alloc (.cells #[.int .i64 k] 3)).alloc (.cells #[.int .i64 op, .int .i64 width, .int .i64 flags, .slice a args.length c, .int .u32 imm] 65)) wk → wk.cell? ⟨w.heap.size + 1, 4, none⟩ = some (.int .u32 imm) := fun wk h => by rw [(bcell (show Below _ _ _ from h)).1 _ _ (by simp; try omega)]; simp [go_sem]
                have hlk : ∀ wk, Since ((w.alloc (.cells #[.int .i64 k] 3)).alloc (.cells #[.int .i64 op, .int .i64 width, .int .i64 flags, .slice a args.length c, .int .u32 imm] 65)) wk → wk.cell? ⟨w.heap.size, 0, none⟩ = some (.int .i64 k) := l0
                have hin : ∀ wk, Since ((w.alloc (.cells #[.int .i64 k] 3)).alloc (.cells #[.int .i64 op, .int .i64 width, .int .i64 flags, .slice a args.length c, .int .u32 imm] 65)) wk → Ints .i64 wk (.slice a args.length c) args := fun wk h => HV.out.stays (below_box (below_box h))
                go_wp2_with (first | (go_at_call 118; refine (arity_yes _ _ (by assumption)).mono ?_; rintro e w' ⟨rfl, rfl⟩) | (go_at_call 118; refine (arity_no _ _ (by assumption)).mono ?_; rintro e w' ⟨rfl, rfl⟩) | (go_at_call 119; refine (acc_p (isImm_any ⟨op, width, flags, args, imm⟩ _ _ ⟨_, _, _, rfl⟩ i1 i2) (by assumption)).mono ?_; rintro e w' ⟨rfl, hb⟩) | (go_at_call 65; refine (acc_e (contains_bad k args _ _ _ (hlk _ (by assumption)) (hin _ (by assumption))) (by assumption)).mono ?_; rintro e w' ⟨rfl, hb⟩))
                go_ret
                exact ⟨rfl, below_box (below_box ‹_›)⟩
              · cases c8 : (width != 1)
                · have e : shaped k ⟨op, width, flags, args, imm⟩ = !(args.any (bad k)) := by simp only [shaped, c1, c2, c3, c4, c5, c6, c7, c8]; simp
                  rw [e]
                  clear e
                  go_enter Tryz.func85, Tryz.ntmps85
                  go_wp2_with fail
                  have h00 := Since.refl ((w.alloc (.cells #[.int .i64 k] 3)).alloc (.cells #[.int .i64 op, .int .i64 width, .int .i64 flags, .slice a args.length c, .int .u32 imm] 65))
                  have l0 : ∀ wk, Since ((w.alloc (.cells #[.int .i64 k] 3)).alloc (.cells #[.int .i64 op, .int .i64 width, .int .i64 flags, .slice a args.length c, .int .u32 imm] 65)) wk → wk.cell? ⟨w.heap.size, 0, none⟩ = some (.int .i64 k) := fun wk h => by rw [(bcell (show Below _ _ _ from h)).1 _ _ (by simp; try omega)]; simp [go_sem]
                  have l1 : ∀ wk, Since ((w.alloc (.cells #[.int .i64 k] 3)).alloc (.cells #[.int .i64 op, .int .i64 width, .int .i64 flags, .slice a args.length c, .int .u32 imm] 65)) wk → wk.cell? ⟨w.heap.size + 1, 0, none⟩ = some (.int .i64 op) := fun wk h => by rw [(bcell (show Below _ _ _ from h)).1 _ _ (by simp; try omega)]; simp [go_sem]
                  have l2 : ∀ wk, Since ((w.alloc (.cells #[.int .i64 k] 3)).alloc (.cells #[.int .i64 op, .int .i64 width, .int .i64 flags, .slice a args.length c, .int .u32 imm] 65)) wk → wk.cell? ⟨w.heap.size + 1, 1, none⟩ = some (.int .i64 width) := fun wk h => by rw [(bcell (show Below _ _ _ from h)).1 _ _ (by simp; try omega)]; simp [go_sem]
                  have l3 : ∀ wk, Since ((w.alloc (.cells #[.int .i64 k] 3)).alloc (.cells #[.int .i64 op, .int .i64 width, .int .i64 flags, .slice a args.length c, .int .u32 imm] 65)) wk → wk.cell? ⟨w.heap.size + 1, 2, none⟩ = some (.int .i64 flags) := fun wk h => by rw [(bcell (show Below _ _ _ from h)).1 _ _ (by simp; try omega)]; simp [go_sem]
                  have l4 : ∀ wk, Since ((w.alloc (.cells #[.int .i64 k] 3)).alloc (.cells #[.int .i64 op, .int .i64 width, .int .i64 flags, .slice a args.length c, .int .u32 imm] 65)) wk → wk.cell? ⟨w.heap.size + 1, 3, none⟩ = some (.slice a args.length c) := fun wk h => by rw [(bcell (show Below _ _ _ from h)).1 _ _ (by simp; try omega)]; simp [go_sem]
                  have l5 : ∀ wk, Since ((w.alloc (.cells #[.int .i64 k] 3)).alloc (.cells #[.int .i64 op, .int .i64 width, .int .i64 flags, .slice a args.length c, .int .u32 imm] 65)) wk → wk.cell? ⟨w.heap.size + 1, 4, none⟩ = some (.int .u32 imm) := fun wk h => by rw [(bcell (show Below _ _ _ from h)).1 _ _ (by simp; try omega)]; simp [go_sem]
                  have hlk : ∀ wk, Since ((w.alloc (.cells #[.int .i64 k] 3)).alloc (.cells #[.int .i64 op, .int .i64 width, .int .i64 flags, .slice a args.length c, .int .u32 imm] 65)) wk → wk.cell? ⟨w.heap.size, 0, none⟩ = some (.int .i64 k) := l0
                  have hin : ∀ wk, Since ((w.alloc (.cells #[.int .i64 k] 3)).alloc (.cells #[.int .i64 op, .int .i64 width, .int .i64 flags, .slice a args.length c, .int .u32 imm] 65)) wk → Ints .i64 wk (.slice a args.length c) args := fun wk h => HV.out.stays (below_box (below_box h))
                  go_wp2_with (first | (go_at_call 118; refine (arity_yes _ _ (by assumption)).mono ?_; rintro e w' ⟨rfl, rfl⟩) | (go_at_call 118; refine (arity_no _ _ (by assumption)).mono ?_; rintro e w' ⟨rfl, rfl⟩) | (go_at_call 119; refine (acc_p (isImm_any ⟨op, width, flags, args, imm⟩ _ _ ⟨_, _, _, rfl⟩ i1 i2) (by assumption)).mono ?_; rintro e w' ⟨rfl, hb⟩) | (go_at_call 65; refine (acc_e (contains_bad k args _ _ _ (hlk _ (by assumption)) (hin _ (by assumption))) (by assumption)).mono ?_; rintro e w' ⟨rfl, hb⟩))
                  go_ret
                  exact ⟨rfl, below_box (below_box ‹_›)⟩
                · have e : shaped k ⟨op, width, flags, args, imm⟩ = false := by simp only [shaped, c1, c2, c3, c4, c5, c6, c7, c8]; simp
                  rw [e]
                  clear e
                  go_enter Tryz.func85, Tryz.ntmps85
                  go_wp2_with fail
                  have h00 := Since.refl ((w.alloc (.cells #[.int .i64 k] 3)).alloc (.cells #[.int .i64 op, .int .i64 width, .int .i64 flags, .slice a args.length c, .int .u32 imm] 65))
                  have l0 : ∀ wk, Since ((w.alloc (.cells #[.int .i64 k] 3)).alloc (.cells #[.int .i64 op, .int .i64 width, .int .i64 flags, .slice a args.length c, .int .u32 imm] 65)) wk → wk.cell? ⟨w.heap.size, 0, none⟩ = some (.int .i64 k) := fun wk h => by rw [(bcell (show Below _ _ _ from h)).1 _ _ (by simp; try omega)]; simp [go_sem]
                  have l1 : ∀ wk, Since ((w.alloc (.cells #[.int .i64 k] 3)).alloc (.cells #[.int .i64 op, .int .i64 width, .int .i64 flags, .slice a args.length c, .int .u32 imm] 65)) wk → wk.cell? ⟨w.heap.size + 1, 0, none⟩ = some (.int .i64 op) := fun wk h => by rw [(bcell (show Below _ _ _ from h)).1 _ _ (by simp; try omega)]; simp [go_sem]
                  have l2 : ∀ wk, Since ((w.alloc (.cells #[.int .i64 k] 3)).alloc (.cells #[.int .i64 op, .int .i64 width, .int .i64 flags, .slice a args.length c, .int .u32 imm] 65)) wk → wk.cell? ⟨w.heap.size + 1, 1, none⟩ = some (.int .i64 width) := fun wk h => by rw [(bcell (show Below _ _ _ from h)).1 _ _ (by simp; try omega)]; simp [go_sem]
                  have l3 : ∀ wk, Since ((w.alloc (.cells #[.int .i64 k] 3)).alloc (.cells #[.int .i64 op, .int .i64 width, .int .i64 flags, .slice a args.length c, .int .u32 imm] 65)) wk → wk.cell? ⟨w.heap.size + 1, 2, none⟩ = some (.int .i64 flags) := fun wk h => by rw [(bcell (show Below _ _ _ from h)).1 _ _ (by simp; try omega)]; simp [go_sem]
                  have l4 : ∀ wk, Since ((w.alloc (.cells #[.int .i64 k] 3)).alloc (.cells #[.int .i64 op, .int .i64 width, .int .i64 flags, .slice a args.length c, .int .u32 imm] 65)) wk → wk.cell? ⟨w.heap.size + 1, 3, none⟩ = some (.slice a args.length c) := fun wk h => by rw [(bcell (show Below _ _ _ from h)).1 _ _ (by simp; try omega)]; simp [go_sem]
                  have l5 : ∀ wk, Since ((w.alloc (.cells #[.int .i64 k] 3)).alloc (.cells #[.int .i64 op, .int .i64 width, .int .i64 flags, .slice a args.length c, .int .u32 imm] 65)) wk → wk.cell? ⟨w.heap.size + 1, 4, none⟩ = some (.int .u32 imm) := fun wk h => by rw [(bcell (show Below _ _ _ from h)).1 _ _ (by simp; try omega)]; simp [go_sem]
                  have hlk : ∀ wk, Since ((w.alloc (.cells #[.int .i64 k] 3)).alloc (.cells #[.int .i64 op, .int .i64 width, .int .i64 flags, .slice a args.length c, .int .u32 imm] 65)) wk → wk.cell? ⟨w.heap.size, 0, none⟩ = some (.int .i64 k) := l0
                  have hin : ∀ wk, Since ((w.alloc (.cells #[.int .i64 k] 3)).alloc (.cells #[.int .i64 op, .int .i64 width, .int .i64 flags, .slice a args.length c, .int .u32 imm] 65)) wk → Ints .i64 wk (.slice a args.length c) args := fun wk h => HV.out.stays (below_box (below_box h))
                  go_wp2_with (first | (go_at_call 118; refine (arity_yes _ _ (by assumption)).mono ?_; rintro e w' ⟨rfl, rfl⟩) | (go_at_call 118; refine (arity_no _ _ (by assumption)).mono ?_; rintro e w' ⟨rfl, rfl⟩) | (go_at_call 119; refine (acc_p (isImm_any ⟨op, width, flags, args, imm⟩ _ _ ⟨_, _, _, rfl⟩ i1 i2) (by assumption)).mono ?_; rintro e w' ⟨rfl, hb⟩) | (go_at_call 65; refine (acc_e (contains_bad k args _ _ _ (hlk _ (by assumption)) (hin _ (by assumption))) (by assumption)).mono ?_; rintro e w' ⟨rfl, hb⟩))
                  go_ret
                  exact ⟨rfl, below_box (below_box ‹_›)⟩
end Go.Proofs.YtgcfadnnajahhaaGreatDoor
