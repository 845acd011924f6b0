/- -/
import Derived.Test.YtaegpeofecdhfaaGreatRows
import Derived.WalkKit
import Derived.WalkSpells
import Derived.WalkLawsBesides
import Derived.Laws.EntriesVeiled
import Derived.Lib.Hide
import Derived.OwnWalk
import Derived.Laws.OwnMore
import Derived.Deep.Quiet
import Derived.StillTail
import Derived.BigQuiet
import Derived.Below
import Derived.Deep.QuietTactic
import Derived.Deep.RegionHeld3
import Derived.BigGuardPart
import Derived.Deep.MidRow
import Derived.Laws.CopyOwn
import Derived.Laws.ResultCell
import Derived.Laws.StructEq
import Derived.ChangeKeysEq
import Derived.Laws.AppendOwn
import Derived.Maps.AppendAt
import Derived.Laws.Bits128
import Derived.Deep.AppendLies
import Derived.Deep.Onto
import Derived.Deep.DeepMust
import Derived.ProofKit
import Derived.OpenShut
import Derived.ChangeSame
import Derived.Lib.SmallJoins
import Derived.Deep.Slices
import Derived.SizedLaws
import Derived.DataReads
import Derived.ChangeSlices
set_option maxHeartbeats 1000000
namespace Go.Proofs.YtaegpeofecdhfaaGreat
open Go.RowKit
def mapAt (w : World) (r : Nat) : Option (Array MapEntry × Nat) := match w.heap[r]? with | some (.map es c) => some (es, c) | _ => none
def setMap (w : World) (r : Nat) (es : Array MapEntry) (c : Nat) : World := { w with heap := w.heap.setIfInBounds r (.map es c) }
theorem mapAt_alloc_at (w : World) (es : Array MapEntry) (c n : Nat) (hn : n = w.heap.size) : mapAt (w.alloc (.map es c)) n = some (es, c) := by
  subst hn
  unfold mapAt
  rw [show (w.alloc (.map es c)).heap[w.heap.size]? = some (.map es c) from Array.getElem?_push_size]
theorem mapAt_alloc_past (w : World) (o : Obj) (n : Nat) (hn : n < w.heap.size) : mapAt (w.alloc o) n = mapAt w n := by
  unfold mapAt; rw [Below.heap_alloc w o n hn]
theorem mapAt_drew (w : World) (n : Nat) : mapAt w.drew n = mapAt w n := rfl
theorem mapAt_drewN (w : World) (n k : Nat) : mapAt (w.drewN k) n = mapAt w n := rfl
theorem setMap_alloc_at (w : World) (es es' : Array MapEntry) (c c' n : Nat) (hn : n = w.heap.size) : setMap (w.alloc (.map es c)) n es' c' = w.alloc (.map es' c') := by
  subst hn
  have h : (w.heap.push (.map es c)).setIfInBounds w.heap.size (.map es' c') = w.heap.push (.map es' c') := by
    apply Array.ext_getElem?
    intro i
    rw [Array.getElem?_setIfInBounds, Array.getElem?_push, Array.getElem?_push]
    by_cases hi : i = w.heap.size
    · subst hi; simp
    · rw [if_neg (fun e => hi e.symm), if_neg hi, if_neg hi]
  exact congrArg (fun x => { w with heap := x }) h
theorem setMap_alloc_past (w : World) (o : Obj) (n : Nat) (es : Array MapEntry) (c : Nat) (hn : n < w.heap.size) : setMap (w.alloc o) n es c = (setMap w n es c).alloc o := by
  have h : (w.heap.push o).setIfInBounds n (.map es c) = (w.heap.setIfInBounds n (.map es c)).push o := by
    apply Array.ext_getElem?
    intro i
    rw [Array.getElem?_setIfInBounds, Array.getElem?_push, Array.getElem?_push, Array.getElem?_setIfInBounds, Array.size_push, Array.size_setIfInBounds]
    by_cases hi : i = w.heap.size
    · subst hi; rw [if_neg (by omega), if_pos rfl, if_pos rfl]
    · rw [if_neg hi, if_neg hi]
      by_cases h2 : n = i
      · rw [if_pos h2, if_pos h2, if_pos (by omega), if_pos hn]
      · rw [if_neg h2, if_neg h2]
  exact congrArg (fun x => { w with heap := x }) h
theorem size_setMap (w : World) (n : Nat) (es : Array MapEntry) (c : Nat) : (setMap w n es c).heap.size = w.heap.size := by simp [setMap]
attribute [go_sem] mapAt_alloc_at mapAt_alloc_past mapAt_drew mapAt_drewN setMap_alloc_at setMap_alloc_past size_setMap
theorem mapAt_some {w : World} {r : Nat} {es : Array MapEntry} {c : Nat} (h : mapAt w r = some (es, c)) : w.heap[r]? = some (.map es c) := by
  unfold mapAt at h
  split at h
  · rename_i h1; simp at h; obtain ⟨rfl, rfl⟩ := h; exact h1
  · cases h
theorem findNow_nil (k : TypeDesc) (v : Value) (i : Nat) : Instr.findNow k v [] i = some none := rfl
theorem findNow_int (kk : IntKind) (n m : Int) (v : Value) (b : Nat) (es : List MapEntry) (i : Nat) :
    Instr.findNow (.int kk) (.int kk n) (⟨.int kk m, v, b⟩ :: es) i = if n = m then some (some (i, v)) else Instr.findNow (.int kk) (.int kk n) es (i + 1) := by
  by_cases h : n = m
  · subst h; simp [Instr.findNow, Instr.sameNow]
  · have : (n == m) = false := by simpa using h
    simp [Instr.findNow, Instr.sameNow, h, this]
attribute [go_sem] findNow_nil findNow_int
def Only (b : Nat) (w w' : World) : Prop := w.heap.size ≤ w'.heap.size ∧ ∀ k, k < w.heap.size → k ≠ b → w'.heap[k]? = w.heap[k]?
theorem Only.refl (b : Nat) (w : World) : Only b w w := ⟨Nat.le_refl _, fun _ _ _ => rfl⟩
theorem Only.alloc {b : Nat} {w w' : World} (h : Only b w w') (o : Obj) : Only b w (w'.alloc o) :=
  ⟨Nat.le_trans h.1 (by simp), fun k h1 h2 => (Below.heap_alloc w' o k (Nat.lt_of_lt_of_le h1 h.1)).trans (h.2 k h1 h2)⟩
theorem Only.setCell {b : Nat} {w w' : World} (h : Only b w w') {a : Addr} (ha : a.block = b) (v : Value) : Only b w (w'.setCell a v) :=
  ⟨Nat.le_trans h.1 (by simp [World.setCell]), fun k h1 h2 => (Below.heap_setCell w' a v k (by rw [ha]; exact h2)).trans (h.2 k h1 h2)⟩
theorem Only.at {b : Nat} {w w' : World} (h : Only b w w') (o : Nat) (v : Value) : Only b w (w'.setCell ⟨b, o, none⟩ v) := h.setCell rfl v
theorem below_at {B b : Nat} {w w' : World} (h : Below B w w') (hb : B ≤ b) (o : Nat) (v : Value) : Below B w (w'.setCell ⟨b, o, none⟩ v) := Below.setCell h hb v
theorem below_drewN {B : Nat} {w w' : World} (h : Below B w w') (n : Nat) : Below B w (w'.drewN n) := h.trans ⟨rfl, rfl, rfl, Nat.le_refl _, fun _ _ => rfl⟩
theorem Only.drew {b : Nat} {w w' : World} (h : Only b w w') : Only b w w'.drew := h
theorem Only.drewN {b : Nat} {w w' : World} (h : Only b w w') (n : Nat) : Only b w (w'.drewN n) := h
theorem Only.cell {b : Nat} {w w' : World} (h : Only b w w') {k o : Nat} (hk : k < w.heap.size) (hb : k ≠ b) : w'.cell? ⟨k, o, none⟩ = w.cell? ⟨k, o, none⟩ := by
  unfold World.cell?; rw [h.2 k hk hb]
theorem bcell {W w1 : World} (hb : Below W.heap.size W w1) : (∀ b o, b < W.heap.size → w1.cell? ⟨b, o, none⟩ = W.cell? ⟨b, o, none⟩) ∧ (∀ b o, b < W.heap.size → w1.frozen? ⟨b, o, none⟩ = W.frozen? ⟨b, o, none⟩) :=
  ⟨fun b o h => hb.cell (p := ⟨b, o, none⟩) h, fun b o h => hb.frozen (p := ⟨b, o, none⟩) h⟩
theorem box_kept {w w1 : World} {cs : Array Value} {T : TypeId} (hb : Below (w.alloc (.cells cs T)).heap.size (w.alloc (.cells cs T)) w1) (i : Nat) : w1.cell? ⟨w.heap.size, i, none⟩ = cs[i]? := by
  rw [(bcell hb).1 _ _ (by simp)]; simp [go_sem]
theorem below_box {w w1 : World} {o : Obj} (hb : Below (w.alloc o).heap.size (w.alloc o) w1) : Below w.heap.size w w1 := ((Below.refl _ _).alloc (Nat.le_refl _) _).trans (hb.mono (by simp))
theorem below_next {B : Nat} {w w1 w2 : World} (h1 : Below B w w1) (hB : B ≤ w1.heap.size) (h2 : Below w1.heap.size w1 w2) : Below B w w2 := h1.trans (h2.mono hB)
theorem below_hop {w w1 w2 : World} (h1 : Below w.heap.size w w1) (h2 : Below w1.heap.size w1 w2) : Below w.heap.size w w2 := below_next h1 h1.size h2
end Go.Proofs.YtaegpeofecdhfaaGreat
namespace Go.Proofs.YtaegpeofecdhfaaGreat
open Go.RowKit
set_option linter.unusedVariables false
set_option linter.unusedSimpArgs false
def Slc (w : World) (v : Value) (n z : Nat) (C : Nat → Nat → Nat → Prop) : Prop :=
  ∃ (a : Option Addr) (c : Nat), v = .slice a n c ∧ n ≤ c ∧ (n ≤ 140737488351232 ∧ c ≤ 9223372036854775807) ∧ (a = none → c = 0) ∧ ∀ i, i < n → ∃ b o, a = some ⟨b, o, none⟩ ∧ b < w.heap.size ∧ C i b (o + i * z)
def Ints (k : IntKind) (w : World) (v : Value) (xs : List Int) : Prop := Slc w v xs.length 1 fun i b o => w.cell? ⟨b, o, none⟩ = some (.int k (xs.getD i 0))
structure Nd where
  op : Int
  width : Int
  flags : Int
  args : List Int
  imm : Int
  deriving Inhabited
def NdAt (w : World) (b o : Nat) (x : Nd) : Prop :=
  w.cell? ⟨b, o, none⟩ = some (.int .i64 x.op) ∧ w.cell? ⟨b, o + 1, none⟩ = some (.int .i64 x.width) ∧ w.cell? ⟨b, o + 2, none⟩ = some (.int .i64 x.flags) ∧
  (∃ v, w.cell? ⟨b, o + 3, none⟩ = some v ∧ Ints .i64 w v x.args) ∧ w.cell? ⟨b, o + 4, none⟩ = some (.int .u32 x.imm)
def Nds (w : World) (v : Value) (ts : List Nd) : Prop := Slc w v ts.length 5 fun i b o => NdAt w b o (ts.getD i default)
theorem below_cell {B : Nat} {w w' : World} (h : Below B w w') {b o : Nat} {v : Value} (hb : b < B) (hc : w.cell? ⟨b, o, none⟩ = some v) : w'.cell? ⟨b, o, none⟩ = some v := by
  rw [← hc]; exact h.cell (p := ⟨b, o, none⟩) hb
theorem cell_lt {w : World} {b o : Nat} {v : Value} (h : w.cell? ⟨b, o, none⟩ = some v) : b < w.heap.size := by
  unfold World.cell? at h
  by_cases hb : b < w.heap.size
  · exact hb
  · simp [Array.getElem?_eq_none (Nat.le_of_not_lt hb)] at h
theorem Slc.stays {w w' : World} {v : Value} {n z : Nat} {C C' : Nat → Nat → Nat → Prop} (h : Slc w v n z C) (hb : Below w.heap.size w w') (hC : ∀ i b o, b < w.heap.size → C i b o → C' i b o) : Slc w' v n z C' := by
  obtain ⟨a, c, e, h1, h2, h3, h4⟩ := h
  refine ⟨a, c, e, h1, h2, h3, fun i hi => ?_⟩
  obtain ⟨b, o, e1, e2, e3⟩ := h4 i hi
  exact ⟨b, o, e1, Nat.lt_of_lt_of_le e2 hb.size, hC i b _ e2 e3⟩
theorem Ints.stays {k : IntKind} {w w' : World} {v : Value} {xs : List Int} (h : Ints k w v xs) (hb : Below w.heap.size w w') : Ints k w' v xs :=
  Slc.stays h hb fun _ _ _ hlt hc => below_cell hb hlt hc
theorem NdAt.stays {w w' : World} {b o : Nat} {x : Nd} (h : NdAt w b o x) (hlt : b < w.heap.size) (hb : Below w.heap.size w w') : NdAt w' b o x := by
  obtain ⟨h1, h2, h3, ⟨v, h4, h5⟩, h6⟩ := h
  exact ⟨below_cell hb hlt h1, below_cell hb hlt h2, below_cell hb hlt h3, ⟨v, below_cell hb hlt h4, h5.stays hb⟩, below_cell hb hlt h6⟩
theorem Nds.stays {w w' : World} {v : Value} {ts : List Nd} (h : Nds w v ts) (hb : Below w.heap.size w w') : Nds w' v ts :=
  Slc.stays h hb fun _ _ _ hlt hc => hc.stays hlt hb
def RowI (w : World) (base : Nat) (e : TypeId) (k : IntKind) (v : Value) (xs : List Int) : Prop := w.ownsRow base e 1 v xs.length (xs.map (Value.int k))
theorem RowI.ints {w : World} {base : Nat} {e : TypeId} {k : IntKind} {v : Value} {xs : List Int} (h : RowI w base e k v xs) (hl : xs.length ≤ 140737488351232) : Ints k w v xs := by
  obtain ⟨_, ⟨rfl, h0⟩ | ⟨g, cap, cur, rfl, hb, hg, h1, h2, h3, h4⟩⟩ := h
  · exact ⟨none, 0, by rw [h0], by omega, by omega, fun _ => rfl, fun i hi => absurd hi (by omega)⟩
  · refine ⟨some ⟨g, 0, none⟩, cap, rfl, h1, ⟨hl, by unfold maxLen at h2; omega⟩, (fun hh => by cases hh), fun i hi => ⟨g, 0, rfl, ?_, ?_⟩⟩
    · rcases Nat.lt_or_ge g w.heap.size with h | h
      · exact h
      · rw [Array.getElem?_eq_none h] at hg; cases hg
    · rw [Nat.mul_one, Nat.zero_add]
      have e1 : w.cell? ⟨g, i, none⟩ = cur.toList[i]? := by simp [World.cell?, hg]
      have e2 : (cur.toList.take (xs.length * 1))[i]? = cur.toList[i]? := by rw [List.getElem?_take, if_pos (by omega)]
      show w.cell? ⟨g, i, none⟩ = _
      rw [e1, ← e2, h4, List.getElem?_map, List.getElem?_eq_getElem hi, List.getD_eq_getElem?_getD, List.getElem?_eq_getElem hi]
      rfl
theorem RowI.nil (w : World) (base : Nat) (e : TypeId) (k : IntKind) : RowI w base e k (.slice none 0 0) [] := World.ownsRow_nil w base e 1
theorem RowI.below {w w' : World} {base : Nat} {e : TypeId} {k : IntKind} {v : Value} {xs : List Int} (h : RowI w base e k v xs) (hb : Below w.heap.size w w') : RowI w' base e k v xs := by
  obtain ⟨h0, ⟨rfl, h1⟩ | ⟨g, cap, cur, rfl, hb', hg, h1, h2, h3, h4⟩⟩ := h
  · exact ⟨h0, .inl ⟨rfl, h1⟩⟩
  · refine ⟨h0, .inr ⟨g, cap, cur, rfl, hb', ?_, h1, h2, h3, h4⟩⟩
    have hlt : g < w.heap.size := by
      rcases Nat.lt_or_ge g w.heap.size with h | h
      · exact h
      · rw [Array.getElem?_eq_none h] at hg; cases hg
    rw [← hg]
    exact hb.block g hlt
theorem RowI.shape {w : World} {base : Nat} {e : TypeId} {k : IntKind} {v : Value} {xs : List Int} (h : RowI w base e k v xs) : ∃ a c, v = .slice a xs.length c := by
  obtain ⟨_, ⟨rfl, h1⟩ | ⟨g, cap, cur, rfl, _⟩⟩ := h
  · exact ⟨none, 0, by rw [h1]⟩
  · exact ⟨_, _, rfl⟩
theorem RowI.app {w : World} {base : Nat} {e : TypeId} {k : IntKind} {v : Value} {xs ys zs : List Int} {n : Nat} (h : w.ownsRow base e 1 v n (xs.map (Value.int k) ++ ys.map (Value.int k))) (hn : n = xs.length + ys.length) (hz : zs = xs ++ ys) : RowI w base e k v zs := by
  subst hz; subst hn
  unfold RowI
  rw [List.length_append, List.map_append]
  exact h
theorem RowI.app1 {w : World} {base : Nat} {e : TypeId} {k : IntKind} {v : Value} {l zs : List Int} {y : Int} {j : Nat} (h : w.ownsRow base e 1 v (j + 1) (l.map (Value.int k) ++ [.int k y])) (hl : l.length = j) (hz : zs = l ++ [y]) : RowI w base e k v zs :=
  RowI.app (ys := [y]) h (by rw [hl]; rfl) hz
theorem own_ge {w : World} {base : Nat} {e : TypeId} {size : Nat} {v : Value} {n : Nat} {xs : List Value} (h : w.ownsRow base e size v n xs) : ∀ k, v.ownBlock = some k → base ≤ k := fun k hk => (h.lt k hk).1
end Go.Proofs.YtaegpeofecdhfaaGreat
namespace Go.Proofs.YtaegpeofecdhfaaGreat
set_option linter.unusedVariables false
set_option linter.unusedSimpArgs false
structure In (C : World → Prop) where
  w : World
  h : C w
section
variable {P : Program} {ops : Array Oper} {md : Region.Mode} {C : World → Prop}
end
section
variable {P : Program} {C : World → Prop} {id : Nat} {Q : Exit → Act → World → Prop} {a : Act} {w : World} {l : List Oper}
end
end Go.Proofs.YtaegpeofecdhfaaGreat
namespace Go.Proofs.YtaegpeofecdhfaaGreat
open Go.RowKit
set_option linter.unusedVariables false
set_option linter.unusedSimpArgs false
theorem ret_i {k : IntKind} {a b : Int} (h : a = b) : Ending.returned (.int k a) = .returned (.int k b) := by rw [h]
theorem ret_b {a b : Bool} (h : a = b) : Ending.returned (.bool a) = .returned (.bool b) := by rw [h]
def Dr (w w' : World) : Prop := ∃ n, w' = w.drewN n
theorem Dr.refl (w : World) : Dr w w := ⟨0, rfl⟩
theorem Dr.drew {w w' : World} (h : Dr w w') (n : Nat) : Dr w (w'.drewN n) := by
  obtain ⟨m, rfl⟩ := h
  exact ⟨m + n, World.drewN_drewN _ _ _⟩
theorem Dr.below {w w' : World} (h : Dr w w') (B : Nat) : Below B w w' := by
  obtain ⟨n, rfl⟩ := h
  exact ⟨rfl, rfl, rfl, Nat.le_refl _, fun _ _ => rfl⟩
theorem Dr.trans {w w' w'' : World} (h : Dr w w') (h' : Dr w' w'') : Dr w w'' := by
  obtain ⟨m, rfl⟩ := h'
  exact h.drew m
theorem quiet_same {P : Program} {f : FuncId} {args : Array Value} {w : World} {n : Nat} {v : Value} (h : Calls P f args (w.drewN n) fun e w' => e = .returned v ∧ w.drewN n = w') :
    Calls P f args (w.drewN n) fun e w'' => e = .returned v ∧ ∃ m, w'' = w.drewN m := h.mono fun _ _ ⟨he, hm⟩ => ⟨he, n, hm.symm⟩
def Since (w0 w : World) : Prop := Below w0.heap.size w0 w
theorem Since.refl (w : World) : Since w w := Below.refl _ _
theorem Since.drewN {w0 w : World} (h : Since w0 w) (n : Nat) : Since w0 (w.drewN n) := below_drewN h n
theorem Since.drew {w0 w : World} (h : Since w0 w) : Since w0 w.drew := Below.drew h
theorem Since.next {w0 w w' : World} (h : Since w0 w) (hb : Below w.heap.size w w') : Since w0 w' := below_hop h hb
theorem Since.cell {w0 w : World} (h : Since w0 w) {b o : Nat} {v : Value} (hc : w0.cell? ⟨b, o, none⟩ = some v) : w.cell? ⟨b, o, none⟩ = some v := below_cell h (cell_lt hc) hc
theorem Since.free {w0 w : World} (h : Since w0 w) {b o : Nat} (hb : b < w0.heap.size) (hf : w0.frozen? ⟨b, o, none⟩ = false) : w.frozen? ⟨b, o, none⟩ = false := by rw [← hf]; exact Below.frozen (p := ⟨b, o, none⟩) h hb
theorem cell_alloc {w : World} {ob : Obj} {b o : Nat} {v : Value} (h : w.cell? ⟨b, o, none⟩ = some v) : (w.alloc ob).cell? ⟨b, o, none⟩ = some v := below_cell ((Below.refl _ _).alloc (Nat.le_refl _) _) (cell_lt h) h
theorem Ints.nil (k : IntKind) (w : World) : Ints k w (.slice none 0 0) [] := ⟨none, 0, rfl, Nat.le_refl _, ⟨by simp, by omega⟩, fun _ => rfl, fun i hi => absurd hi (by simp)⟩
theorem Ints.at {k : IntKind} {w : World} {v : Value} {xs : List Int} (h : Ints k w v xs) {j : Nat} (hj : j < xs.length) : ∃ b q c, v = .slice (some ⟨b, q, none⟩) xs.length c ∧ xs.length ≤ c ∧ b < w.heap.size ∧ w.cell? ⟨b, q + j, none⟩ = some (.int k (xs.getD j 0)) := by
  obtain ⟨a, c, rfl, h1, h2, _, h4⟩ := h
  obtain ⟨b, q, rfl, h5, h6⟩ := h4 j hj
  rw [Nat.mul_one] at h6
  exact ⟨b, q, c, rfl, h1, h5, h6⟩
theorem Ints.shape {k : IntKind} {w : World} {v : Value} {xs : List Int} (h : Ints k w v xs) : ∃ a c, v = .slice a xs.length c ∧ xs.length ≤ c ∧ xs.length ≤ 140737488351232 := by
  obtain ⟨a, c, rfl, h1, h2, _⟩ := h
  exact ⟨a, c, rfl, h1, h2.1⟩
theorem Ints.row {k : IntKind} {w : World} {a : Option Addr} {n c : Nat} {xs : List Int} (h : Ints k w (.slice a n c) xs) (h0 : 0 < xs.length) : ∃ b o, a = some ⟨b, o, none⟩ ∧ b < w.heap.size ∧ ∀ i, i < xs.length → w.cell? ⟨b, o + i, none⟩ = some (.int k (xs.getD i 0)) := by
  obtain ⟨a', c', e, _, _, _, hc⟩ := h
  cases e
  obtain ⟨b, o, rfl, hb, _⟩ := hc 0 h0
  refine ⟨b, o, rfl, hb, fun i hi => ?_⟩
  obtain ⟨b', o', e2, _, hd⟩ := hc i hi
  cases e2
  rw [Nat.mul_one] at hd
  exact hd
def OInts (k : IntKind) (w : World) (B : Nat) (xs : List Int) : Prop :=
  B < w.heap.size ∧ ∀ i, i < xs.length → w.cell? ⟨B, i, none⟩ = some (.int k (xs.getD i 0)) ∧ w.frozen? ⟨B, i, none⟩ = false
theorem OInts.cell {k : IntKind} {w : World} {B : Nat} {xs : List Int} (h : OInts k w B xs) {i : Nat} (hi : i < xs.length) : w.cell? ⟨B, i, none⟩ = some (.int k (xs.getD i 0)) := (h.2 i hi).1
theorem OInts.free {k : IntKind} {w : World} {B : Nat} {xs : List Int} (h : OInts k w B xs) {i : Nat} (hi : i < xs.length) : w.frozen? ⟨B, i, none⟩ = false := (h.2 i hi).2
theorem OInts.below {k : IntKind} {w w' : World} {B : Nat} {xs : List Int} (h : OInts k w B xs) (hb : Below w.heap.size w w') : OInts k w' B xs :=
  ⟨Nat.lt_of_lt_of_le h.1 hb.size, fun i hi => ⟨by rw [← h.cell hi]; exact hb.cell (p := ⟨B, i, none⟩) h.1, by rw [← h.free hi]; exact hb.frozen (p := ⟨B, i, none⟩) h.1⟩⟩
theorem OInts.alloc {k : IntKind} {w : World} {B : Nat} {xs : List Int} (h : OInts k w B xs) (ob : Obj) : OInts k (w.alloc ob) B xs := h.below ((Below.refl _ _).alloc (Nat.le_refl _) _)
theorem OInts.drewN {k : IntKind} {w : World} {B : Nat} {xs : List Int} (h : OInts k w B xs) (n : Nat) : OInts k (w.drewN n) B xs := h
theorem OInts.set {k : IntKind} {w : World} {B : Nat} {xs : List Int} (h : OInts k w B xs) {i : Nat} (hi : i < xs.length) (x : Int) : OInts k (w.setCell ⟨B, i, none⟩ (.int k x)) B (xs.set i x) := by
  refine ⟨by simpa using h.1, fun j hj => ?_⟩
  rw [List.length_set] at hj
  refine ⟨?_, by rw [World.frozen?_setCell]; exact h.free hj⟩
  by_cases e : i = j
  · subst e
    rw [World.cell?_setCell_same _ _ _ (h.cell hi), List.getD_eq_getElem?_getD, List.getElem?_set_self hi]; rfl
  · rw [World.cell?_setCell_other _ _ _ _ (by intro hh; cases hh; exact e rfl), h.cell hj, List.getD_eq_getElem?_getD, List.getD_eq_getElem?_getD, List.getElem?_set_ne e]
theorem OInts.ints {k : IntKind} {w : World} {B : Nat} {xs : List Int} (h : OInts k w B xs) (hl : xs.length ≤ 140737488351232) : Ints k w (.slice (some ⟨B, 0, none⟩) xs.length xs.length) xs :=
  ⟨some ⟨B, 0, none⟩, xs.length, rfl, Nat.le_refl _, ⟨hl, by omega⟩, (fun hh => by cases hh), fun i hi => ⟨B, 0, rfl, h.1, by rw [Nat.mul_one, Nat.zero_add]; exact h.cell hi⟩⟩
theorem Ints.newsK {k : IntKind} {w : World} {ad : Addr} {n c : Nat} {xs : List Int} (h : Ints k w (.slice (some ad) n c) xs) : ∀ (j : Nat) (u : Value), (xs.map (Value.int k))[j]? = some u → w.cell? (ad.add j) = some u := by
  intro j u hu
  rw [List.getElem?_map] at hu
  cases e : xs[j]? with
  | none => rw [e] at hu; cases hu
  | some y =>
    rw [e] at hu
    cases hu
    have hj : j < xs.length := by
      rcases Nat.lt_or_ge j xs.length with h | h
      · exact h
      · rw [List.getElem?_eq_none h] at e; cases e
    obtain ⟨a, c', e', _, _, _, h4⟩ := h
    cases e'
    obtain ⟨b', o', e', h5, h6⟩ := h4 j hj
    cases e'
    rw [Nat.mul_one, List.getD_eq_getElem?_getD, e] at h6
    by_cases hj0 : j = 0
    · subst hj0; exact h6
    · simpa [Addr.add, hj0] using h6
end Go.Proofs.YtaegpeofecdhfaaGreat
namespace Go.Proofs.YtaegpeofecdhfaaGreat
open Go.RowKit Go.Maps
set_option linter.unusedVariables false
set_option linter.unusedSimpArgs false
structure Mac where
  r : List Int
  f : Int
  a : Int
  m : List Int
  e : Int
def macC (c : Mac) (mv : Value) : List Value := c.r.map (Value.int .u32) ++ [.int .i64 c.f, .int .u32 c.a, mv, .int .i64 c.e]
def CellsAt (w : World) (b : Nat) (cs : List Value) : Prop := ∀ k v, cs[k]? = some v → w.cell? ⟨b, k, none⟩ = some v ∧ w.frozen? ⟨b, k, none⟩ = false
theorem CellsAt.set {w : World} {b : Nat} {cs : List Value} (h : CellsAt w b cs) {k : Nat} (hk : k < cs.length) (u : Value) : CellsAt (w.setCell ⟨b, k, none⟩ u) b (cs.set k u) := by
  intro j v hj
  have hc := h k _ (List.getElem?_eq_getElem hk)
  by_cases e : k = j
  · subst e
    rw [List.getElem?_set_self hk] at hj
    cases hj
    exact ⟨World.cell?_setCell_same _ _ _ hc.1, by rw [World.frozen?_setCell]; exact hc.2⟩
  · rw [List.getElem?_set_ne e] at hj
    have := h j v hj
    exact ⟨by rw [World.cell?_setCell_other _ _ _ _ (by intro hh; cases hh; exact e rfl)]; exact this.1, by rw [World.frozen?_setCell]; exact this.2⟩
theorem CellsAt.other {w : World} {b b' k : Nat} {cs : List Value} (h : CellsAt w b cs) (hb : b ≠ b') (u : Value) : CellsAt (w.setCell ⟨b', k, none⟩ u) b cs := by
  intro j v hj
  have := h j v hj
  exact ⟨by rw [World.cell?_setCell_other _ _ _ _ (by intro hh; cases hh; exact hb rfl)]; exact this.1, by rw [World.frozen?_setCell]; exact this.2⟩
theorem CellsAt.lt {w : World} {b : Nat} {cs : List Value} (h : CellsAt w b cs) (h0 : 0 < cs.length) : b < w.heap.size := cell_lt (h 0 _ (List.getElem?_eq_getElem h0)).1
theorem CellsAt.block {w w' : World} {b : Nat} {cs : List Value} (h : CellsAt w b cs) (hb : w'.heap[b]? = w.heap[b]?) : CellsAt w' b cs := fun k v hk => by
  have := h k v hk
  exact ⟨by rw [← this.1]; exact World.cell?_of_block (w := w) hb, by rw [← this.2]; exact World.frozen?_of_block (w := w) hb⟩
theorem newest (w : World) (cells : Array Value) (t : TypeId) : (w.alloc (.cells cells t)).heap[w.heap.size]? = some (.cells cells t (0, 0)) := by
  show (w.heap.push _)[w.heap.size]? = _
  exact Array.getElem?_push_size
theorem cellsAt_of {w : World} {b : Nat} {cs : List Value} {t : TypeId} (h : w.heap[b]? = some (.cells cs.toArray t (0, 0))) : CellsAt w b cs := by
  intro k v hk
  refine ⟨?_, ?_⟩
  · simp [World.cell?, h, hk]
  · simp [World.frozen?, h]
theorem CellsAt.setCells {w : World} {b : Nat} {cs ds : List Value} (h : CellsAt w b cs) (hl : ds.length = cs.length) : CellsAt (w.setCells b 0 ds) b ds := by
  intro k v hk
  have hkl : k < ds.length := (List.getElem?_eq_some_iff.1 hk).1
  have hs : ∀ j, j < ds.length → (w.cell? ⟨b, 0 + j, none⟩).isSome = true := fun j hj => by
    rw [Nat.zero_add, (h j _ (List.getElem?_eq_getElem (by omega))).1]; rfl
  have h1 := World.cell?_setCells_in b ds 0 w hs k hkl
  rw [Nat.zero_add] at h1
  refine ⟨by rw [h1, ← hk, List.getElem?_eq_getElem hkl], ?_⟩
  rw [World.frozen?_setCells]
  exact (h k _ (List.getElem?_eq_getElem (by omega))).2
theorem size_setCells' (b : Nat) : ∀ (vs : List Value) (o : Nat) (w : World), (w.setCells b o vs).heap.size = w.heap.size
  | [], _, _ => rfl
  | v :: r, o, w => by rw [World.setCells, size_setCells' b r]; simp [World.setCell]
theorem OInts.cellsO {k : IntKind} {w : World} {D b : Nat} {xs : List Int} (h : OInts k w D xs) (hD : D ≠ b) (vs : List Value) : OInts k (w.setCells b 0 vs) D xs :=
  ⟨by rw [size_setCells']; exact h.1, fun i hi => ⟨by rw [World.cell?_setCells_out b vs 0 w _ (fun e _ => absurd e hD)]; exact h.cell hi, by rw [World.frozen?_setCells]; exact h.free hi⟩⟩
theorem CellsAt.range {w : World} {b : Nat} {cs : List Value} (h : CellsAt w b cs) : w.rangeAt b 0 cs := fun j v hj => by rw [Nat.zero_add]; exact (h j v hj).1
theorem CellsAt.there {w : World} {b : Nat} {cs ds : List Value} (h : CellsAt w b cs) (hl : ds.length = cs.length) : w.there b 0 ds.toArray.size := fun j hj => by
  have := h j _ (List.getElem?_eq_getElem (by rw [← hl]; simpa using hj))
  rw [Nat.zero_add]
  exact ⟨by rw [this.1]; rfl, this.2⟩
theorem CellsAt.below {w w' : World} {b : Nat} {cs : List Value} (h : CellsAt w b cs) (h0 : 0 < cs.length) (hb : Below w.heap.size w w') : CellsAt w' b cs := h.block (hb.block b (h.lt h0))
theorem box_cells (w : World) (cs : List Value) (t : TypeId) : Below w.heap.size w (w.alloc (.cells cs.toArray t)) ∧ CellsAt (w.alloc (.cells cs.toArray t)) w.heap.size cs :=
  ⟨(Below.refl _ _).alloc (Nat.le_refl _) _, cellsAt_of (t := t) (newest w _ t)⟩
theorem row_cells (w : World) (old : Array Value) (cs : List Value) (t : TypeId) : Below w.heap.size w ((w.alloc (.cells old t)).setRow w.heap.size cs.toArray) ∧ CellsAt ((w.alloc (.cells old t)).setRow w.heap.size cs.toArray) w.heap.size cs ∧ ((w.alloc (.cells old t)).setRow w.heap.size cs.toArray).heap.size = w.heap.size + 1 :=
  ⟨below_setRow ((Below.refl w.heap.size w).alloc (Nat.le_refl _) _) (Nat.le_refl _) _, cellsAt_of (t := t) (setRow_heap (w.alloc (.cells old t)) w.heap.size old cs.toArray t (0, 0) (newest w old t)), by simp⟩
theorem below_setCells {B b : Nat} {a : World} (hb : B ≤ b) : ∀ (vs : List Value) (o : Nat) (w : World), Below B a w → Below B a (w.setCells b o vs)
  | [], _, _, h => h
  | v :: r, o, w, h => below_setCells hb r (o + 1) _ (h.setCell (p := ⟨b, o, none⟩) hb v)
theorem load_cells {P : Program} {w : World} {b : Nat} {cs : List Value} {ty : TypeId} {d : TypeDesc} (h : CellsAt w b cs) (hu : P.underlying ty = some d) (hd : d.isRow = true) (hi : (P.info? ty).map (·.size) = some cs.length) : (loadVar ty ⟨b, 0, none⟩).run P w = .ok (.agg cs.toArray) w :=
  run_loadVar_mid w b 0 ty cs d h.range hu hd hi
theorem res1 {P : Program} {fn : Func} {p : Tmp} {ty : TypeId} {tmps : Array Value} {w : World} {b : Nat} {cs : List Value} {d : TypeDesc} (hf : fn.results = #[.cell p ty]) (hp : tmps.getD p undef = .pointer (some ⟨b, 0, none⟩)) (h : CellsAt w b cs) (hu : P.underlying ty = some d) (hd : d.isRow = true) (hi : (P.info? ty).map (·.size) = some cs.length) :
    (results fn tmps).run P w = .ok (.agg cs.toArray) w := by
  have hp' : tmps[p]?.getD undef = .pointer (some ⟨b, 0, none⟩) := by simpa using hp
  simp [results, hf, hp', asAddr, load_cells h hu hd hi]
theorem res2 {P : Program} {fn : Func} {p u : Tmp} {ty : TypeId} {tmps : Array Value} {w : World} {b : Nat} {cs : List Value} {d : TypeDesc} {v : Value} (hf : fn.results = #[.cell p ty, .tmp u]) (hp : tmps.getD p undef = .pointer (some ⟨b, 0, none⟩)) (hv : tmps.getD u undef = v) (h : CellsAt w b cs) (hu : P.underlying ty = some d) (hd : d.isRow = true) (hi : (P.info? ty).map (·.size) = some cs.length) :
    (results fn tmps).run P w = .ok (.tuple #[.agg cs.toArray, v]) w := by
  rw [results_cell_tmp hf, hp, hv]
  simp [asAddr, load_cells h hu hd hi, Result.andThen]
def MemO (base : Nat) (w : World) (mv : Value) (m : List Int) : Prop :=
  (m = [] ∧ mv = .slice none 0 0) ∨ ∃ D cap, mv = .slice (some ⟨D, 0, none⟩) m.length cap ∧ m.length ≤ cap ∧ cap ≤ 9223372036854775807 ∧ base ≤ D ∧ OInts .u8 w D m
theorem MemO.below {base : Nat} {w w' : World} {mv : Value} {m : List Int} (h : MemO base w mv m) (hb : Below w.heap.size w w') : MemO base w' mv m :=
  h.imp id fun ⟨D, cap, e, h1, h2, h5, h6⟩ => ⟨D, cap, e, h1, h2, h5, h6.below hb⟩
theorem OInts.setO {k : IntKind} {w : World} {D b j : Nat} {xs : List Int} (h : OInts k w D xs) (hD : D ≠ b) (u : Value) : OInts k (w.setCell ⟨b, j, none⟩ u) D xs :=
  ⟨by simpa [World.setCell] using h.1, fun i hi => ⟨by rw [World.cell?_setCell_other _ _ _ _ (by intro hh; cases hh; exact hD rfl)]; exact h.cell hi, by rw [World.frozen?_setCell]; exact h.free hi⟩⟩
theorem MemO.set {base b j : Nat} {w : World} {mv : Value} {m : List Int} (h : MemO base w mv m) (hb : b < base) (u : Value) : MemO base (w.setCell ⟨b, j, none⟩ u) mv m :=
  h.imp id fun ⟨D, cap, e, h1, h2, h5, h6⟩ => ⟨D, cap, e, h1, h2, h5, h6.setO (by omega) u⟩
theorem MemO.setCells {base b : Nat} {w : World} {mv : Value} {m : List Int} (h : MemO base w mv m) (hb : b < base) (vs : List Value) : MemO base (w.setCells b 0 vs) mv m :=
  h.imp id fun ⟨D, cap, e, h1, h2, h5, h6⟩ => ⟨D, cap, e, h1, h2, h5, h6.cellsO (by omega) vs⟩
theorem MemO.own {base : Nat} {w : World} {mv : Value} {m : List Int} (h : MemO base w mv m) (k : Nat) (hk : mv.ownBlock = some k) : base ≤ k ∧ k < w.heap.size := by
  rcases h with ⟨_, e⟩ | ⟨D, cap, e, _, _, h5, h6⟩
  · rw [e] at hk; cases hk
  · rw [e] at hk
    have : D = k := by injection hk
    subst this
    exact ⟨h5, h6.1⟩
theorem MemO.ints {base : Nat} {w : World} {mv : Value} {m : List Int} (h : MemO base w mv m) (hl : m.length ≤ 100000) : Ints .u8 w mv m := by
  rcases h with ⟨e, e2⟩ | ⟨D, cap, e, h1, h2, h5, h6⟩
  · rw [e, e2]; exact ⟨none, 0, by simp, by simp, by decide, fun _ => rfl, fun i hi => absurd hi (by simp)⟩
  · rw [e]
    exact ⟨some ⟨D, 0, none⟩, cap, rfl, h1, ⟨by omega, by omega⟩, (fun hh => by cases hh), fun i hi => ⟨D, 0, rfl, h6.1, by simpa using h6.cell hi⟩⟩
theorem RowI.memO {w : World} {base : Nat} {v : Value} {xs : List Int} (h : RowI w base 5 .u8 v xs) : MemO base w v xs := by
  obtain ⟨_, ⟨rfl, h0⟩ | ⟨g, cap, cur, rfl, hb, hg, h1, h2, h3, h4⟩⟩ := h
  · exact Or.inl ⟨List.length_eq_zero_iff.1 h0, rfl⟩
  · refine Or.inr ⟨g, cap, rfl, h1, by unfold maxLen at h2; omega, hb, ?_, fun i hi => ?_⟩
    · rcases Nat.lt_or_ge g w.heap.size with h | h
      · exact h
      · rw [Array.getElem?_eq_none h] at hg; cases hg
    · have e1 : w.cell? ⟨g, i, none⟩ = cur.toList[i]? := by simp [World.cell?, hg]
      have e2 : (cur.toList.take (xs.length * 1))[i]? = cur.toList[i]? := by rw [List.getElem?_take, if_pos (by omega)]
      refine ⟨?_, by simp [World.frozen?, hg]⟩
      rw [e1, ← e2, h4, List.getElem?_map, List.getElem?_eq_getElem hi, List.getD_eq_getElem?_getD, List.getElem?_eq_getElem hi]
      rfl
theorem macC_len {c : Mac} (h : c.r.length = 32) (mv : Value) : (macC c mv).length = 36 := by simp [macC, h]
theorem macC_ones {c : Mac} {mv : Value} (hmv : ∃ a l k, mv = .slice a l k) : (macC c mv).toArray.all (·.oneCell') = true := by
  obtain ⟨a, l, k, rfl⟩ := hmv
  refine all_oneCell_toArray fun v hv => ?_
  unfold macC at hv
  rcases List.mem_append.1 hv with hv | hv
  · obtain ⟨y, _, rfl⟩ := List.mem_map.1 hv
    rfl
  · simp only [List.mem_cons, List.not_mem_nil, or_false] at hv
    rcases hv with rfl | rfl | rfl | rfl <;> rfl
theorem Ints.isSlice {k : IntKind} {w : World} {v : Value} {xs : List Int} (h : Ints k w v xs) : ∃ a l c, v = .slice a l c := by
  obtain ⟨a, c, rfl, _⟩ := h
  exact ⟨_, _, _, rfl⟩
theorem MemO.isSlice {base : Nat} {w : World} {mv : Value} {m : List Int} (h : MemO base w mv m) : ∃ a l c, mv = .slice a l c := by
  rcases h with ⟨_, e⟩ | ⟨D, cap, e, _⟩ <;> exact ⟨_, _, _, e⟩
theorem CellsAt.tail4 {w : World} {b : Nat} {c : Mac} {mv : Value} (h : CellsAt w b (macC c mv)) (hr : c.r.length = 32) (k : Nat) (v : Value) (hv : ([.int .i64 c.f, .int .u32 c.a, mv, .int .i64 c.e] : List Value)[k]? = some v) : w.cell? ⟨b, 32 + k, none⟩ = some v ∧ w.frozen? ⟨b, 32 + k, none⟩ = false := by
  refine h (32 + k) v ?_
  unfold macC
  rw [List.getElem?_append_right (by simp [hr])]
  simp only [List.length_map, hr, Nat.add_sub_cancel_left]
  exact hv
theorem CellsAt.tails {w : World} {b : Nat} {c : Mac} {mv : Value} (h : CellsAt w b (macC c mv)) (hr : c.r.length = 32) :
    (w.cell? ⟨b, 32, none⟩ = some (.int .i64 c.f) ∧ w.frozen? ⟨b, 32, none⟩ = false) ∧ (w.cell? ⟨b, 33, none⟩ = some (.int .u32 c.a) ∧ w.frozen? ⟨b, 33, none⟩ = false) ∧ (w.cell? ⟨b, 34, none⟩ = some mv ∧ w.frozen? ⟨b, 34, none⟩ = false) ∧ (w.cell? ⟨b, 35, none⟩ = some (.int .i64 c.e) ∧ w.frozen? ⟨b, 35, none⟩ = false) :=
  ⟨h.tail4 hr 0 _ rfl, h.tail4 hr 1 _ rfl, h.tail4 hr 2 _ rfl, h.tail4 hr 3 _ rfl⟩
def mac0 : Mac := ⟨List.replicate 32 0, 0, 0, [], 0⟩
theorem two_new (w : World) (cs ds : List Value) (t : TypeId) (h0 : 0 < cs.length) : CellsAt ((w.alloc (.cells cs.toArray t)).alloc (.cells ds.toArray t)) w.heap.size cs ∧ CellsAt ((w.alloc (.cells cs.toArray t)).alloc (.cells ds.toArray t)) (w.heap.size + 1) ds ∧ Below w.heap.size w ((w.alloc (.cells cs.toArray t)).alloc (.cells ds.toArray t)) ∧ ((w.alloc (.cells cs.toArray t)).alloc (.cells ds.toArray t)).heap.size = w.heap.size + 2 := by
  obtain ⟨h1, h2⟩ := box_cells w cs t
  obtain ⟨h3, h4⟩ := box_cells (w.alloc (.cells cs.toArray t)) ds t
  have hs : (w.alloc (.cells cs.toArray t)).heap.size = w.heap.size + 1 := by simp
  refine ⟨h2.below h0 h3, by rw [← hs]; exact h4, h1.alloc (by omega) _, by simp⟩
theorem CellsAt.regs {w : World} {b : Nat} {c : Mac} {mv : Value} (h : CellsAt w b (macC c mv)) : w.rangeAt b 0 (c.r.map (Value.int .u32)) := fun j v hj => by
  rw [Nat.zero_add]
  refine (h j v ?_).1
  unfold macC
  rw [List.getElem?_append_left ((List.getElem?_eq_some_iff.1 hj).1)]
  exact hj
theorem eqItems_same {P : Program} (w : World) (d : Nat) {e : TypeId} {k : IntKind} (hp : P.plainKey e = true) (hu : P.underlying e = some (.int k)) (hc : P.cellsOf e = 1) (l : List Int) : ∀ is : List Nat, (∀ i ∈ is, i < l.length) → (Op.eqItems (d + 1) e (P.cellsOf e) (l.map (Value.int k)).toArray (l.map (Value.int k)).toArray is).run P w = .ok true w
  | [], _ => by simp [Op.eqItems]
  | i :: is, h => by
    have hi := h i (List.mem_cons_self ..)
    have hx : (l.map (Value.int k)).toArray[i * P.cellsOf e]? = some (.int k l[i]) := by rw [hc]; simp [hi]
    simp only [Op.eqItems, Sem.run_bind, run_part_plain w hp hx, Result.andThen_ok, run_equalIn_int w d e k k _ _ hu]
    simpa using eqItems_same w d hp hu hc l is fun j hj => h j (List.mem_cons_of_mem _ hj)
end Go.Proofs.YtaegpeofecdhfaaGreat
namespace Go.Proofs.YtaegpeofecdhfaaGreat
set_option linter.unusedVariables false
set_option linter.unusedSimpArgs false
structure Ins where
  o : Int
  d : Int
  s : Int
  z : Int
  i : Int
  deriving DecidableEq, Inhabited
def leB (n : Int) : Nat → List Int
  | 0 => []
  | k + 1 => n % 256 :: leB (n / 256) k
theorem leB_length (n : Int) (k : Nat) : (leB n k).length = k := by
  induction k generalizing n with
  | zero => rfl
  | succ k ih => simp [leB, ih]
def mrB (r m : Int) : Int := (192 + 8 * r + m) % 256
def mmB (r m i : Int) : List Int := (128 + 8 * r + m) % 256 :: leB i 4
def pwZ (z : Int) : Int := 2 ^ z.toNat
def sgB (n z : Int) : Int := if 2 ^ (z.toNat - 1) ≤ n then n - pwZ z else n
def isR (n : Int) : Bool := decide (0 ≤ n) && decide (n ≤ 7)
def isL (n : Int) : Bool := decide (0 ≤ n) && decide (n ≤ 3)
def isM (n : Int) : Bool := isR n && (n != 4)
def isC (n : Int) : Bool := decide (0 ≤ n) && (decide (n ≤ 15) && (n != 10 && n != 11))
def isB (n : Int) : Bool := decide (-128 ≤ n) && decide (n ≤ 127)
def isW4 (n : Int) : Bool := decide (-2147483648 ≤ n) && decide (n ≤ 2147483647)
def inZ (n z : Int) : Bool := decide (0 ≤ n) && decide (n ≤ pwZ z - 1)
def digI (o : Int) : Int :=
  if o = 14 then 0 else if o = 15 then 1 else if o = 16 ∨ o = 21 then 4 else if o = 17 ∨ o = 22 then 5 else if o = 18 ∨ o = 26 then 6
  else if o = 19 ∨ o = 23 ∨ o = 27 then 7 else if o = 24 then 2 else if o = 25 then 3 else -1
def ariI (o : Int) : Int :=
  if o = 7 then 1 else if o = 8 then 9 else if o = 9 then 33 else if o = 10 then 41 else if o = 11 then 49 else if o = 12 then 57 else if o = 13 then 133 else 0
def szI (o : Int) : List Int :=
  if 0 ≤ o ∧ o ≤ 3 then [32, 16] else if 4 ≤ o ∧ o ≤ 6 then [32] else if 7 ≤ o ∧ o ≤ 19 then [32, 16] else if o = 20 then [32]
  else if 21 ≤ o ∧ o ≤ 25 then [32, 16] else if 26 ≤ o ∧ o ≤ 31 then [32] else if o = 32 ∨ o = 33 then [8, 32] else if 34 ≤ o ∧ o ≤ 36 then [32] else []
def fitJ (x : Ins) : Bool := (x.z == 8 && isB x.i) || (x.z == 32 && isW4 x.i)
def fitI (x : Ins) : Bool :=
  if x.o = 0 ∨ (7 ≤ x.o ∧ x.o ≤ 13) ∨ x.o = 20 then isR x.d && (isR x.s && x.i == 0)
  else if x.o = 1 ∨ (14 ≤ x.o ∧ x.o ≤ 19) then isR x.d && (x.s == 0 && inZ x.i x.z)
  else if x.o = 2 ∨ x.o = 4 ∨ x.o = 5 then isR x.d && (isM x.s && isW4 x.i)
  else if x.o = 3 then isM x.d && (isR x.s && isW4 x.i)
  else if x.o = 6 then isM x.d && (isL x.s && isW4 x.i)
  else if 21 ≤ x.o ∧ x.o ≤ 27 then isR x.d && (x.s == 0 && x.i == 0)
  else if x.o = 28 ∨ x.o = 34 ∨ x.o = 35 ∨ x.o = 36 then x.d == 0 && (x.s == 0 && x.i == 0)
  else if x.o = 29 then isL x.d && (isC x.s && x.i == 0)
  else if x.o = 30 then isR x.d && (isL x.s && x.i == 0)
  else if x.o = 31 then isR x.d && (isR x.s && isC x.i)
  else if x.o = 32 then x.d == 0 && (isC x.s && fitJ x)
  else if x.o = 33 then x.d == 0 && (x.s == 0 && fitJ x)
  else false
def okI (x : Ins) : Bool := (szI x.o).contains x.z && fitI x
def bodyI (x : Ins) : List Int :=
  if x.o = 0 then [137, mrB x.s x.d]
  else if x.o = 1 then (184 + x.d) % 256 :: leB x.i (x.z / 8).toNat
  else if x.o = 2 then 139 :: mmB x.d x.s x.i
  else if x.o = 3 then 137 :: mmB x.s x.d x.i
  else if x.o = 4 then 15 :: 182 :: mmB x.d x.s x.i
  else if x.o = 5 then 15 :: 183 :: mmB x.d x.s x.i
  else if x.o = 6 then 136 :: mmB x.s x.d x.i
  else if 7 ≤ x.o ∧ x.o ≤ 13 then [ariI x.o, mrB x.s x.d]
  else if 14 ≤ x.o ∧ x.o ≤ 19 then (if -128 ≤ sgB x.i x.z ∧ sgB x.i x.z ≤ 127 then [131, mrB (digI x.o) x.d, x.i % 256] else 129 :: mrB (digI x.o) x.d :: leB x.i (x.z / 8).toNat)
  else if x.o = 20 then [15, 175, mrB x.d x.s]
  else if 21 ≤ x.o ∧ x.o ≤ 23 then [211, mrB (digI x.o) x.d]
  else if 24 ≤ x.o ∧ x.o ≤ 27 then [247, mrB (digI x.o) x.d]
  else if x.o = 28 then [153]
  else if x.o = 29 then [15, (144 + x.s) % 256, mrB 0 x.d]
  else if x.o = 30 then [15, 182, mrB x.d x.s]
  else if x.o = 31 then [15, (64 + x.i) % 256, mrB x.d x.s]
  else if x.o = 32 then (if x.z = 8 then [(112 + x.s) % 256, x.i % 256] else 15 :: (128 + x.s) % 256 :: leB x.i 4)
  else if x.o = 33 then (if x.z = 8 then [235, x.i % 256] else 233 :: leB x.i 4)
  else if x.o = 34 then [244]
  else if x.o = 35 then [15, 11]
  else if x.o = 36 then [144]
  else []
def encI (x : Ins) : List Int := if x.z = 16 then 102 :: bodyI x else bodyI x
/-! ### reading -/
end Go.Proofs.YtaegpeofecdhfaaGreat
namespace Go.Proofs.YtaegpeofecdhfaaGreat
open Go.RowKit
set_option linter.unusedVariables false
set_option linter.unusedSimpArgs false
theorem isReg_any (n : Int) (w : World) : Calls Tryz.prog 206 #[.int .i64 n] w fun e w' => e = .returned (.bool (isR n)) ∧ w = w' := by
  unfold isR
  cases h1 : decide (0 ≤ n)
  all_goals
    go_enter Tryz.func206, Tryz.ntmps206
    go_wp2
    go_ret
    exact ⟨rfl, rfl⟩
theorem isLow_any (n : Int) (w : World) : Calls Tryz.prog 212 #[.int .i64 n] w fun e w' => e = .returned (.bool (isL n)) ∧ w = w' := by
  unfold isL
  cases h1 : decide (0 ≤ n)
  all_goals
    go_enter Tryz.func212, Tryz.ntmps212
    go_wp2
    go_ret
    exact ⟨rfl, rfl⟩
theorem isCond_any (n : Int) (w : World) : Calls Tryz.prog 220 #[.int .i64 n] w fun e w' => e = .returned (.bool (isC n)) ∧ w = w' := by
  unfold isC
  cases h1 : decide (0 ≤ n) <;> cases h2 : decide (n ≤ 15) <;> cases h3 : (n != 10)
  all_goals
    go_enter Tryz.func220, Tryz.ntmps220
    go_wp2
    go_ret
    exact ⟨rfl, rfl⟩
theorem within_ia (n a b : Int) (w : World) : Calls Tryz.prog 207 #[.int .i64 n, .int .i64 a, .int .i64 b] w fun e w' => e = .returned (.bool (decide (a ≤ n) && decide (n ≤ b))) ∧ w = w' := by
  cases h1 : decide (a ≤ n)
  all_goals
    go_enter Tryz.func207, Tryz.ntmps207
    go_wp2
    go_ret
    exact ⟨rfl, rfl⟩
theorem isWide_any (n : Int) (w : World) : Calls Tryz.prog 237 #[.int .i64 n] w fun e w' => e = .returned (.bool (isW4 n)) ∧ w = w' := by
  unfold isW4
  go_enter Tryz.func237, Tryz.ntmps237
  go_wp2_with (go_at_call 207; refine (within_ia _ _ _ _).mono ?_; rintro e w' ⟨rfl, rfl⟩)
  go_ret
  exact ⟨rfl, rfl⟩
theorem isMemory_any (n : Int) (w : World) : Calls Tryz.prog 236 #[.int .i64 n] w fun e w' => e = .returned (.bool (isM n)) ∧ w = w' := by
  unfold isM
  have C := Lib.hid (isReg_any n w)
  cases h1 : isR n <;> rw [h1] at C
  all_goals
    go_enter Tryz.func236, Tryz.ntmps236
    go_wp2_with (go_at_call 206; refine C.out.mono ?_; rintro e w' ⟨rfl, rfl⟩)
    go_ret
    exact ⟨rfl, rfl⟩
def I64 (n : Int) : Prop := -9223372036854775808 ≤ n ∧ n ≤ 9223372036854775807
theorem mr_any (r m : Int) (w : World) : Calls Tryz.prog 216 #[.int .i64 r, .int .i64 m] w fun e w' => e = .returned (.int .u8 (mrB r m)) ∧ w = w' := by
  go_enter Tryz.func216, Tryz.ntmps216
  go_wp2
  go_ret
  exact ⟨ret_i (by unfold mrB wrap64; omega), rfl⟩
theorem i64_and (n c : Int) (k : Nat) (hk : k ≤ 62) (hc : c = 2 ^ k - 1) : bits .and .i64 n c = n % 2 ^ k := by
  have hp : (2 : Nat) ^ k ≤ 2 ^ 62 := Nat.pow_le_pow_right (by decide) hk
  have hp0 : 0 < (2 : Nat) ^ k := Nat.two_pow_pos k
  have e : ((2 : Int) ^ k) = ((2 ^ k : Nat) : Int) := by simp
  rw [e] at hc ⊢
  have hm : (BitVec.ofInt 64 c).toNat = 2 ^ k - 1 := by
    rw [BitVec.toNat_ofInt, hc]
    generalize (2 : Nat) ^ k = p at *
    have : ((p : Int) - 1) % ((2 ^ 64 : Nat) : Int) = (p : Int) - 1 := Int.emod_eq_of_lt (by omega) (by omega)
    rw [this]; omega
  have key : (BitVec.ofInt 64 n &&& BitVec.ofInt 64 c).toNat = (n % ((2 ^ 64 : Nat) : Int)).toNat % 2 ^ k := by
    rw [BitVec.toNat_and, BitVec.toNat_ofInt, hm, Nat.and_two_pow_sub_one_eq_mod]
  show IntKind.i64.wrap ((BitVec.ofInt 64 n &&& BitVec.ofInt 64 c).toNat : Nat) = _
  rw [key, IntKind.wrap_i64]
  have hd : (2 : Nat) ^ k ∣ 2 ^ 64 := Nat.pow_dvd_pow 2 (by omega)
  have h1 := Nat.mod_lt (n % ((2 ^ 64 : Nat) : Int)).toNat hp0
  have h2 : ((((n % ((2 ^ 64 : Nat) : Int)).toNat % 2 ^ k : Nat)) : Int) = n % ((2 ^ k : Nat) : Int) := by
    rw [Int.natCast_emod, Int.toNat_of_nonneg (Int.emod_nonneg _ (by decide)), Int.emod_emod_of_dvd _ (Int.natCast_dvd_natCast.2 hd)]
  rw [← h2]
  generalize (n % ((2 ^ 64 : Nat) : Int)).toNat % 2 ^ k = t at *
  omega
theorem info_u8 : (Tryz.prog.info? 5).map (fun i => (i.zero, i.size, i.bytes)) = some (some (.int .u8 0), 1, 1) := by kernel_rfl
def shB (n : Int) : Nat → Int
  | 0 => n
  | j + 1 => shB n j / 256
theorem leB_snoc (n : Int) (j : Nat) : leB n (j + 1) = leB n j ++ [shB n j % 256] := by
  have e : ∀ (j : Nat) (n : Int), shB (n / 256) j = shB n (j + 1) := by
    intro j
    induction j with
    | zero => intro n; rfl
    | succ j ih => intro n; show shB (n / 256) j / 256 = shB n (j + 1) / 256; rw [ih]
  induction j generalizing n with
  | zero => rfl
  | succ j ih =>
    show n % 256 :: leB (n / 256) (j + 1) = n % 256 :: (leB (n / 256) j ++ [shB n (j + 1) % 256])
    rw [ih, e]
theorem shB_i64 {n : Int} (h : I64 n) (j : Nat) : I64 (shB n j) := by
  unfold I64 at *
  induction j with
  | zero => exact h
  | succ j ih => show _ ≤ shB n j / 256 ∧ shB n j / 256 ≤ _; omega
theorem number_any (n : Int) (k : Nat) (w : World) (hn : I64 n) (hk : k ≤ 8) : Calls Tryz.prog 148 #[.int .i64 n, .int .i64 (k : Int)] w fun e w' => ∃ v, e = .returned v ∧ RowI w' w.heap.size 5 .u8 v (leB n k) ∧ Below w.heap.size w w' := by
  obtain ⟨i0, hi0, hz0, hz1, hz2⟩ := info_parts info_u8
  have HN := Lib.hid hn
  clear hn
  go_enter Tryz.func148, Tryz.ntmps148
  go_wp2_with fail
  go_loopw [0, 5, 7] (fun m v i wr => ∃ j : Nat, j ≤ k ∧ m = .int .i64 (shB n j) ∧ i = .int .i64 j ∧ RowI wr w.heap.size 5 .u8 v (leB n j) ∧ Below w.heap.size w wr) (fun _ _ i _ => k - (intOf i).toNat)
  case atStart => exact ⟨0, Nat.zero_le _, rfl, rfl, RowI.nil _ _ _ _, Below.refl _ _⟩
  case round =>
    obtain ⟨j, hj, rfl, rfl, hrow, hb⟩ := hrel
    have hsz := hb.size
    have HB := Lib.hid hb
    clear hb
    by_cases hlt : j < k
    · have HS := Lib.hid (leB_snoc n j)
      have HT : Hid (shB n (j + 1) = shB n j / 256) := rfl
      have hq := shB_i64 HN.out j
      unfold I64 at hq
      have htl := leB_length n j
      generalize shB n j = m at *
      generalize leB n j = l at *
      obtain ⟨va, vc, rfl⟩ := hrow.shape
      unfold RowI at hrow
      rw [htl] at hrow ⊢
      have HO0 := Lib.hid hrow
      have HTL := Lib.hid htl
      obtain ⟨q1, q2⟩ := hq
      clear htl hrow
      go_wp2_with (at_builtin; refine wpList_append_own _ rfl _ _ 22 rfl w.heap.size 5 i0 (.int .u8 0) 1 1 Tryz.underlying22 hi0 hz0 hz1 hz2 rfl (by decide) _ _ _ rfl (HO0.out.alloc _) ⟨wr.heap.size, 0, none⟩ 1 1 [.int .u8 (m % 256)] rfl rfl ?c1 ?c2 ?c3 ?c4 ?c5 ?_)
      case c1 =>
        intro i u h
        rcases i with _ | i
        · cases h; simp [go_sem, Addr.add]
        · cases h
      case c2 => simp [Value.oneCell']
      case c3 => unfold maxLen; omega
      case c4 => omega
      case c5 => simp; omega
      intro v' w1 hown' hgrow _
      have HO := Lib.hid hown'
      have HG := Lib.hid hgrow
      clear hown' hgrow
      go_wp2_with fail
      go_roundw
      case rel => exact ⟨j + 1, by omega, by rw [HT.out], by go_num, RowI.app1 HO.out HTL.out HS.out, (HB.out.alloc (by omega) _).grown HG.out (by simp; omega) (own_ge HO0.out)⟩
      case measure => simp [intOf]; omega
    · obtain rfl : j = k := by omega
      go_wp2_with fail
      go_ret
      exact ⟨_, rfl, hrow, HB.out⟩
theorem RowI.lit (w : World) (cs : Array Value) (xs : List Int) (k : IntKind) (e : TypeId) (base n : Nat) (hb : base ≤ w.heap.size) (hc : cs.toList = xs.map (Value.int k)) (hn : n = xs.length) (hm : xs.length ≤ maxLen) :
    RowI (w.alloc (.cells cs e)) base e k (.slice (some ⟨w.heap.size, 0, none⟩) n n) xs := by
  subst hn
  have h := World.ownsRow_lit (base := base) (e := e) (size := 1) w cs xs.length hb hm (by rw [← Array.length_toList, hc, List.length_map, Nat.mul_one])
  unfold RowI
  rw [← hc]
  exact h
theorem mm_any (r m i : Int) (w : World) (hi : I64 i) : Calls Tryz.prog 239 #[.int .i64 r, .int .i64 m, .int .i64 i] w fun e w' => ∃ v, e = .returned v ∧ RowI w' w.heap.size 5 .u8 v (mmB r m i) ∧ Below w.heap.size w w' := by
  obtain ⟨i0, hi0, hz0, hz1, hz2⟩ := info_parts info_u8
  have HI := Lib.hid hi
  clear hi
  have HR0 : Hid (∀ x, RowI (w.alloc (.cells #[.int .u8 x] 5)) w.heap.size 5 .u8 (.slice (some ⟨w.heap.size, 0, none⟩) 1 1) [x]) := fun x => RowI.lit w #[.int .u8 x] [x] .u8 5 w.heap.size 1 (Nat.le_refl _) rfl rfl (by unfold maxLen; simp)
  have C4 : Hid (∀ w, Calls Tryz.prog 148 #[.int .i64 i, .int .i64 4] w fun e w' => ∃ v, e = .returned v ∧ RowI w' w.heap.size 5 .u8 v (leB i 4) ∧ Below w.heap.size w w') := fun w => number_any i 4 w HI.out (by decide)
  go_enter Tryz.func239, Tryz.ntmps239
  go_wp2_with fail
  refine (C4.out _).mono ?_
  rintro e w2 ⟨v2, rfl, hr2, hb2⟩
  have HR1 := Lib.hid (RowI.below (HR0.out _) hb2)
  clear HR0
  obtain ⟨a2, c2, rfl⟩ := hr2.shape
  have hi2 := hr2.ints (by rw [leB_length]; decide)
  have hl2 := leB_length i 4
  have HL2 := Lib.hid hl2
  have hsz : w.heap.size + 1 ≤ w2.heap.size := by have := hb2.size; simpa using this
  have HB2 := Lib.hid (below_box hb2)
  obtain ⟨b2, q2, ea, _⟩ := hi2.row (by rw [hl2]; decide)
  subst ea
  rw [hl2] at hi2
  have HN2 := Lib.hid hi2.newsK
  clear hr2 hi2 hl2 hb2
  rw [HL2.out]
  go_wp2_with (at_builtin; refine wpList_append_own_at _ rfl _ _ 22 rfl w.heap.size 5 i0 (.int .u8 0) 1 1 Tryz.underlying22 hi0 hz0 hz1 hz2 rfl (by decide) _ 1 _ rfl HR1.out ⟨b2, q2, none⟩ 4 c2 ((leB i 4).map (Value.int .u8)) rfl ?c0 HN2.out ?c2 ?c3 ?c4 ?c5 ?_)
  case c0 => rw [List.length_map, HL2.out]
  case c2 => intro u hu; obtain ⟨x, _, rfl⟩ := List.mem_map.1 hu; rfl
  case c3 => unfold maxLen; decide
  case c4 => decide
  case c5 => omega
  intro v' w3 hown' hgrow _ _
  have HO := Lib.hid hown'
  have HG := Lib.hid hgrow
  clear hown' hgrow
  go_wp2_with fail
  go_ret
  refine ⟨_, rfl, RowI.app (xs := [_]) (ys := leB i 4) HO.out (by rw [HL2.out]; rfl) (by unfold mmB; simp only [List.cons_append, List.nil_append, List.cons.injEq, and_true]; unfold wrap64; omega), (HB2.out).grown HG.out (by omega) (own_ge HR1.out)⟩
def InsV (x : Ins) : Value := .agg #[.int .i64 x.o, .int .i64 x.d, .int .i64 x.s, .int .i64 x.z, .int .i64 x.i]
theorem fit_pair (o d s z i : Int) (w : World) : Calls Tryz.prog 233 #[.agg #[.int .i64 o, .int .i64 d, .int .i64 s, .int .i64 z, .int .i64 i]] w fun e w' => e = .returned (.bool ((isR d) && ((isR s) && (i == 0)))) ∧ Below w.heap.size w w' := by
  have HB := Lib.hid ((Below.refl w.heap.size w).alloc (Nat.le_refl _) (.cells #[.int .i64 o, .int .i64 d, .int .i64 s, .int .i64 z, .int .i64 i] 157))
  have C0 := Lib.hid (fun w => isReg_any d w)
  have C1 := Lib.hid (fun w => isReg_any s w)
  cases h0 : (isR d)
  · rw [h0] at C0
    clear h0
    go_enter Tryz.func233, Tryz.ntmps233
    go_wp2_with (first | ((go_at_call 206; first | (with_reducible refine (C0.out _).mono ?_) | (with_reducible refine (C1.out _).mono ?_)); rintro e w' ⟨rfl, rfl⟩))
    go_ret
    exact ⟨rfl, HB.out⟩
  · rw [h0] at C0
    clear h0
    cases h1 : (isR s)
    · rw [h1] at C1
      clear h1
      go_enter Tryz.func233, Tryz.ntmps233
      go_wp2_with (first | ((go_at_call 206; first | (with_reducible refine (C0.out _).mono ?_) | (with_reducible refine (C1.out _).mono ?_)); rintro e w' ⟨rfl, rfl⟩))
      go_ret
      exact ⟨rfl, HB.out⟩
    · rw [h1] at C1
      clear h1
      go_enter Tryz.func233, Tryz.ntmps233
      go_wp2_with (first | ((go_at_call 206; first | (with_reducible refine (C0.out _).mono ?_) | (with_reducible refine (C1.out _).mono ?_)); rintro e w' ⟨rfl, rfl⟩))
      go_ret
      exact ⟨rfl, HB.out⟩
theorem fit_mul (o d s z i : Int) (w : World) : Calls Tryz.prog 214 #[.agg #[.int .i64 o, .int .i64 d, .int .i64 s, .int .i64 z, .int .i64 i]] w fun e w' => e = .returned (.bool ((isR d) && ((isR s) && (i == 0)))) ∧ Below w.heap.size w w' := by
  have HB := Lib.hid ((Below.refl w.heap.size w).alloc (Nat.le_refl _) (.cells #[.int .i64 o, .int .i64 d, .int .i64 s, .int .i64 z, .int .i64 i] 157))
  have C0 := Lib.hid (fun w => isReg_any d w)
  have C1 := Lib.hid (fun w => isReg_any s w)
  cases h0 : (isR d)
  · rw [h0] at C0
    clear h0
    go_enter Tryz.func214, Tryz.ntmps214
    go_wp2_with (first | ((go_at_call 206; first | (with_reducible refine (C0.out _).mono ?_) | (with_reducible refine (C1.out _).mono ?_)); rintro e w' ⟨rfl, rfl⟩))
    go_ret
    exact ⟨rfl, HB.out⟩
  · rw [h0] at C0
    clear h0
    cases h1 : (isR s)
    · rw [h1] at C1
      clear h1
      go_enter Tryz.func214, Tryz.ntmps214
      go_wp2_with (first | ((go_at_call 206; first | (with_reducible refine (C0.out _).mono ?_) | (with_reducible refine (C1.out _).mono ?_)); rintro e w' ⟨rfl, rfl⟩))
      go_ret
      exact ⟨rfl, HB.out⟩
    · rw [h1] at C1
      clear h1
      go_enter Tryz.func214, Tryz.ntmps214
      go_wp2_with (first | ((go_at_call 206; first | (with_reducible refine (C0.out _).mono ?_) | (with_reducible refine (C1.out _).mono ?_)); rintro e w' ⟨rfl, rfl⟩))
      go_ret
      exact ⟨rfl, HB.out⟩
theorem fit_load (o d s z i : Int) (w : World) : Calls Tryz.prog 235 #[.agg #[.int .i64 o, .int .i64 d, .int .i64 s, .int .i64 z, .int .i64 i]] w fun e w' => e = .returned (.bool ((isR d) && ((isM s) && (isW4 i)))) ∧ Below w.heap.size w w' := by
  have HB := Lib.hid ((Below.refl w.heap.size w).alloc (Nat.le_refl _) (.cells #[.int .i64 o, .int .i64 d, .int .i64 s, .int .i64 z, .int .i64 i] 157))
  have C0 := Lib.hid (fun w => isReg_any d w)
  have C1 := Lib.hid (fun w => isMemory_any s w)
  have C2 := Lib.hid (fun w => isWide_any i w)
  cases h0 : (isR d)
  · rw [h0] at C0
    clear h0
    go_enter Tryz.func235, Tryz.ntmps235
    go_wp2_with (first | ((go_at_call 206; (with_reducible refine (C0.out _).mono ?_)); rintro e w' ⟨rfl, rfl⟩) | ((go_at_call 236; (with_reducible refine (C1.out _).mono ?_)); rintro e w' ⟨rfl, rfl⟩) | ((go_at_call 237; (with_reducible refine (C2.out _).mono ?_)); rintro e w' ⟨rfl, rfl⟩))
    go_ret
    exact ⟨rfl, HB.out⟩
  · rw [h0] at C0
    clear h0
    cases h1 : (isM s)
    · rw [h1] at C1
      clear h1
      go_enter Tryz.func235, Tryz.ntmps235
      go_wp2_with (first | ((go_at_call 206; (with_reducible refine (C0.out _).mono ?_)); rintro e w' ⟨rfl, rfl⟩) | ((go_at_call 236; (with_reducible refine (C1.out _).mono ?_)); rintro e w' ⟨rfl, rfl⟩) | ((go_at_call 237; (with_reducible refine (C2.out _).mono ?_)); rintro e w' ⟨rfl, rfl⟩))
      go_ret
      exact ⟨rfl, HB.out⟩
    · rw [h1] at C1
      clear h1
      go_enter Tryz.func235, Tryz.ntmps235
      go_wp2_with (first | ((go_at_call 206; (with_reducible refine (C0.out _).mono ?_)); rintro e w' ⟨rfl, rfl⟩) | ((go_at_call 236; (with_reducible refine (C1.out _).mono ?_)); rintro e w' ⟨rfl, rfl⟩) | ((go_at_call 237; (with_reducible refine (C2.out _).mono ?_)); rintro e w' ⟨rfl, rfl⟩))
      go_ret
      exact ⟨rfl, HB.out⟩
theorem fit_single (o d s z i : Int) (w : World) : Calls Tryz.prog 245 #[.agg #[.int .i64 o, .int .i64 d, .int .i64 s, .int .i64 z, .int .i64 i]] w fun e w' => e = .returned (.bool ((isR d) && ((s == 0) && (i == 0)))) ∧ Below w.heap.size w w' := by
  have HB := Lib.hid ((Below.refl w.heap.size w).alloc (Nat.le_refl _) (.cells #[.int .i64 o, .int .i64 d, .int .i64 s, .int .i64 z, .int .i64 i] 157))
  have C0 := Lib.hid (fun w => isReg_any d w)
  cases h0 : (isR d)
  · rw [h0] at C0
    clear h0
    go_enter Tryz.func245, Tryz.ntmps245
    go_wp2_with (first | ((go_at_call 206; (with_reducible refine (C0.out _).mono ?_)); rintro e w' ⟨rfl, rfl⟩))
    go_ret
    exact ⟨rfl, HB.out⟩
  · rw [h0] at C0
    clear h0
    cases h1 : (s == 0)
    · skip
      go_enter Tryz.func245, Tryz.ntmps245
      go_wp2_with (first | ((go_at_call 206; (with_reducible refine (C0.out _).mono ?_)); rintro e w' ⟨rfl, rfl⟩))
      go_ret
      exact ⟨rfl, HB.out⟩
    · skip
      go_enter Tryz.func245, Tryz.ntmps245
      go_wp2_with (first | ((go_at_call 206; (with_reducible refine (C0.out _).mono ?_)); rintro e w' ⟨rfl, rfl⟩))
      go_ret
      exact ⟨rfl, HB.out⟩
theorem fit_bare (o d s z i : Int) (w : World) : Calls Tryz.prog 247 #[.agg #[.int .i64 o, .int .i64 d, .int .i64 s, .int .i64 z, .int .i64 i]] w fun e w' => e = .returned (.bool ((d == 0) && ((s == 0) && (i == 0)))) ∧ Below w.heap.size w w' := by
  have HB := Lib.hid ((Below.refl w.heap.size w).alloc (Nat.le_refl _) (.cells #[.int .i64 o, .int .i64 d, .int .i64 s, .int .i64 z, .int .i64 i] 157))
  cases h0 : (d == 0)
  · skip
    go_enter Tryz.func247, Tryz.ntmps247
    go_wp2_with fail
    go_ret
    exact ⟨rfl, HB.out⟩
  · skip
    cases h1 : (s == 0)
    · skip
      go_enter Tryz.func247, Tryz.ntmps247
      go_wp2_with fail
      go_ret
      exact ⟨rfl, HB.out⟩
    · skip
      go_enter Tryz.func247, Tryz.ntmps247
      go_wp2_with fail
      go_ret
      exact ⟨rfl, HB.out⟩
theorem fit_set (o d s z i : Int) (w : World) : Calls Tryz.prog 219 #[.agg #[.int .i64 o, .int .i64 d, .int .i64 s, .int .i64 z, .int .i64 i]] w fun e w' => e = .returned (.bool ((isL d) && ((isC s) && (i == 0)))) ∧ Below w.heap.size w w' := by
  have HB := Lib.hid ((Below.refl w.heap.size w).alloc (Nat.le_refl _) (.cells #[.int .i64 o, .int .i64 d, .int .i64 s, .int .i64 z, .int .i64 i] 157))
  have C0 := Lib.hid (fun w => isLow_any d w)
  have C1 := Lib.hid (fun w => isCond_any s w)
  cases h0 : (isL d)
  · rw [h0] at C0
    clear h0
    go_enter Tryz.func219, Tryz.ntmps219
    go_wp2_with (first | ((go_at_call 212; (with_reducible refine (C0.out _).mono ?_)); rintro e w' ⟨rfl, rfl⟩) | ((go_at_call 220; (with_reducible refine (C1.out _).mono ?_)); rintro e w' ⟨rfl, rfl⟩))
    go_ret
    exact ⟨rfl, HB.out⟩
  · rw [h0] at C0
    clear h0
    cases h1 : (isC s)
    · rw [h1] at C1
      clear h1
      go_enter Tryz.func219, Tryz.ntmps219
      go_wp2_with (first | ((go_at_call 212; (with_reducible refine (C0.out _).mono ?_)); rintro e w' ⟨rfl, rfl⟩) | ((go_at_call 220; (with_reducible refine (C1.out _).mono ?_)); rintro e w' ⟨rfl, rfl⟩))
      go_ret
      exact ⟨rfl, HB.out⟩
    · rw [h1] at C1
      clear h1
      go_enter Tryz.func219, Tryz.ntmps219
      go_wp2_with (first | ((go_at_call 212; (with_reducible refine (C0.out _).mono ?_)); rintro e w' ⟨rfl, rfl⟩) | ((go_at_call 220; (with_reducible refine (C1.out _).mono ?_)); rintro e w' ⟨rfl, rfl⟩))
      go_ret
      exact ⟨rfl, HB.out⟩
theorem fit_zero (o d s z i : Int) (w : World) : Calls Tryz.prog 222 #[.agg #[.int .i64 o, .int .i64 d, .int .i64 s, .int .i64 z, .int .i64 i]] w fun e w' => e = .returned (.bool ((isR d) && ((isL s) && (i == 0)))) ∧ Below w.heap.size w w' := by
  have HB := Lib.hid ((Below.refl w.heap.size w).alloc (Nat.le_refl _) (.cells #[.int .i64 o, .int .i64 d, .int .i64 s, .int .i64 z, .int .i64 i] 157))
  have C0 := Lib.hid (fun w => isReg_any d w)
  have C1 := Lib.hid (fun w => isLow_any s w)
  cases h0 : (isR d)
  · rw [h0] at C0
    clear h0
    go_enter Tryz.func222, Tryz.ntmps222
    go_wp2_with (first | ((go_at_call 206; (with_reducible refine (C0.out _).mono ?_)); rintro e w' ⟨rfl, rfl⟩) | ((go_at_call 212; (with_reducible refine (C1.out _).mono ?_)); rintro e w' ⟨rfl, rfl⟩))
    go_ret
    exact ⟨rfl, HB.out⟩
  · rw [h0] at C0
    clear h0
    cases h1 : (isL s)
    · rw [h1] at C1
      clear h1
      go_enter Tryz.func222, Tryz.ntmps222
      go_wp2_with (first | ((go_at_call 206; (with_reducible refine (C0.out _).mono ?_)); rintro e w' ⟨rfl, rfl⟩) | ((go_at_call 212; (with_reducible refine (C1.out _).mono ?_)); rintro e w' ⟨rfl, rfl⟩))
      go_ret
      exact ⟨rfl, HB.out⟩
    · rw [h1] at C1
      clear h1
      go_enter Tryz.func222, Tryz.ntmps222
      go_wp2_with (first | ((go_at_call 206; (with_reducible refine (C0.out _).mono ?_)); rintro e w' ⟨rfl, rfl⟩) | ((go_at_call 212; (with_reducible refine (C1.out _).mono ?_)); rintro e w' ⟨rfl, rfl⟩))
      go_ret
      exact ⟨rfl, HB.out⟩
theorem fit_cmov (o d s z i : Int) (w : World) : Calls Tryz.prog 224 #[.agg #[.int .i64 o, .int .i64 d, .int .i64 s, .int .i64 z, .int .i64 i]] w fun e w' => e = .returned (.bool ((isR d) && ((isR s) && (isC i)))) ∧ Below w.heap.size w w' := by
  have HB := Lib.hid ((Below.refl w.heap.size w).alloc (Nat.le_refl _) (.cells #[.int .i64 o, .int .i64 d, .int .i64 s, .int .i64 z, .int .i64 i] 157))
  have C0 := Lib.hid (fun w => isReg_any d w)
  have C1 := Lib.hid (fun w => isReg_any s w)
  have C2 := Lib.hid (fun w => isCond_any i w)
  cases h0 : (isR d)
  · rw [h0] at C0
    clear h0
    go_enter Tryz.func224, Tryz.ntmps224
    go_wp2_with (first | ((go_at_call 206; first | (with_reducible refine (C0.out _).mono ?_) | (with_reducible refine (C1.out _).mono ?_)); rintro e w' ⟨rfl, rfl⟩) | ((go_at_call 220; (with_reducible refine (C2.out _).mono ?_)); rintro e w' ⟨rfl, rfl⟩))
    go_ret
    exact ⟨rfl, HB.out⟩
  · rw [h0] at C0
    clear h0
    cases h1 : (isR s)
    · rw [h1] at C1
      clear h1
      go_enter Tryz.func224, Tryz.ntmps224
      go_wp2_with (first | ((go_at_call 206; first | (with_reducible refine (C0.out _).mono ?_) | (with_reducible refine (C1.out _).mono ?_)); rintro e w' ⟨rfl, rfl⟩) | ((go_at_call 220; (with_reducible refine (C2.out _).mono ?_)); rintro e w' ⟨rfl, rfl⟩))
      go_ret
      exact ⟨rfl, HB.out⟩
    · rw [h1] at C1
      clear h1
      go_enter Tryz.func224, Tryz.ntmps224
      go_wp2_with (first | ((go_at_call 206; first | (with_reducible refine (C0.out _).mono ?_) | (with_reducible refine (C1.out _).mono ?_)); rintro e w' ⟨rfl, rfl⟩) | ((go_at_call 220; (with_reducible refine (C2.out _).mono ?_)); rintro e w' ⟨rfl, rfl⟩))
      go_ret
      exact ⟨rfl, HB.out⟩
theorem fit_jcc (o d s z i : Int) (w : World) : Calls Tryz.prog 229 #[.agg #[.int .i64 o, .int .i64 d, .int .i64 s, .int .i64 z, .int .i64 i]] w fun e w' => e = .returned (.bool (isC s)) ∧ Below w.heap.size w w' := by
  have HB := Lib.hid ((Below.refl w.heap.size w).alloc (Nat.le_refl _) (.cells #[.int .i64 o, .int .i64 d, .int .i64 s, .int .i64 z, .int .i64 i] 157))
  have C0 := Lib.hid (fun w => isCond_any s w)
  go_enter Tryz.func229, Tryz.ntmps229
  go_wp2_with (first | ((go_at_call 220; (with_reducible refine (C0.out _).mono ?_)); rintro e w' ⟨rfl, rfl⟩))
  go_ret
  exact ⟨rfl, HB.out⟩
theorem fit_jmp (o d s z i : Int) (w : World) : Calls Tryz.prog 232 #[.agg #[.int .i64 o, .int .i64 d, .int .i64 s, .int .i64 z, .int .i64 i]] w fun e w' => e = .returned (.bool (s == 0)) ∧ Below w.heap.size w w' := by
  have HB := Lib.hid ((Below.refl w.heap.size w).alloc (Nat.le_refl _) (.cells #[.int .i64 o, .int .i64 d, .int .i64 s, .int .i64 z, .int .i64 i] 157))
  go_enter Tryz.func232, Tryz.ntmps232
  go_wp2_with fail
  go_ret
  exact ⟨rfl, HB.out⟩
theorem fit_storeR (o d s z i : Int) (b : Nat) (w : World) (hc : w.cell? ⟨b, 0, none⟩ = some (.func (.func 206) #[] #[])) : Calls Tryz.prog 240 #[.agg #[.int .i64 o, .int .i64 d, .int .i64 s, .int .i64 z, .int .i64 i], .pointer (some ⟨b, 0, none⟩)] w fun e w' => e = .returned (.bool ((isM d) && ((isR s) && (isW4 i)))) ∧ Below w.heap.size w w' := by
  have HB := Lib.hid ((Below.refl w.heap.size w).alloc (Nat.le_refl _) (.cells #[.int .i64 o, .int .i64 d, .int .i64 s, .int .i64 z, .int .i64 i] 157))
  have C0 := Lib.hid (fun w => isMemory_any d w)
  have C1 := Lib.hid (fun w => isReg_any s w)
  have C2 := Lib.hid (fun w => isWide_any i w)
  have hl := cell_lt hc
  have hn : ¬ b = w.heap.size := by omega
  cases h0 : (isM d)
  · rw [h0] at C0
    clear h0
    go_enter Tryz.func240, Tryz.ntmps240
    go_wp2_with (first | ((go_at_call 236; (with_reducible refine (C0.out _).mono ?_)); rintro e w' ⟨rfl, rfl⟩) | ((go_at_call 206; (with_reducible refine (C1.out _).mono ?_)); rintro e w' ⟨rfl, rfl⟩) | ((go_at_call 237; (with_reducible refine (C2.out _).mono ?_)); rintro e w' ⟨rfl, rfl⟩))
    go_ret
    exact ⟨rfl, HB.out⟩
  · rw [h0] at C0
    clear h0
    cases h1 : (isR s)
    · rw [h1] at C1
      clear h1
      go_enter Tryz.func240, Tryz.ntmps240
      go_wp2_with (first | ((go_at_call 236; (with_reducible refine (C0.out _).mono ?_)); rintro e w' ⟨rfl, rfl⟩) | ((go_at_call 206; (with_reducible refine (C1.out _).mono ?_)); rintro e w' ⟨rfl, rfl⟩) | ((go_at_call 237; (with_reducible refine (C2.out _).mono ?_)); rintro e w' ⟨rfl, rfl⟩))
      go_ret
      exact ⟨rfl, HB.out⟩
    · rw [h1] at C1
      clear h1
      go_enter Tryz.func240, Tryz.ntmps240
      go_wp2_with (first | ((go_at_call 236; (with_reducible refine (C0.out _).mono ?_)); rintro e w' ⟨rfl, rfl⟩) | ((go_at_call 206; (with_reducible refine (C1.out _).mono ?_)); rintro e w' ⟨rfl, rfl⟩) | ((go_at_call 237; (with_reducible refine (C2.out _).mono ?_)); rintro e w' ⟨rfl, rfl⟩))
      go_ret
      exact ⟨rfl, HB.out⟩
theorem fit_storeL (o d s z i : Int) (b : Nat) (w : World) (hc : w.cell? ⟨b, 0, none⟩ = some (.func (.func 212) #[] #[])) : Calls Tryz.prog 240 #[.agg #[.int .i64 o, .int .i64 d, .int .i64 s, .int .i64 z, .int .i64 i], .pointer (some ⟨b, 0, none⟩)] w fun e w' => e = .returned (.bool ((isM d) && ((isL s) && (isW4 i)))) ∧ Below w.heap.size w w' := by
  have HB := Lib.hid ((Below.refl w.heap.size w).alloc (Nat.le_refl _) (.cells #[.int .i64 o, .int .i64 d, .int .i64 s, .int .i64 z, .int .i64 i] 157))
  have C0 := Lib.hid (fun w => isMemory_any d w)
  have C1 := Lib.hid (fun w => isLow_any s w)
  have C2 := Lib.hid (fun w => isWide_any i w)
  have hl := cell_lt hc
  have hn : ¬ b = w.heap.size := by omega
  cases h0 : (isM d)
  · rw [h0] at C0
    clear h0
    go_enter Tryz.func240, Tryz.ntmps240
    go_wp2_with (first | ((go_at_call 236; (with_reducible refine (C0.out _).mono ?_)); rintro e w' ⟨rfl, rfl⟩) | ((go_at_call 212; (with_reducible refine (C1.out _).mono ?_)); rintro e w' ⟨rfl, rfl⟩) | ((go_at_call 237; (with_reducible refine (C2.out _).mono ?_)); rintro e w' ⟨rfl, rfl⟩))
    go_ret
    exact ⟨rfl, HB.out⟩
  · rw [h0] at C0
    clear h0
    cases h1 : (isL s)
    · rw [h1] at C1
      clear h1
      go_enter Tryz.func240, Tryz.ntmps240
      go_wp2_with (first | ((go_at_call 236; (with_reducible refine (C0.out _).mono ?_)); rintro e w' ⟨rfl, rfl⟩) | ((go_at_call 212; (with_reducible refine (C1.out _).mono ?_)); rintro e w' ⟨rfl, rfl⟩) | ((go_at_call 237; (with_reducible refine (C2.out _).mono ?_)); rintro e w' ⟨rfl, rfl⟩))
      go_ret
      exact ⟨rfl, HB.out⟩
    · rw [h1] at C1
      clear h1
      go_enter Tryz.func240, Tryz.ntmps240
      go_wp2_with (first | ((go_at_call 236; (with_reducible refine (C0.out _).mono ?_)); rintro e w' ⟨rfl, rfl⟩) | ((go_at_call 212; (with_reducible refine (C1.out _).mono ?_)); rintro e w' ⟨rfl, rfl⟩) | ((go_at_call 237; (with_reducible refine (C2.out _).mono ?_)); rintro e w' ⟨rfl, rfl⟩))
      go_ret
      exact ⟨rfl, HB.out⟩
theorem fit_num_32 (o d s i : Int) (w : World) : Calls Tryz.prog 242 #[.agg #[.int .i64 o, .int .i64 d, .int .i64 s, .int .i64 32, .int .i64 i]] w fun e w' => e = .returned (.bool (isR d && ((s == 0) && inZ i 32))) ∧ Below w.heap.size w w' := by
  have HB := Lib.hid ((Below.refl w.heap.size w).alloc (Nat.le_refl _) (.cells #[.int .i64 o, .int .i64 d, .int .i64 s, .int .i64 32, .int .i64 i] 157))
  have C0 := Lib.hid (fun w => isReg_any d w)
  have C1 : Hid (∀ w, Calls Tryz.prog 207 #[.int .i64 i, .int .i64 0, .int .i64 4294967295] w fun e w' => e = .returned (.bool (inZ i 32)) ∧ w = w') := fun w => within_ia i 0 4294967295 w
  generalize inZ i 32 = q at *
  cases h0 : isR d
  · rw [h0] at C0
    clear h0
    go_enter Tryz.func242, Tryz.ntmps242
    go_wp2_with fail
    go_quiet ((first | (go_at_call 206; exact quiet_same (C0.out _)) | (go_at_call 207; exact quiet_same (C1.out _))))
    go_wp2_with fail
    go_ret
    exact ⟨rfl, below_drewN HB.out _⟩
  · rw [h0] at C0
    clear h0
    cases h1 : (s == 0)
    · go_enter Tryz.func242, Tryz.ntmps242
      go_wp2_with fail
      go_quiet ((first | (go_at_call 206; exact quiet_same (C0.out _)) | (go_at_call 207; exact quiet_same (C1.out _))))
      go_wp2_with fail
      go_ret
      exact ⟨rfl, below_drewN HB.out _⟩
    · go_enter Tryz.func242, Tryz.ntmps242
      go_wp2_with fail
      go_quiet ((first | (go_at_call 206; exact quiet_same (C0.out _)) | (go_at_call 207; exact quiet_same (C1.out _))))
      go_wp2_with fail
      go_ret
      exact ⟨rfl, below_drewN HB.out _⟩
theorem fit_num_16 (o d s i : Int) (w : World) : Calls Tryz.prog 242 #[.agg #[.int .i64 o, .int .i64 d, .int .i64 s, .int .i64 16, .int .i64 i]] w fun e w' => e = .returned (.bool (isR d && ((s == 0) && inZ i 16))) ∧ Below w.heap.size w w' := by
  have HB := Lib.hid ((Below.refl w.heap.size w).alloc (Nat.le_refl _) (.cells #[.int .i64 o, .int .i64 d, .int .i64 s, .int .i64 16, .int .i64 i] 157))
  have C0 := Lib.hid (fun w => isReg_any d w)
  have C1 : Hid (∀ w, Calls Tryz.prog 207 #[.int .i64 i, .int .i64 0, .int .i64 65535] w fun e w' => e = .returned (.bool (inZ i 16)) ∧ w = w') := fun w => within_ia i 0 65535 w
  generalize inZ i 16 = q at *
  cases h0 : isR d
  · rw [h0] at C0
    clear h0
    go_enter Tryz.func242, Tryz.ntmps242
    go_wp2_with fail
    go_quiet ((first | (go_at_call 206; exact quiet_same (C0.out _)) | (go_at_call 207; exact quiet_same (C1.out _))))
    go_wp2_with fail
    go_ret
    exact ⟨rfl, below_drewN HB.out _⟩
  · rw [h0] at C0
    clear h0
    cases h1 : (s == 0)
    · go_enter Tryz.func242, Tryz.ntmps242
      go_wp2_with fail
      go_quiet ((first | (go_at_call 206; exact quiet_same (C0.out _)) | (go_at_call 207; exact quiet_same (C1.out _))))
      go_wp2_with fail
      go_ret
      exact ⟨rfl, below_drewN HB.out _⟩
    · go_enter Tryz.func242, Tryz.ntmps242
      go_wp2_with fail
      go_quiet ((first | (go_at_call 206; exact quiet_same (C0.out _)) | (go_at_call 207; exact quiet_same (C1.out _))))
      go_wp2_with fail
      go_ret
      exact ⟨rfl, below_drewN HB.out _⟩
theorem fit_movi_32 (o d s i : Int) (w : World) : Calls Tryz.prog 205 #[.agg #[.int .i64 o, .int .i64 d, .int .i64 s, .int .i64 32, .int .i64 i]] w fun e w' => e = .returned (.bool (isR d && ((s == 0) && inZ i 32))) ∧ Below w.heap.size w w' := by
  have HB := Lib.hid ((Below.refl w.heap.size w).alloc (Nat.le_refl _) (.cells #[.int .i64 o, .int .i64 d, .int .i64 s, .int .i64 32, .int .i64 i] 157))
  have C0 := Lib.hid (fun w => isReg_any d w)
  have C1 : Hid (∀ w, Calls Tryz.prog 207 #[.int .i64 i, .int .i64 0, .int .i64 4294967295] w fun e w' => e = .returned (.bool (inZ i 32)) ∧ w = w') := fun w => within_ia i 0 4294967295 w
  generalize inZ i 32 = q at *
  cases h0 : isR d
  · rw [h0] at C0
    clear h0
    go_enter Tryz.func205, Tryz.ntmps205
    go_wp2_with fail
    go_quiet ((first | (go_at_call 206; exact quiet_same (C0.out _)) | (go_at_call 207; exact quiet_same (C1.out _))))
    go_wp2_with fail
    go_ret
    exact ⟨rfl, below_drewN HB.out _⟩
  · rw [h0] at C0
    clear h0
    cases h1 : (s == 0)
    · go_enter Tryz.func205, Tryz.ntmps205
      go_wp2_with fail
      go_quiet ((first | (go_at_call 206; exact quiet_same (C0.out _)) | (go_at_call 207; exact quiet_same (C1.out _))))
      go_wp2_with fail
      go_ret
      exact ⟨rfl, below_drewN HB.out _⟩
    · go_enter Tryz.func205, Tryz.ntmps205
      go_wp2_with fail
      go_quiet ((first | (go_at_call 206; exact quiet_same (C0.out _)) | (go_at_call 207; exact quiet_same (C1.out _))))
      go_wp2_with fail
      go_ret
      exact ⟨rfl, below_drewN HB.out _⟩
theorem fit_movi_16 (o d s i : Int) (w : World) : Calls Tryz.prog 205 #[.agg #[.int .i64 o, .int .i64 d, .int .i64 s, .int .i64 16, .int .i64 i]] w fun e w' => e = .returned (.bool (isR d && ((s == 0) && inZ i 16))) ∧ Below w.heap.size w w' := by
  have HB := Lib.hid ((Below.refl w.heap.size w).alloc (Nat.le_refl _) (.cells #[.int .i64 o, .int .i64 d, .int .i64 s, .int .i64 16, .int .i64 i] 157))
  have C0 := Lib.hid (fun w => isReg_any d w)
  have C1 : Hid (∀ w, Calls Tryz.prog 207 #[.int .i64 i, .int .i64 0, .int .i64 65535] w fun e w' => e = .returned (.bool (inZ i 16)) ∧ w = w') := fun w => within_ia i 0 65535 w
  generalize inZ i 16 = q at *
  cases h0 : isR d
  · rw [h0] at C0
    clear h0
    go_enter Tryz.func205, Tryz.ntmps205
    go_wp2_with fail
    go_quiet ((first | (go_at_call 206; exact quiet_same (C0.out _)) | (go_at_call 207; exact quiet_same (C1.out _))))
    go_wp2_with fail
    go_ret
    exact ⟨rfl, below_drewN HB.out _⟩
  · rw [h0] at C0
    clear h0
    cases h1 : (s == 0)
    · go_enter Tryz.func205, Tryz.ntmps205
      go_wp2_with fail
      go_quiet ((first | (go_at_call 206; exact quiet_same (C0.out _)) | (go_at_call 207; exact quiet_same (C1.out _))))
      go_wp2_with fail
      go_ret
      exact ⟨rfl, below_drewN HB.out _⟩
    · go_enter Tryz.func205, Tryz.ntmps205
      go_wp2_with fail
      go_quiet ((first | (go_at_call 206; exact quiet_same (C0.out _)) | (go_at_call 207; exact quiet_same (C1.out _))))
      go_wp2_with fail
      go_ret
      exact ⟨rfl, below_drewN HB.out _⟩
theorem fit_jumpC_8 (o d s i : Int) (b : Nat) (w : World) (hc : w.cell? ⟨b, 0, none⟩ = some (.func (.func 229) #[] #[])) : Calls Tryz.prog 249 #[.agg #[.int .i64 o, .int .i64 d, .int .i64 s, .int .i64 8, .int .i64 i], .pointer (some ⟨b, 0, none⟩)] w fun e w' => e = .returned (.bool ((d == 0) && ((isC s) && isB i))) ∧ Below w.heap.size w w' := by
  have hl := cell_lt hc
  have hn : ¬ b = w.heap.size := by omega
  have HB := Lib.hid ((Below.refl w.heap.size w).alloc (Nat.le_refl _) (.cells #[.int .i64 o, .int .i64 d, .int .i64 s, .int .i64 8, .int .i64 i] 157))
  have C0 := Lib.hid (fun w => fit_jcc o d s 8 i w)
  have C1 : Hid (∀ w, Calls Tryz.prog 207 #[.int .i64 i, .int .i64 (-128), .int .i64 127] w fun e w' => e = .returned (.bool (isB i)) ∧ w = w') := fun w => within_ia i (-128) 127 w
  have C2 := Lib.hid (fun w => isWide_any i w)
  cases h0 : (d == 0)
  · go_enter Tryz.func249, Tryz.ntmps249
    go_wp2_with (first | ((go_at_call 229; with_reducible refine (C0.out _).mono ?_); rintro e w1 ⟨rfl, hb⟩; have q3 : w1.cell? ⟨w.heap.size, 3, none⟩ = some (.int .i64 8) := box_kept hb 3; have q4 : w1.cell? ⟨w.heap.size, 4, none⟩ = some (.int .i64 i) := box_kept hb 4) | ((go_at_call 207; with_reducible refine (C1.out _).mono ?_); rintro e w' ⟨rfl, rfl⟩) | ((go_at_call 237; with_reducible refine (C2.out _).mono ?_); rintro e w' ⟨rfl, rfl⟩))
    go_ret
    exact ⟨rfl, HB.out⟩
  · cases h1 : (isC s)
    · rw [h1] at C0
      clear h1
      go_enter Tryz.func249, Tryz.ntmps249
      go_wp2_with (first | ((go_at_call 229; with_reducible refine (C0.out _).mono ?_); rintro e w1 ⟨rfl, hb⟩; have q3 : w1.cell? ⟨w.heap.size, 3, none⟩ = some (.int .i64 8) := box_kept hb 3; have q4 : w1.cell? ⟨w.heap.size, 4, none⟩ = some (.int .i64 i) := box_kept hb 4) | ((go_at_call 207; with_reducible refine (C1.out _).mono ?_); rintro e w' ⟨rfl, rfl⟩) | ((go_at_call 237; with_reducible refine (C2.out _).mono ?_); rintro e w' ⟨rfl, rfl⟩))
      go_ret
      exact ⟨rfl, HB.out.trans (hb.mono (by simp))⟩
    · rw [h1] at C0
      clear h1
      cases h2 : isB i
      · rw [h2] at C1
        clear h2
        go_enter Tryz.func249, Tryz.ntmps249
        go_wp2_with (first | ((go_at_call 229; with_reducible refine (C0.out _).mono ?_); rintro e w1 ⟨rfl, hb⟩; have q3 : w1.cell? ⟨w.heap.size, 3, none⟩ = some (.int .i64 8) := box_kept hb 3; have q4 : w1.cell? ⟨w.heap.size, 4, none⟩ = some (.int .i64 i) := box_kept hb 4) | ((go_at_call 207; with_reducible refine (C1.out _).mono ?_); rintro e w' ⟨rfl, rfl⟩) | ((go_at_call 237; with_reducible refine (C2.out _).mono ?_); rintro e w' ⟨rfl, rfl⟩))
        go_ret
        exact ⟨rfl, HB.out.trans (hb.mono (by simp))⟩
      · rw [h2] at C1
        clear h2
        go_enter Tryz.func249, Tryz.ntmps249
        go_wp2_with (first | ((go_at_call 229; with_reducible refine (C0.out _).mono ?_); rintro e w1 ⟨rfl, hb⟩; have q3 : w1.cell? ⟨w.heap.size, 3, none⟩ = some (.int .i64 8) := box_kept hb 3; have q4 : w1.cell? ⟨w.heap.size, 4, none⟩ = some (.int .i64 i) := box_kept hb 4) | ((go_at_call 207; with_reducible refine (C1.out _).mono ?_); rintro e w' ⟨rfl, rfl⟩) | ((go_at_call 237; with_reducible refine (C2.out _).mono ?_); rintro e w' ⟨rfl, rfl⟩))
        go_ret
        exact ⟨rfl, HB.out.trans (hb.mono (by simp))⟩
theorem fit_jumpC_32 (o d s i : Int) (b : Nat) (w : World) (hc : w.cell? ⟨b, 0, none⟩ = some (.func (.func 229) #[] #[])) : Calls Tryz.prog 249 #[.agg #[.int .i64 o, .int .i64 d, .int .i64 s, .int .i64 32, .int .i64 i], .pointer (some ⟨b, 0, none⟩)] w fun e w' => e = .returned (.bool ((d == 0) && ((isC s) && isW4 i))) ∧ Below w.heap.size w w' := by
  have hl := cell_lt hc
  have hn : ¬ b = w.heap.size := by omega
  have HB := Lib.hid ((Below.refl w.heap.size w).alloc (Nat.le_refl _) (.cells #[.int .i64 o, .int .i64 d, .int .i64 s, .int .i64 32, .int .i64 i] 157))
  have C0 := Lib.hid (fun w => fit_jcc o d s 32 i w)
  have C1 : Hid (∀ w, Calls Tryz.prog 207 #[.int .i64 i, .int .i64 (-128), .int .i64 127] w fun e w' => e = .returned (.bool (isB i)) ∧ w = w') := fun w => within_ia i (-128) 127 w
  have C2 := Lib.hid (fun w => isWide_any i w)
  cases h0 : (d == 0)
  · go_enter Tryz.func249, Tryz.ntmps249
    go_wp2_with (first | ((go_at_call 229; with_reducible refine (C0.out _).mono ?_); rintro e w1 ⟨rfl, hb⟩; have q3 : w1.cell? ⟨w.heap.size, 3, none⟩ = some (.int .i64 32) := box_kept hb 3; have q4 : w1.cell? ⟨w.heap.size, 4, none⟩ = some (.int .i64 i) := box_kept hb 4) | ((go_at_call 207; with_reducible refine (C1.out _).mono ?_); rintro e w' ⟨rfl, rfl⟩) | ((go_at_call 237; with_reducible refine (C2.out _).mono ?_); rintro e w' ⟨rfl, rfl⟩))
    go_ret
    exact ⟨rfl, HB.out⟩
  · cases h1 : (isC s)
    · rw [h1] at C0
      clear h1
      go_enter Tryz.func249, Tryz.ntmps249
      go_wp2_with (first | ((go_at_call 229; with_reducible refine (C0.out _).mono ?_); rintro e w1 ⟨rfl, hb⟩; have q3 : w1.cell? ⟨w.heap.size, 3, none⟩ = some (.int .i64 32) := box_kept hb 3; have q4 : w1.cell? ⟨w.heap.size, 4, none⟩ = some (.int .i64 i) := box_kept hb 4) | ((go_at_call 207; with_reducible refine (C1.out _).mono ?_); rintro e w' ⟨rfl, rfl⟩) | ((go_at_call 237; with_reducible refine (C2.out _).mono ?_); rintro e w' ⟨rfl, rfl⟩))
      go_ret
      exact ⟨rfl, HB.out.trans (hb.mono (by simp))⟩
    · rw [h1] at C0
      clear h1
      go_enter Tryz.func249, Tryz.ntmps249
      go_wp2_with (first | ((go_at_call 229; with_reducible refine (C0.out _).mono ?_); rintro e w1 ⟨rfl, hb⟩; have q3 : w1.cell? ⟨w.heap.size, 3, none⟩ = some (.int .i64 32) := box_kept hb 3; have q4 : w1.cell? ⟨w.heap.size, 4, none⟩ = some (.int .i64 i) := box_kept hb 4) | ((go_at_call 207; with_reducible refine (C1.out _).mono ?_); rintro e w' ⟨rfl, rfl⟩) | ((go_at_call 237; with_reducible refine (C2.out _).mono ?_); rintro e w' ⟨rfl, rfl⟩))
      go_ret
      exact ⟨rfl, HB.out.trans (hb.mono (by simp))⟩
theorem fit_jumpJ_8 (o d s i : Int) (b : Nat) (w : World) (hc : w.cell? ⟨b, 0, none⟩ = some (.func (.func 232) #[] #[])) : Calls Tryz.prog 249 #[.agg #[.int .i64 o, .int .i64 d, .int .i64 s, .int .i64 8, .int .i64 i], .pointer (some ⟨b, 0, none⟩)] w fun e w' => e = .returned (.bool ((d == 0) && ((s == 0) && isB i))) ∧ Below w.heap.size w w' := by
  have hl := cell_lt hc
  have hn : ¬ b = w.heap.size := by omega
  have HB := Lib.hid ((Below.refl w.heap.size w).alloc (Nat.le_refl _) (.cells #[.int .i64 o, .int .i64 d, .int .i64 s, .int .i64 8, .int .i64 i] 157))
  have C0 := Lib.hid (fun w => fit_jmp o d s 8 i w)
  have C1 : Hid (∀ w, Calls Tryz.prog 207 #[.int .i64 i, .int .i64 (-128), .int .i64 127] w fun e w' => e = .returned (.bool (isB i)) ∧ w = w') := fun w => within_ia i (-128) 127 w
  have C2 := Lib.hid (fun w => isWide_any i w)
  cases h0 : (d == 0)
  · go_enter Tryz.func249, Tryz.ntmps249
    go_wp2_with (first | ((go_at_call 232; with_reducible refine (C0.out _).mono ?_); rintro e w1 ⟨rfl, hb⟩; have q3 : w1.cell? ⟨w.heap.size, 3, none⟩ = some (.int .i64 8) := box_kept hb 3; have q4 : w1.cell? ⟨w.heap.size, 4, none⟩ = some (.int .i64 i) := box_kept hb 4) | ((go_at_call 207; with_reducible refine (C1.out _).mono ?_); rintro e w' ⟨rfl, rfl⟩) | ((go_at_call 237; with_reducible refine (C2.out _).mono ?_); rintro e w' ⟨rfl, rfl⟩))
    go_ret
    exact ⟨rfl, HB.out⟩
  · cases h1 : (s == 0)
    · rw [h1] at C0
      clear h1
      go_enter Tryz.func249, Tryz.ntmps249
      go_wp2_with (first | ((go_at_call 232; with_reducible refine (C0.out _).mono ?_); rintro e w1 ⟨rfl, hb⟩; have q3 : w1.cell? ⟨w.heap.size, 3, none⟩ = some (.int .i64 8) := box_kept hb 3; have q4 : w1.cell? ⟨w.heap.size, 4, none⟩ = some (.int .i64 i) := box_kept hb 4) | ((go_at_call 207; with_reducible refine (C1.out _).mono ?_); rintro e w' ⟨rfl, rfl⟩) | ((go_at_call 237; with_reducible refine (C2.out _).mono ?_); rintro e w' ⟨rfl, rfl⟩))
      go_ret
      exact ⟨rfl, HB.out.trans (hb.mono (by simp))⟩
    · rw [h1] at C0
      clear h1
      cases h2 : isB i
      · rw [h2] at C1
        clear h2
        go_enter Tryz.func249, Tryz.ntmps249
        go_wp2_with (first | ((go_at_call 232; with_reducible refine (C0.out _).mono ?_); rintro e w1 ⟨rfl, hb⟩; have q3 : w1.cell? ⟨w.heap.size, 3, none⟩ = some (.int .i64 8) := box_kept hb 3; have q4 : w1.cell? ⟨w.heap.size, 4, none⟩ = some (.int .i64 i) := box_kept hb 4) | ((go_at_call 207; with_reducible refine (C1.out _).mono ?_); rintro e w' ⟨rfl, rfl⟩) | ((go_at_call 237; with_reducible refine (C2.out _).mono ?_); rintro e w' ⟨rfl, rfl⟩))
        go_ret
        exact ⟨rfl, HB.out.trans (hb.mono (by simp))⟩
      · rw [h2] at C1
        clear h2
        go_enter Tryz.func249, Tryz.ntmps249
        go_wp2_with (first | ((go_at_call 232; with_reducible refine (C0.out _).mono ?_); rintro e w1 ⟨rfl, hb⟩; have q3 : w1.cell? ⟨w.heap.size, 3, none⟩ = some (.int .i64 8) := box_kept hb 3; have q4 : w1.cell? ⟨w.heap.size, 4, none⟩ = some (.int .i64 i) := box_kept hb 4) | ((go_at_call 207; with_reducible refine (C1.out _).mono ?_); rintro e w' ⟨rfl, rfl⟩) | ((go_at_call 237; with_reducible refine (C2.out _).mono ?_); rintro e w' ⟨rfl, rfl⟩))
        go_ret
        exact ⟨rfl, HB.out.trans (hb.mono (by simp))⟩
theorem fit_jumpJ_32 (o d s i : Int) (b : Nat) (w : World) (hc : w.cell? ⟨b, 0, none⟩ = some (.func (.func 232) #[] #[])) : Calls Tryz.prog 249 #[.agg #[.int .i64 o, .int .i64 d, .int .i64 s, .int .i64 32, .int .i64 i], .pointer (some ⟨b, 0, none⟩)] w fun e w' => e = .returned (.bool ((d == 0) && ((s == 0) && isW4 i))) ∧ Below w.heap.size w w' := by
  have hl := cell_lt hc
  have hn : ¬ b = w.heap.size := by omega
  have HB := Lib.hid ((Below.refl w.heap.size w).alloc (Nat.le_refl _) (.cells #[.int .i64 o, .int .i64 d, .int .i64 s, .int .i64 32, .int .i64 i] 157))
  have C0 := Lib.hid (fun w => fit_jmp o d s 32 i w)
  have C1 : Hid (∀ w, Calls Tryz.prog 207 #[.int .i64 i, .int .i64 (-128), .int .i64 127] w fun e w' => e = .returned (.bool (isB i)) ∧ w = w') := fun w => within_ia i (-128) 127 w
  have C2 := Lib.hid (fun w => isWide_any i w)
  cases h0 : (d == 0)
  · go_enter Tryz.func249, Tryz.ntmps249
    go_wp2_with (first | ((go_at_call 232; with_reducible refine (C0.out _).mono ?_); rintro e w1 ⟨rfl, hb⟩; have q3 : w1.cell? ⟨w.heap.size, 3, none⟩ = some (.int .i64 32) := box_kept hb 3; have q4 : w1.cell? ⟨w.heap.size, 4, none⟩ = some (.int .i64 i) := box_kept hb 4) | ((go_at_call 207; with_reducible refine (C1.out _).mono ?_); rintro e w' ⟨rfl, rfl⟩) | ((go_at_call 237; with_reducible refine (C2.out _).mono ?_); rintro e w' ⟨rfl, rfl⟩))
    go_ret
    exact ⟨rfl, HB.out⟩
  · cases h1 : (s == 0)
    · rw [h1] at C0
      clear h1
      go_enter Tryz.func249, Tryz.ntmps249
      go_wp2_with (first | ((go_at_call 232; with_reducible refine (C0.out _).mono ?_); rintro e w1 ⟨rfl, hb⟩; have q3 : w1.cell? ⟨w.heap.size, 3, none⟩ = some (.int .i64 32) := box_kept hb 3; have q4 : w1.cell? ⟨w.heap.size, 4, none⟩ = some (.int .i64 i) := box_kept hb 4) | ((go_at_call 207; with_reducible refine (C1.out _).mono ?_); rintro e w' ⟨rfl, rfl⟩) | ((go_at_call 237; with_reducible refine (C2.out _).mono ?_); rintro e w' ⟨rfl, rfl⟩))
      go_ret
      exact ⟨rfl, HB.out.trans (hb.mono (by simp))⟩
    · rw [h1] at C0
      clear h1
      go_enter Tryz.func249, Tryz.ntmps249
      go_wp2_with (first | ((go_at_call 232; with_reducible refine (C0.out _).mono ?_); rintro e w1 ⟨rfl, hb⟩; have q3 : w1.cell? ⟨w.heap.size, 3, none⟩ = some (.int .i64 32) := box_kept hb 3; have q4 : w1.cell? ⟨w.heap.size, 4, none⟩ = some (.int .i64 i) := box_kept hb 4) | ((go_at_call 207; with_reducible refine (C1.out _).mono ?_); rintro e w' ⟨rfl, rfl⟩) | ((go_at_call 237; with_reducible refine (C2.out _).mono ?_); rintro e w' ⟨rfl, rfl⟩))
      go_ret
      exact ⟨rfl, HB.out.trans (hb.mono (by simp))⟩
theorem RowI.mono {w : World} {base base' : Nat} {e : TypeId} {k : IntKind} {v : Value} {xs : List Int} (h : RowI w base e k v xs) (hb : base' ≤ base) : RowI w base' e k v xs := World.ownsRow.mono h hb
theorem acc_r {P : Program} {f : FuncId} {args : Array Value} {w : World} {e0 : TypeId} {k : IntKind} {xs : List Int} (h : Calls P f args w fun e w' => ∃ v, e = .returned v ∧ RowI w' w.heap.size e0 k v xs ∧ Below w.heap.size w w') {w0 : World} (h0 : Since w0 w) :
    Calls P f args w fun e w' => ∃ v, e = .returned v ∧ RowI w' w0.heap.size e0 k v xs ∧ Below w.heap.size w w' ∧ Since w0 w' :=
  h.mono fun _ _ ⟨v, h1, h2, h3⟩ => ⟨v, h1, h2.mono h0.size, h3, below_hop h0 h3⟩
section
variable {P : Program} {w : World}
theorem step_app_row {ops : Array Oper} {o : Oper} {a : Act} {K : Act → World → Prop} {Q : Exit → Act → World → Prop} {E : Prop} {k : IntKind} (hgd : o.guard = none) (s x : Operand) (t : TypeId)
    (ho : o.op = .call { callee := .builtin .append, args := #[s, x], argTypes := #[t, t] }) (base : Nat) (e : TypeId) (i : TypeInfo) (bytes : Nat) (ht : P.underlying t = some (.slice e)) (hi : P.info? e = some i) (hz : i.zero = some (.int k 0))
    (hsize : i.size = 1) (hby : i.bytes = bytes) (hb8 : bytes ≤ 8) (v : Value) (xs : List Int) (hs : a.eval s = v) (hown : RowI w base e k v xs)
    (u : Value) (ys : List Int) (hx : a.eval x = u) (hu : Ints k w u ys) (hm : 0 < ys.length) (hl : xs.length + ys.length ≤ 100000) (hbase : base ≤ w.heap.size)
    (h : ∀ v' w', RowI w' base e k v' (xs ++ ys) → Below base w w' → K (a.put o.dst v') w') : if Region.wanted o (yielded ops a.tmps) = true then Oper.wp P o a w K Q else E := by
  obtain ⟨b, q, c, rfl, _, _⟩ := hu.at hm
  have hn := hu.newsK
  refine step_append_lies (w := w) hgd s x t ho base e i (.int k 0) 1 bytes ht hi hz hsize hby rfl (by decide) v xs.length (xs.map (Value.int k)) hs hown ⟨b, q, none⟩ ys.length c (ys.map (Value.int k)) hx (by simp) hn (fun u hu => by obtain ⟨x, _, rfl⟩ := List.mem_map.1 hu; rfl) hm (by unfold maxLen; omega) ?_ hbase w.heap.size rfl ?_
  · have : (xs.length + ys.length) * bytes ≤ 100000 * 8 := Nat.mul_le_mul hl hb8
    omega
  · intro g cap w' hown' hgrow _ _
    exact h _ w' (RowI.app hown' rfl rfl) ((Below.refl base w).grown hgrow hbase (own_ge hown))
theorem wpList_app_row {ops : Array Oper} {rest : List Oper} {o : Oper} {a : Act} {Q : Exit → Act → World → Prop} {k : IntKind} (hgd : o.guard = none) (s x : Operand) (t : TypeId)
    (ho : o.op = .call { callee := .builtin .append, args := #[s, x], argTypes := #[t, t] }) (base : Nat) (e : TypeId) (i : TypeInfo) (bytes : Nat) (ht : P.underlying t = some (.slice e)) (hi : P.info? e = some i) (hz : i.zero = some (.int k 0))
    (hsize : i.size = 1) (hby : i.bytes = bytes) (hb8 : bytes ≤ 8) (v : Value) (xs : List Int) (hs : a.eval s = v) (hown : RowI w base e k v xs)
    (u : Value) (ys : List Int) (hx : a.eval x = u) (hu : Ints k w u ys) (hm : 0 < ys.length) (hl : xs.length + ys.length ≤ 100000) (hbase : base ≤ w.heap.size)
    (h : ∀ v' w', RowI w' base e k v' (xs ++ ys) → Below base w w' → wpList P ops Q rest (a.put o.dst v') w') : wpList P ops Q (o :: rest) a w := by
  obtain ⟨b, q, c, rfl, _, _⟩ := hu.at hm
  have hn := hu.newsK
  refine wpList_append_own (w := w) hgd s x t ho base e i (.int k 0) 1 bytes ht hi hz hsize hby rfl (by decide) v xs.length (xs.map (Value.int k)) hs hown ⟨b, q, none⟩ ys.length c (ys.map (Value.int k)) hx (by simp) hn (fun u hu => by obtain ⟨x, _, rfl⟩ := List.mem_map.1 hu; rfl) (by unfold maxLen; omega) ?_ hbase ?_
  · have : (xs.length + ys.length) * bytes ≤ 100000 * 8 := Nat.mul_le_mul hl hb8
    omega
  · intro v' w' hown' hgrow _
    exact h _ w' (RowI.app hown' rfl rfl) ((Below.refl base w).grown hgrow hbase (own_ge hown))
end
theorem clone_any (xs : List Int) (v : Value) (w : World) (hv : Ints .u8 w v xs) (h0 : 0 < xs.length) (h1 : xs.length ≤ 50000) : Calls Tryz.prog 63 #[v] w fun e w' => ∃ v, e = .returned v ∧ RowI w' w.heap.size 5 .u8 v xs ∧ Below w.heap.size w w' := by
  obtain ⟨i0, hi0, hz0, hz1, hz2⟩ := info_parts info_u8
  have HV := Lib.hid hv
  obtain ⟨b, q, c, rfl, _, hbl, _⟩ := hv.at h0
  have HR0 := Lib.hid (RowI.lit w #[] [] .u8 5 w.heap.size 0 (Nat.le_refl _) rfl rfl (by unfold maxLen; simp))
  have HB := Lib.hid ((Below.refl w.heap.size w).alloc (Nat.le_refl _) (.cells #[] 5))
  clear hv
  have hnl : ∀ w, (binOp .eql 22 (.slice (some ⟨b, q, none⟩) xs.length c) (.slice none 0 0)).run Tryz.prog w = .ok (.bool false) w := fun w => Lib.run_eql_slice_nil w 22 5 (some ⟨b, q, none⟩) xs.length c 0 0 Tryz.underlying22
  go_enter Tryz.func63, Tryz.ntmps63
  go_wp2_with (at_builtin; go_must (refine wpList_app_row rfl _ _ 22 rfl w.heap.size 5 i0 1 Tryz.underlying22 hi0 hz0 hz1 hz2 (by decide) _ [] rfl HR0.out _ xs rfl (HV.out.stays HB.out) h0 ?c1 ?c2 ?_))
  case c1 => simp; omega
  case c2 => simp
  intro v' w' hr hb
  have HR := Lib.hid hr
  have HB2 := Lib.hid (HB.out.trans hb)
  clear hr hb
  go_wp2_with fail
  go_ret
  exact ⟨_, rfl, HR.out, HB2.out⟩
theorem wr_pair (o d s z i c : Int) (b : Nat) (w : World) (hc : w.cell? ⟨b, 0, none⟩ = some (.int .u8 c)) : Calls Tryz.prog 234 #[.agg #[.int .i64 o, .int .i64 d, .int .i64 s, .int .i64 z, .int .i64 i], .pointer (some ⟨b, 0, none⟩)] w fun e w' => ∃ v, e = .returned v ∧ RowI w' w.heap.size 5 .u8 v [c, mrB s d] ∧ Below w.heap.size w w' := by
  have hl := cell_lt hc
  have hn : ¬ b = w.heap.size := by omega
  have C0 := Lib.hid (fun w => mr_any s d w)
  have HB := Lib.hid ((Below.refl w.heap.size w).alloc (Nat.le_refl _) (.cells #[.int .i64 o, .int .i64 d, .int .i64 s, .int .i64 z, .int .i64 i] 157))
  obtain ⟨W0, hW0⟩ : ∃ W, w.alloc (.cells #[.int .i64 o, .int .i64 d, .int .i64 s, .int .i64 z, .int .i64 i] 157) = W := ⟨_, rfl⟩
  have p0 : ∀ wk, Since W0 wk → wk.cell? ⟨b, 0, none⟩ = some (.int .u8 c) := fun wk h => h.cell (by rw [← hW0]; exact cell_alloc hc)
  have p1 : ∀ wk, Since W0 wk → wk.cell? ⟨w.heap.size, 1, none⟩ = some (.int .i64 d) := fun wk h => h.cell (by rw [← hW0]; simp [go_sem])
  have p2 : ∀ wk, Since W0 wk → wk.cell? ⟨w.heap.size, 2, none⟩ = some (.int .i64 s) := fun wk h => h.cell (by rw [← hW0]; simp [go_sem])
  have h00 := Since.refl W0
  rw [hW0] at HB
  generalize mrB s d = q at *
  clear hc hl hn
  go_enter Tryz.func234, Tryz.ntmps234
  go_wp2_with fail
  clear hW0
  go_region_held3 (fun wk => Since W0 wk) (first | assumption | exact Since.drew (by assumption) | exact Since.next (by assumption) ((Below.refl _ _).alloc (Nat.le_refl _) _)) (first | (go_at_call 216; with_reducible refine (C0.out _).mono ?_; rintro e w' ⟨rfl, rfl⟩))
  go_wp2_with fail
  go_ret
  exact ⟨_, rfl, RowI.lit W0 #[_, _] [c, q] .u8 5 w.heap.size 2 HB.out.size rfl rfl (by unfold maxLen; simp), below_drewN (HB.out.trans (((Below.refl _ W0).alloc (Nat.le_refl _) _).mono HB.out.size)) 1⟩
end Go.Proofs.YtaegpeofecdhfaaGreat
namespace Go.Proofs.YtaegpeofecdhfaaGreat
open Go.RowKit Go.WideShapes Go.ChangeShapes
section
variable {H : Type} {enc : TypeId × Value → H} {P : Program}
theorem trodAll_stays (hl : laidOutB P = true) {W W' : World} (hb : Below W.heap.size W W') (sp : Nat → Bool) : ∀ (ts : List TypeId) (vs : List Value) (ds : List (DataW H)) (ps : List MemPlace),
    (∀ t ∈ ts, P.readableRec t = true ∧ t < P.types.size) → DataW.TrodAll enc P W 0 (fun _ => true) true ts vs ds ps → (∀ x ∈ ps, x.block < W.heap.size) → (∀ p ∈ ps, sp p.block = true) → DataW.TrodAll enc P W' 0 sp true ts vs ds ps
  | [], vs, ds, ps, _, h, _, _ => by
    obtain ⟨rfl, rfl, rfl⟩ := trodAll_nil h
    exact trodAll_mk0
  | t :: ts, vs, ds, ps, ht, h, hlt, hsp => by
    obtain ⟨v, vs', d, ds', p, q, rfl, rfl, rfl, h1, h2⟩ := trodAll_cons h
    have h3 := ht t (List.mem_cons_self ..)
    exact trodAll_cons_mk (WideElems.Trod_stays hl h3.1 h3.2 h1 (fun x hx => hb.same (hlt x (List.mem_append.2 (.inl hx)))) (fun x hx => hsp x (List.mem_append.2 (.inl hx))))
      (trodAll_stays hl hb sp ts vs' ds' q (fun t' h' => ht t' (List.mem_cons_of_mem _ h')) h2 (fun x hx => hlt x (List.mem_append.2 (.inr hx))) (fun x hx => hsp x (List.mem_append.2 (.inr hx))))
theorem post_below {f : Func} {s : ChangeSpec} {apart fresh handsOn again : Bool} {W W' : World} {args : Array Value} {v : Value} {ds gs : List (DataW H)} {before pa pv : List MemPlace}
    (hW : DataW.Whole enc P f.params.toList s.vars apart W args.toList ds gs before)
    (hres : ∀ (b : Nat) (sp : Nat → Bool) (hd : Bool), DataW.TrodAll enc P W' b sp hd f.resultTypes.toList (v.resultList f.resultTypes.size) (s.fn H (ds ++ gs)).results [])
    (hargs : ∀ sp : Nat → Bool, (∀ p ∈ before, sp p.block = true) → DataW.TrodAll enc P W' 0 sp true f.params.toList args.toList (s.fn H (ds ++ gs)).args pa)
    (hvars : ∀ sp : Nat → Bool, (∀ p ∈ before, sp p.block = true) → DataW.TrodVars enc P W' sp s.vars (s.fn H (ds ++ gs)).vars pv)
    (hps : before = pa ++ pv) (hb : Below W.heap.size W W')
    (hok : ∀ (j : Nat) (t : TypeId) (r : Value), f.resultTypes[j]? = some t → (v.resultList f.resultTypes.size)[j]? = some r → Value.okWide P W' .any 0 t r) :
    s.post enc P f apart fresh handsOn again W args v W' := by
  have hlt : ∀ p ∈ before, p.block < W.heap.size := fun p hp => hW.lt p hp
  have hold : ∀ p ∈ before, (fun b => decide (b < W.heap.size)) p.block = true := fun p hp => by simpa using hlt p hp
  refine ⟨ds, gs, before, [], pa, pv, hW, hres _ _ _, hargs _ hold, hvars _ hold, World.keptBut_mono (fun p hp => ⟨hp, ?_⟩) (hb.frame (· ∈ before)), fun _ => ?_⟩
  · rw [hps, List.mem_append] at hp
    exact Or.inr hp
  · obtain ⟨_, _, _, _, _, hz, hn⟩ := hW
    refine ⟨hok, _, _, ([] ++ pa) ++ pv, ⟨[] ++ pa, pv, trodAll_append (hargs _ (fun _ _ => rfl)) (hres _ _ _), hvars _ (fun _ _ => rfl), rfl, ?_, ?_⟩, ?_⟩
    · intro b off hp
      have hin : MemPlace.cell b off ∈ before := by rw [hps]; simpa using hp
      rw [hb.frozen (hlt _ hin)]
      exact hz b off hin
    · intro ha
      have := hn ha
      rw [hps] at this
      simpa using this
    · intro p hp _
      rw [hps]
      simpa using hp
theorem post_law {f : Func} {s : ChangeSpec} {apart fresh handsOn again : Bool} {W W' : World} {args : Array Value} {ds gs : List (DataW H)} {before : List MemPlace} {tb : TypeId}
    (hl : laidOutB P = true) (hts : ∀ t ∈ f.params.toList, P.readableRec t = true ∧ t < P.types.size) (hres : f.resultTypes = #[tb]) (htb : P.underlying tb = some .bool) (hv : s.vars = [])
    (hW : DataW.Whole enc P f.params.toList s.vars apart W args.toList ds gs before) (hfn : s.fn H (ds ++ gs) = { results := [.lit (.bool true)], args := ds }) (hb : Below W.heap.size W W') :
    s.post enc P f apart fresh handsOn again W args (.bool true) W' := by
  have hW2 := hW
  obtain ⟨p, q, hA, hV, rfl, _, _⟩ := hW2
  rw [hv] at hV
  obtain ⟨rfl, rfl⟩ := trodVars_none hV
  refine post_below (pa := p) (pv := []) hW (fun b sp hd => ?_) (fun sp hsp => ?_) (fun sp _ => ?_) rfl hb (ok_one hres rfl (okWide_bool_mk htb _))
  · rw [hfn, hres]
    exact trodAll_mk1 (shut_bool htb _)
  · rw [hfn]
    exact trodAll_stays hl hb sp _ _ _ _ hts hA (fun x hx => hW.lt x (List.mem_append.2 (.inl hx))) (fun x hx => hsp x (List.mem_append.2 (.inl hx)))
  · rw [hfn, hv]
    trivial
end
end Go.Proofs.YtaegpeofecdhfaaGreat
namespace Go.Proofs.YtaegpeofecdhfaaGreat
open Go.RowKit Go.WideShapes Go.ChangeShapes Go.Deep
set_option linter.unusedVariables false
set_option linter.unusedSimpArgs false
section
variable {H : Type} {enc : TypeId × Value → H} {P : Program} {W : World} {base : Nat} {held : Bool}
def FitsK (k : IntKind) (x : Int) : Prop := (Lit.int k x).wf = true
theorem weights_len {t e : TypeId} {elems spare : List (DataW H)} (ht : P.underlying t = some (.slice e)) (hb : 1 ≤ P.bytesOf e) (hw : ∀ n ∈ (DataW.slice elems spare).weights P t, n ≤ reachBytes) : elems.length + spare.length ≤ 140737488351232 := by
  have h := hw ((elems.length + spare.length) * P.bytesOf e) (by simp [DataW.weights, ht])
  have h2 : elems.length + spare.length ≤ (elems.length + spare.length) * P.bytesOf e := Nat.le_mul_of_pos_right _ hb
  unfold reachBytes at h
  omega
theorem readI {t e : TypeId} {k : IntKind} {fuel : Nat} {cs : List Value} {d : DataW H} {ps : List MemPlace} (ht : P.underlying t = some (.slice e)) (he : P.underlying e = some (.int k)) (hc : P.cellsOf e = 1) (hby : 1 ≤ P.bytesOf e)
    (h : DataW.trod enc P W base (fun _ => true) held fuel t cs = some (d, ps)) (hw : ∀ n ∈ d.weights P t, n ≤ reachBytes) : ∃ v xs, cs = [v] ∧ Ints k W v xs ∧ ∀ x ∈ xs, FitsK k x := by
  rcases open_ints ht he hc h with ⟨rfl, hx⟩ | ⟨a, len, cap, zs, rfl, hb, hl, hm, hz, hx, hcell, hwf⟩
  · exact ⟨_, [], rfl, ⟨none, 0, rfl, Nat.le_refl _, ⟨by simp, by omega⟩, fun _ => rfl, fun i hi => absurd hi (by simp)⟩, fun x hx => by cases hx⟩
  · simp only [if_true] at hz
    simp only [Prod.mk.injEq] at hx
    have hcap : cap ≤ 140737488351232 := by
      rw [hx.1] at hw
      have := weights_len ht hby hw
      simp [lits] at this
      omega
    have hlen : (zs.take len).length = len := by rw [List.length_take]; omega
    refine ⟨_, zs.take len, rfl, ⟨some a, cap, by rw [hlen], by omega, ⟨by omega, by unfold maxLen at hm; omega⟩, (fun hh => by cases hh), fun i hi => ?_⟩, fun x hx => hwf x (List.mem_of_mem_take hx)⟩
    rw [hlen] at hi
    have hc0 := hcell i (by omega)
    have hs := World.cell?_spot hc0
    obtain ⟨b, o, s⟩ := a
    have hsp : s = none := by
      by_cases e0 : i = 0
      · subst e0; exact World.cell?_spot (hcell 0 (by omega))
      · exact World.cell?_spot (hcell 0 (by omega))
    subst hsp
    have e1 : (⟨b, o, none⟩ : Addr).add i = ⟨b, o + i, none⟩ := by
      unfold Addr.add
      by_cases e0 : i = 0
      · rw [if_pos e0, e0]; rfl
      · rw [if_neg e0]
    rw [e1] at hc0
    refine ⟨b, o, rfl, cell_lt hc0, ?_⟩
    show W.cell? ⟨b, o + i * 1, none⟩ = _
    rw [Nat.mul_one, hc0, List.getD_eq_getElem?_getD, List.getD_eq_getElem?_getD, List.getElem?_take, if_pos hi]
theorem add_add (b o i j : Nat) : ((⟨b, o, none⟩ : Addr).add i).add j = ⟨b, o + i + j, none⟩ := by
  have e : ∀ (o i : Nat), (⟨b, o, none⟩ : Addr).add i = ⟨b, o + i, none⟩ := by
    intro o i
    unfold Addr.add
    by_cases e0 : i = 0
    · rw [if_pos e0, e0]; rfl
    · rw [if_neg e0]
  rw [e, e]
theorem weights_mem {fs : Array Field} {t : TypeId} {parts : List (DataW H)} (ht : P.underlying t = some (.struct fs)) {i : Nat} {f : Field} {d : DataW H} (hf : fs[i]? = some f) (hd : parts[i]? = some d) {n : Nat} (hn : n ∈ d.weights P f.type) : n ∈ (DataW.agg parts).weights P t := by
  have h1 : (fs.toList.map (·.type))[i]? = some f.type := by rw [List.getElem?_map]; simp [hf]
  have := DataW.weights_mem_each h1 hd n hn
  simpa [DataW.weights, ht] using this
theorem weightsAll_mem {e : TypeId} : ∀ {l : List (DataW H)} {d : DataW H}, d ∈ l → ∀ n ∈ d.weights P e, n ∈ DataW.weightsAll P e l
  | x :: l, d, h, n, hn => by
    simp only [DataW.weightsAll, List.mem_append]
    rcases List.mem_cons.1 h with rfl | h
    · exact Or.inl hn
    · exact Or.inr (weightsAll_mem h n hn)
structure NodeTy (P : Program) (e ei : TypeId) (f0 f1 f2 f3 f4 : Field) : Prop where
  st : P.underlying e = some (.struct #[f0, f1, f2, f3, f4])
  o : f0.offset = 0 ∧ f1.offset = 1 ∧ f2.offset = 2 ∧ f3.offset = 3 ∧ f4.offset = 4
  u0 : P.underlying f0.type = some (.int .i64)
  u1 : P.underlying f1.type = some (.int .i64)
  u2 : P.underlying f2.type = some (.int .i64)
  u3 : P.underlying f3.type = some (.slice ei)
  u4 : P.underlying f4.type = some (.int .u32)
  ui : P.underlying ei = some (.int .i64)
  c : P.cellsOf f0.type = 1 ∧ P.cellsOf f1.type = 1 ∧ P.cellsOf f2.type = 1 ∧ P.cellsOf f3.type = 1 ∧ P.cellsOf f4.type = 1 ∧ P.cellsOf ei = 1 ∧ P.cellsOf e = 5
  b : 1 ≤ P.bytesOf ei
end
end Go.Proofs.YtaegpeofecdhfaaGreat
namespace Go.Proofs.YtaegpeofecdhfaaGreat
open Go.RowKit Go.WideShapes Go.ChangeShapes Go.Deep
set_option linter.unusedVariables false
set_option linter.unusedSimpArgs false
structure Sy where
  n : Int
  a : Int
  deriving Inhabited
structure Wn where
  a : Int
  k : Int
  n : Int
  p : Int
  deriving Inhabited
structure Ob where
  b : List Int
  s : List Sy
  t : List Wn
  deriving Inhabited
def SyAt (w : World) (b o : Nat) (x : Sy) : Prop := w.cell? ⟨b, o, none⟩ = some (.int .i64 x.n) ∧ w.cell? ⟨b, o + 1, none⟩ = some (.int .i64 x.a)
def WnAt (w : World) (b o : Nat) (x : Wn) : Prop := w.cell? ⟨b, o, none⟩ = some (.int .i64 x.a) ∧ w.cell? ⟨b, o + 1, none⟩ = some (.int .i64 x.k) ∧ w.cell? ⟨b, o + 2, none⟩ = some (.int .i64 x.n) ∧ w.cell? ⟨b, o + 3, none⟩ = some (.int .i64 x.p)
def Sys (w : World) (v : Value) (l : List Sy) : Prop := Slc w v l.length 2 fun i b o => SyAt w b o (l.getD i default)
def Wns (w : World) (v : Value) (l : List Wn) : Prop := Slc w v l.length 4 fun i b o => WnAt w b o (l.getD i default)
def Ob3 (w : World) (vb vs vt : Value) (x : Ob) : Prop := Ints .u8 w vb x.b ∧ Sys w vs x.s ∧ Wns w vt x.t
def ObAt (w : World) (b o : Nat) (x : Ob) : Prop := ∃ vb vs vt, w.cell? ⟨b, o, none⟩ = some vb ∧ w.cell? ⟨b, o + 1, none⟩ = some vs ∧ w.cell? ⟨b, o + 2, none⟩ = some vt ∧ Ob3 w vb vs vt x
def Obs (w : World) (v : Value) (l : List Ob) : Prop := Slc w v l.length 3 fun i b o => ObAt w b o (l.getD i default)
theorem SyAt.stays {w w' : World} {b o : Nat} {x : Sy} (h : SyAt w b o x) (hlt : b < w.heap.size) (hb : Below w.heap.size w w') : SyAt w' b o x := ⟨below_cell hb hlt h.1, below_cell hb hlt h.2⟩
theorem WnAt.stays {w w' : World} {b o : Nat} {x : Wn} (h : WnAt w b o x) (hlt : b < w.heap.size) (hb : Below w.heap.size w w') : WnAt w' b o x := ⟨below_cell hb hlt h.1, below_cell hb hlt h.2.1, below_cell hb hlt h.2.2.1, below_cell hb hlt h.2.2.2⟩
theorem Sys.stays {w w' : World} {v : Value} {l : List Sy} (h : Sys w v l) (hb : Below w.heap.size w w') : Sys w' v l := Slc.stays h hb fun _ _ _ hlt hc => hc.stays hlt hb
theorem Wns.stays {w w' : World} {v : Value} {l : List Wn} (h : Wns w v l) (hb : Below w.heap.size w w') : Wns w' v l := Slc.stays h hb fun _ _ _ hlt hc => hc.stays hlt hb
theorem Ob3.stays {w w' : World} {vb vs vt : Value} {x : Ob} (h : Ob3 w vb vs vt x) (hb : Below w.heap.size w w') : Ob3 w' vb vs vt x := ⟨h.1.stays hb, h.2.1.stays hb, h.2.2.stays hb⟩
theorem ObAt.stays {w w' : World} {b o : Nat} {x : Ob} (h : ObAt w b o x) (hlt : b < w.heap.size) (hb : Below w.heap.size w w') : ObAt w' b o x := by
  obtain ⟨vb, vs, vt, h1, h2, h3, h4⟩ := h
  exact ⟨vb, vs, vt, below_cell hb hlt h1, below_cell hb hlt h2, below_cell hb hlt h3, h4.stays hb⟩
theorem Obs.stays {w w' : World} {v : Value} {l : List Ob} (h : Obs w v l) (hb : Below w.heap.size w w') : Obs w' v l := Slc.stays h hb fun _ _ _ hlt hc => hc.stays hlt hb
section
variable {H : Type} {enc : TypeId × Value → H} {P : Program} {W : World} {base : Nat} {held : Bool}
theorem readSlc {α : Type} [Inhabited α] {t e : TypeId} {z : Nat} {R : Nat → Nat → α → Prop} {F : α → Prop} (ht : P.underlying t = some (.slice e)) (hz : P.cellsOf e = z) (hz0 : 1 ≤ z) (hby : 1 ≤ P.bytesOf e) {fuel : Nat} {cs : List Value} {d : DataW H} {ps : List MemPlace}
    (h1 : ∀ (fuel b o : Nat) (cs : List Value) (d : DataW H) (ps : List MemPlace), (∀ i, i < z → W.cell? ⟨b, o + i, none⟩ = cs[i]?) → cs.length = z → DataW.trod enc P W base (fun _ => true) held fuel e cs = some (d, ps) → (∀ n ∈ d.weights P e, n ≤ reachBytes) → ∃ x : α, R b o x ∧ F x)
    (h : DataW.trod enc P W base (fun _ => true) held fuel t cs = some (d, ps)) (hw : ∀ n ∈ d.weights P t, n ≤ reachBytes) :
    ∃ (v : Value) (l : List α), cs = [v] ∧ Slc W v l.length z (fun i b o => R b o (l.getD i default)) ∧ ∀ x ∈ l, F x := by
  rcases open_slice ht h with ⟨rfl, hx⟩ | ⟨a, len, cap, m, n, D, Pl, rfl, hb, hl, hm, hmm, hx, hel⟩
  · exact ⟨_, [], rfl, ⟨none, 0, rfl, Nat.le_refl _, ⟨by simp, by omega⟩, fun _ => rfl, fun i hi => absurd hi (by simp)⟩, fun x hx => by cases hx⟩
  · simp only [if_true] at hmm
    subst hmm
    simp only [Prod.mk.injEq] at hx
    obtain ⟨hd, _⟩ := hx
    have hcap : m ≤ 140737488351232 := by
      rw [hd] at hw
      have := weights_len ht hby hw
      simp at this
      omega
    by_cases hl0 : len = 0
    · subst hl0
      exact ⟨_, [], rfl, ⟨some a, m, rfl, by omega, ⟨by simp, by omega⟩, (fun hh => by cases hh), fun i hi => absurd hi (by simp)⟩, fun x hx => by cases hx⟩
    have hsp : a.spot = none := by
      obtain ⟨cs', h1, _⟩ := hel 0 (by omega)
      rw [hz] at h1
      obtain ⟨_, hl5, hg⟩ := World.cells?_some h1
      have h0 := hg 0 (by omega)
      have e0 : (a.add (0 * z)).add 0 = a := by simp [Addr.add]
      rw [e0, List.getElem?_eq_getElem (by omega)] at h0
      exact World.cell?_spot h0
    obtain ⟨b, o, s⟩ := a
    simp only at hsp
    subst hsp
    obtain ⟨V, hV⟩ := choose_lt (α := α) (n := len) (p := fun i x => b < W.heap.size ∧ R b (o + i * z) x ∧ F x) (fun i hi => by
      obtain ⟨cs', g1, g2⟩ := hel i (by omega)
      rw [hz] at g1
      obtain ⟨_, hl5, hg⟩ := World.cells?_some g1
      have hg' : ∀ j, j < z → W.cell? ⟨b, o + i * z + j, none⟩ = cs'[j]? := fun j hj => by rw [← add_add b o (i * z) j]; exact hg j hj
      obtain ⟨x, q1, q2⟩ := h1 _ b (o + i * z) cs' _ _ hg' hl5 g2 (fun k hk => by
        refine hw k ?_
        rw [hd]
        simp only [DataW.weights, ht, List.mem_cons, List.mem_append]
        exact Or.inr (Or.inl (weightsAll_mem (List.mem_map.2 ⟨i, List.mem_range.2 hi, rfl⟩) k hk)))
      have h0 := hg' 0 (by omega)
      rw [List.getElem?_eq_getElem (by omega)] at h0
      exact ⟨x, cell_lt h0, q1, q2⟩)
    have hlen : ((List.range len).map V).length = len := by simp
    have hget : ∀ i, i < len → ((List.range len).map V).getD i default = V i := fun i hi => by
      rw [List.getD_eq_getElem?_getD, List.getElem?_map, List.getElem?_range hi]; rfl
    refine ⟨_, (List.range len).map V, rfl, ⟨some ⟨b, o, none⟩, m, by rw [hlen], by omega, ⟨by omega, by omega⟩, (fun hh => by cases hh), fun i hi => ?_⟩, fun x hx => ?_⟩
    · rw [hlen] at hi
      refine ⟨b, o, rfl, (hV i hi).1, ?_⟩
      show R b (o + i * z) _
      rw [hget i hi]
      exact (hV i hi).2.1
    · obtain ⟨i, hi, rfl⟩ := List.mem_map.1 hx
      exact (hV i (List.mem_range.1 hi)).2.2
structure ObTy (P : Program) (e es ew eb ts tw : TypeId) (f0 f1 f2 s0 s1 g0 g1 g2 g3 : Field) : Prop where
  st : P.underlying e = some (.struct #[f0, f1, f2])
  ss : P.underlying es = some (.struct #[s0, s1])
  sw : P.underlying ew = some (.struct #[g0, g1, g2, g3])
  o : f0.offset = 0 ∧ f1.offset = 1 ∧ f2.offset = 2 ∧ s0.offset = 0 ∧ s1.offset = 1 ∧ g0.offset = 0 ∧ g1.offset = 1 ∧ g2.offset = 2 ∧ g3.offset = 3
  u0 : P.underlying f0.type = some (.slice eb)
  u1 : P.underlying f1.type = some (.slice es)
  u2 : P.underlying f2.type = some (.slice ew)
  ub : P.underlying eb = some (.int .u8)
  us : P.underlying s0.type = some (.int .i64) ∧ P.underlying s1.type = some (.int .i64)
  uw : P.underlying g0.type = some (.int .i64) ∧ P.underlying g1.type = some (.int .i64) ∧ P.underlying g2.type = some (.int .i64) ∧ P.underlying g3.type = some (.int .i64)
  c : P.cellsOf f0.type = 1 ∧ P.cellsOf f1.type = 1 ∧ P.cellsOf f2.type = 1 ∧ P.cellsOf s0.type = 1 ∧ P.cellsOf s1.type = 1 ∧ P.cellsOf g0.type = 1 ∧ P.cellsOf g1.type = 1 ∧ P.cellsOf g2.type = 1 ∧ P.cellsOf g3.type = 1
  z : P.cellsOf e = 3 ∧ P.cellsOf es = 2 ∧ P.cellsOf ew = 4 ∧ P.cellsOf eb = 1
  b : 1 ≤ P.bytesOf eb ∧ 1 ≤ P.bytesOf es ∧ 1 ≤ P.bytesOf ew ∧ 1 ≤ P.bytesOf e
variable {e es ew eb ts tw : TypeId} {f0 f1 f2 s0 s1 g0 g1 g2 g3 : Field}
def SyF (x : Sy) : Prop := FitsK .i64 x.n ∧ FitsK .i64 x.a
def WnF (x : Wn) : Prop := FitsK .i64 x.a ∧ FitsK .i64 x.k ∧ FitsK .i64 x.n ∧ FitsK .i64 x.p
def ObF (x : Ob) : Prop := (∀ y ∈ x.b, FitsK .u8 y) ∧ (∀ y ∈ x.s, SyF y) ∧ ∀ y ∈ x.t, WnF y
theorem readSy1 (T : ObTy P e es ew eb ts tw f0 f1 f2 s0 s1 g0 g1 g2 g3) (fuel b o : Nat) (cs : List Value) (d : DataW H) (ps : List MemPlace) (hcs : ∀ i, i < 2 → W.cell? ⟨b, o + i, none⟩ = cs[i]?) (hl : cs.length = 2)
    (h : DataW.trod enc P W base (fun _ => true) held fuel es cs = some (d, ps)) (hw : ∀ n ∈ d.weights P es, n ≤ reachBytes) : ∃ x : Sy, SyAt W b o x ∧ SyF x := by
  obtain ⟨xs, n, _, hx, _, hn, hf⟩ := DataW.trod_struct T.ss h
  obtain ⟨-, -, -, o0, o1, -⟩ := T.o
  obtain ⟨-, -, -, k0, k1, -⟩ := T.c
  match cs, hl with
  | [v0, v1], _ =>
  match xs, hn with
  | [y0, y1], _ =>
  have q0 := hf 0 s0 rfl
  have q1 := hf 1 s1 rfl
  rw [o0, k0] at q0
  rw [o1, k1] at q1
  obtain ⟨n0, a0, _, w0⟩ := DataW.trod_int T.us.1 (show DataW.trod enc P W base (fun _ => true) held n s0.type [v0] = some y0 from q0)
  obtain ⟨n1, a1, _, w1⟩ := DataW.trod_int T.us.2 (show DataW.trod enc P W base (fun _ => true) held n s1.type [v1] = some y1 from q1)
  cases a0; cases a1
  exact ⟨⟨n0, n1⟩, ⟨hcs 0 (by omega), hcs 1 (by omega)⟩, w0, w1⟩
theorem readWn1 (T : ObTy P e es ew eb ts tw f0 f1 f2 s0 s1 g0 g1 g2 g3) (fuel b o : Nat) (cs : List Value) (d : DataW H) (ps : List MemPlace) (hcs : ∀ i, i < 4 → W.cell? ⟨b, o + i, none⟩ = cs[i]?) (hl : cs.length = 4)
    (h : DataW.trod enc P W base (fun _ => true) held fuel ew cs = some (d, ps)) (hw : ∀ n ∈ d.weights P ew, n ≤ reachBytes) : ∃ x : Wn, WnAt W b o x ∧ WnF x := by
  obtain ⟨xs, n, _, hx, _, hn, hf⟩ := DataW.trod_struct T.sw h
  obtain ⟨-, -, -, -, -, o0, o1, o2, o3⟩ := T.o
  obtain ⟨-, -, -, -, -, k0, k1, k2, k3⟩ := T.c
  match cs, hl with
  | [v0, v1, v2, v3], _ =>
  match xs, hn with
  | [y0, y1, y2, y3], _ =>
  have q0 := hf 0 g0 rfl
  have q1 := hf 1 g1 rfl
  have q2 := hf 2 g2 rfl
  have q3 := hf 3 g3 rfl
  rw [o0, k0] at q0
  rw [o1, k1] at q1
  rw [o2, k2] at q2
  rw [o3, k3] at q3
  obtain ⟨n0, a0, _, w0⟩ := DataW.trod_int T.uw.1 (show DataW.trod enc P W base (fun _ => true) held n g0.type [v0] = some y0 from q0)
  obtain ⟨n1, a1, _, w1⟩ := DataW.trod_int T.uw.2.1 (show DataW.trod enc P W base (fun _ => true) held n g1.type [v1] = some y1 from q1)
  obtain ⟨n2, a2, _, w2⟩ := DataW.trod_int T.uw.2.2.1 (show DataW.trod enc P W base (fun _ => true) held n g2.type [v2] = some y2 from q2)
  obtain ⟨n3, a3, _, w3⟩ := DataW.trod_int T.uw.2.2.2 (show DataW.trod enc P W base (fun _ => true) held n g3.type [v3] = some y3 from q3)
  cases a0; cases a1; cases a2; cases a3
  exact ⟨⟨n0, n1, n2, n3⟩, ⟨hcs 0 (by omega), hcs 1 (by omega), hcs 2 (by omega), hcs 3 (by omega)⟩, w0, w1, w2, w3⟩
theorem readOb3 (T : ObTy P e es ew eb ts tw f0 f1 f2 s0 s1 g0 g1 g2 g3) {fuel : Nat} {v0 v1 v2 : Value} {d : DataW H} {ps : List MemPlace}
    (h : DataW.trod enc P W base (fun _ => true) held fuel e [v0, v1, v2] = some (d, ps)) (hw : ∀ n ∈ d.weights P e, n ≤ reachBytes) : ∃ x : Ob, Ob3 W v0 v1 v2 x ∧ ObF x := by
  obtain ⟨xs, n, _, hx, _, hn, hf⟩ := DataW.trod_struct T.st h
  obtain ⟨o0, o1, o2, -⟩ := T.o
  obtain ⟨k0, k1, k2, -⟩ := T.c
  obtain ⟨-, zs, zw, zb⟩ := T.z
  obtain ⟨bb, bs, bw, -⟩ := T.b
  simp only [Prod.mk.injEq] at hx
  match xs, hn with
  | [y0, y1, y2], _ =>
  have q0 := hf 0 f0 rfl
  have q1 := hf 1 f1 rfl
  have q2 := hf 2 f2 rfl
  rw [o0, k0] at q0
  rw [o1, k1] at q1
  rw [o2, k2] at q2
  obtain ⟨d0, p0⟩ := y0
  obtain ⟨d1, p1⟩ := y1
  obtain ⟨d2, p2⟩ := y2
  obtain ⟨u0, l0, a0, hz0, wz0⟩ := readI T.u0 T.ub zb bb (show DataW.trod enc P W base (fun _ => true) held n f0.type [v0] = some (d0, p0) from q0) (fun m hm => by
    refine hw m ?_
    rw [hx.1]
    exact weights_mem T.st (i := 0) (f := f0) rfl rfl hm)
  obtain ⟨u1, l1, a1, hz1, wz1⟩ := readSlc (R := SyAt W) (F := SyF) T.u1 zs (by omega) bs (readSy1 T) (show DataW.trod enc P W base (fun _ => true) held n f1.type [v1] = some (d1, p1) from q1) (fun m hm => by
    refine hw m ?_
    rw [hx.1]
    exact weights_mem T.st (i := 1) (f := f1) rfl rfl hm)
  obtain ⟨u2, l2, a2, hz2, wz2⟩ := readSlc (R := WnAt W) (F := WnF) T.u2 zw (by omega) bw (readWn1 T) (show DataW.trod enc P W base (fun _ => true) held n f2.type [v2] = some (d2, p2) from q2) (fun m hm => by
    refine hw m ?_
    rw [hx.1]
    exact weights_mem T.st (i := 2) (f := f2) rfl rfl hm)
  cases a0; cases a1; cases a2
  exact ⟨⟨l0, l1, l2⟩, ⟨hz0, hz1, hz2⟩, wz0, wz1, wz2⟩
theorem readOb1 (T : ObTy P e es ew eb ts tw f0 f1 f2 s0 s1 g0 g1 g2 g3) (fuel b o : Nat) (cs : List Value) (d : DataW H) (ps : List MemPlace) (hcs : ∀ i, i < 3 → W.cell? ⟨b, o + i, none⟩ = cs[i]?) (hl : cs.length = 3)
    (h : DataW.trod enc P W base (fun _ => true) held fuel e cs = some (d, ps)) (hw : ∀ n ∈ d.weights P e, n ≤ reachBytes) : ∃ x : Ob, ObAt W b o x ∧ ObF x := by
  match cs, hl with
  | [v0, v1, v2], _ =>
  obtain ⟨x, h1, h2⟩ := readOb3 T h hw
  exact ⟨x, ⟨v0, v1, v2, hcs 0 (by omega), hcs 1 (by omega), hcs 2 (by omega), h1⟩, h2⟩
theorem readObs {t : TypeId} (ht : P.underlying t = some (.slice e)) (T : ObTy P e es ew eb ts tw f0 f1 f2 s0 s1 g0 g1 g2 g3) {fuel : Nat} {cs : List Value} {d : DataW H} {ps : List MemPlace}
    (h : DataW.trod enc P W base (fun _ => true) held fuel t cs = some (d, ps)) (hw : ∀ n ∈ d.weights P t, n ≤ reachBytes) : ∃ v l, cs = [v] ∧ Obs W v l ∧ ∀ x ∈ l, ObF x :=
  readSlc (R := ObAt W) (F := ObF) ht T.z.1 (by omega) T.b.2.2.2 (readOb1 T) h hw
end
end Go.Proofs.YtaegpeofecdhfaaGreat
namespace Go.Proofs.YtaegpeofecdhfaaGreat
open Go.RowKit
set_option linter.unusedVariables false
set_option linter.unusedSimpArgs false
def num32 (n : Int) : Bool := decide (-2147483648 ≤ n) && decide (n ≤ 2147483647)
def wantB (x : Wn) (size : Int) : Bool := decide (0 ≤ x.a) && decide (x.a ≤ size - 4) && (x.k == 0 || x.k == 1) && num32 x.n && num32 x.p
def symX (size : Int) (s : Sy) : Bool := !num32 s.n || decide (s.a < 0) || decide (size < s.a)
def nearP (x y : Wn) : Bool := decide (x.a < wrap64 (y.a + 4)) && decide (y.a < wrap64 (x.a + 4))
def wantsX (near : Wn → Wn → Bool) (size : Int) (t : List Wn) (n : Nat) : Bool := (List.range n).any fun i => !wantB (t.getD i default) size || (t.take i).any (near (t.getD i default))
def twiceX (s : List Sy) (n : Nat) : Bool := (List.range n).any fun i => (s.take i).any fun u => (s.getD i default).n == u.n
def valW (near : Wn → Wn → Bool) (o : Ob) : Int :=
  if 8192 < o.b.length ∨ 64 < o.s.length ∨ 64 < o.t.length then 3
  else if o.s.any (symX o.b.length) then 1
  else if wantsX near o.b.length o.t o.t.length then 1
  else if twiceX o.s o.s.length then 7 else 0
def valO (o : Ob) : Int := valW nearP o
theorem any_range_succ (n : Nat) (f : Nat → Bool) : (List.range (n + 1)).any f = ((List.range n).any f || f n) := by
  rw [List.range_succ, List.any_append]; simp
theorem wantB_bd {x : Wn} {z : Int} (h : wantB x z = true) : 0 ≤ x.a ∧ x.a ≤ z - 4 ∧ (x.k = 0 ∨ x.k = 1) ∧ (-2147483648 ≤ x.n ∧ x.n ≤ 2147483647) ∧ -2147483648 ≤ x.p ∧ x.p ≤ 2147483647 := by
  simp only [wantB, num32, Bool.and_eq_true, Bool.or_eq_true, decide_eq_true_eq, beq_iff_eq] at h
  omega
theorem wantsX_ok {near : Wn → Wn → Bool} {z : Int} {t : List Wn} {n : Nat} (h : wantsX near z t n = false) (hn : n ≤ t.length) : ∀ y ∈ t.take n, wantB y z = true := by
  intro y hy
  obtain ⟨i, hi, rfl⟩ := List.getElem_of_mem hy
  rw [List.length_take] at hi
  have h1 := List.any_eq_false.1 h i (List.mem_range.2 (by omega))
  simp only [Bool.or_eq_true, not_or, Bool.not_eq_true, Bool.not_eq_eq_eq_not] at h1
  have h2 := h1.1
  rw [List.getD_eq_getElem?_getD, List.getElem?_eq_getElem (by omega)] at h2
  simp at h2
  simpa using h2
end Go.Proofs.YtaegpeofecdhfaaGreat
