/- Memory that holds maps: a map's block as the walk's rules see it; a store and a look-up whose key is decided. -/
import Derived.Test.YtdojafpjipcbjaaRows
import Derived.WalkKit
import Derived.WalkSpells
import Derived.WalkLawsBesides
import Derived.Laws.EntriesVeiled
import Derived.Lib.Hide
import Derived.OwnWalk
import Derived.Laws.OwnMore
import Derived.Deep.Quiet
import Derived.StillTail
import Derived.BigQuiet
import Derived.Below
import Derived.Deep.QuietTactic
import Derived.Deep.RegionHeld3
import Derived.BigGuardPart
namespace Go.Proofs.Ytdojafpjipcbjaa
open Go.RowKit
def mapAt (w : World) (r : Nat) : Option (Array MapEntry × Nat) := match w.heap[r]? with | some (.map es c) => some (es, c) | _ => none
def setMap (w : World) (r : Nat) (es : Array MapEntry) (c : Nat) : World := { w with heap := w.heap.setIfInBounds r (.map es c) }
theorem mapAt_alloc_at (w : World) (es : Array MapEntry) (c n : Nat) (hn : n = w.heap.size) : mapAt (w.alloc (.map es c)) n = some (es, c) := by
  subst hn
  unfold mapAt
  rw [show (w.alloc (.map es c)).heap[w.heap.size]? = some (.map es c) from Array.getElem?_push_size]
theorem mapAt_alloc_past (w : World) (o : Obj) (n : Nat) (hn : n < w.heap.size) : mapAt (w.alloc o) n = mapAt w n := by
  unfold mapAt; rw [Below.heap_alloc w o n hn]
theorem mapAt_drew (w : World) (n : Nat) : mapAt w.drew n = mapAt w n := rfl
theorem mapAt_drewN (w : World) (n k : Nat) : mapAt (w.drewN k) n = mapAt w n := rfl
theorem setMap_alloc_at (w : World) (es es' : Array MapEntry) (c c' n : Nat) (hn : n = w.heap.size) : setMap (w.alloc (.map es c)) n es' c' = w.alloc (.map es' c') := by
  subst hn
  have h : (w.heap.push (.map es c)).setIfInBounds w.heap.size (.map es' c') = w.heap.push (.map es' c') := by
    apply Array.ext_getElem?
    intro i
    rw [Array.getElem?_setIfInBounds, Array.getElem?_push, Array.getElem?_push]
    by_cases hi : i = w.heap.size
    · subst hi; simp
    · rw [if_neg (fun e => hi e.symm), if_neg hi, if_neg hi]
  exact congrArg (fun x => { w with heap := x }) h
theorem setMap_alloc_past (w : World) (o : Obj) (n : Nat) (es : Array MapEntry) (c : Nat) (hn : n < w.heap.size) : setMap (w.alloc o) n es c = (setMap w n es c).alloc o := by
  have h : (w.heap.push o).setIfInBounds n (.map es c) = (w.heap.setIfInBounds n (.map es c)).push o := by
    apply Array.ext_getElem?
    intro i
    rw [Array.getElem?_setIfInBounds, Array.getElem?_push, Array.getElem?_push, Array.getElem?_setIfInBounds, Array.size_push, Array.size_setIfInBounds]
    by_cases hi : i = w.heap.size
    · subst hi; rw [if_neg (by omega), if_pos rfl, if_pos rfl]
    · rw [if_neg hi, if_neg hi]
      by_cases h2 : n = i
      · rw [if_pos h2, if_pos h2, if_pos (by omega), if_pos hn]
      · rw [if_neg h2, if_neg h2]
  exact congrArg (fun x => { w with heap := x }) h
theorem size_setMap (w : World) (n : Nat) (es : Array MapEntry) (c : Nat) : (setMap w n es c).heap.size = w.heap.size := by simp [setMap]
attribute [go_sem] mapAt_alloc_at mapAt_alloc_past mapAt_drew mapAt_drewN setMap_alloc_at setMap_alloc_past size_setMap
theorem findNow_nil (k : TypeDesc) (v : Value) (i : Nat) : Instr.findNow k v [] i = some none := rfl
theorem findNow_int (kk : IntKind) (n m : Int) (v : Value) (b : Nat) (es : List MapEntry) (i : Nat) :
    Instr.findNow (.int kk) (.int kk n) (⟨.int kk m, v, b⟩ :: es) i = if n = m then some (some (i, v)) else Instr.findNow (.int kk) (.int kk n) es (i + 1) := by
  by_cases h : n = m
  · subst h; simp [Instr.findNow, Instr.sameNow]
  · have : (n == m) = false := by simpa using h
    simp [Instr.findNow, Instr.sameNow, h, this]
attribute [go_sem] findNow_nil findNow_int
/-- From w to w' only block b has been written, and blocks have been made. -/
def Only (b : Nat) (w w' : World) : Prop := w.heap.size ≤ w'.heap.size ∧ ∀ k, k < w.heap.size → k ≠ b → w'.heap[k]? = w.heap[k]?
theorem Only.refl (b : Nat) (w : World) : Only b w w := ⟨Nat.le_refl _, fun _ _ _ => rfl⟩
theorem Only.alloc {b : Nat} {w w' : World} (h : Only b w w') (o : Obj) : Only b w (w'.alloc o) :=
  ⟨Nat.le_trans h.1 (by simp), fun k h1 h2 => (Below.heap_alloc w' o k (Nat.lt_of_lt_of_le h1 h.1)).trans (h.2 k h1 h2)⟩
theorem Only.setCell {b : Nat} {w w' : World} (h : Only b w w') {a : Addr} (ha : a.block = b) (v : Value) : Only b w (w'.setCell a v) :=
  ⟨Nat.le_trans h.1 (by simp [World.setCell]), fun k h1 h2 => (Below.heap_setCell w' a v k (by rw [ha]; exact h2)).trans (h.2 k h1 h2)⟩
theorem Only.at {b : Nat} {w w' : World} (h : Only b w w') (o : Nat) (v : Value) : Only b w (w'.setCell ⟨b, o, none⟩ v) := h.setCell rfl v
theorem below_at {B b : Nat} {w w' : World} (h : Below B w w') (hb : B ≤ b) (o : Nat) (v : Value) : Below B w (w'.setCell ⟨b, o, none⟩ v) := Below.setCell h hb v
theorem below_drewN {B : Nat} {w w' : World} (h : Below B w w') (n : Nat) : Below B w (w'.drewN n) := h.trans ⟨rfl, rfl, rfl, Nat.le_refl _, fun _ _ => rfl⟩
theorem Only.drew {b : Nat} {w w' : World} (h : Only b w w') : Only b w w'.drew := h
theorem Only.drewN {b : Nat} {w w' : World} (h : Only b w w') (n : Nat) : Only b w (w'.drewN n) := h
theorem Only.cell {b : Nat} {w w' : World} (h : Only b w w') {k o : Nat} (hk : k < w.heap.size) (hb : k ≠ b) : w'.cell? ⟨k, o, none⟩ = w.cell? ⟨k, o, none⟩ := by
  unfold World.cell?; rw [h.2 k hk hb]
theorem bcell {W w1 : World} (hb : Below W.heap.size W w1) : (∀ b o, b < W.heap.size → w1.cell? ⟨b, o, none⟩ = W.cell? ⟨b, o, none⟩) ∧ (∀ b o, b < W.heap.size → w1.frozen? ⟨b, o, none⟩ = W.frozen? ⟨b, o, none⟩) :=
  ⟨fun b o h => hb.cell (p := ⟨b, o, none⟩) h, fun b o h => hb.frozen (p := ⟨b, o, none⟩) h⟩
/-- A box that the call has made is what it was, behind a call that leaves what it found. -/
theorem box_kept {w w1 : World} {cs : Array Value} {T : TypeId} (hb : Below (w.alloc (.cells cs T)).heap.size (w.alloc (.cells cs T)) w1) (i : Nat) : w1.cell? ⟨w.heap.size, i, none⟩ = cs[i]? := by
  rw [(bcell hb).1 _ _ (by simp)]; simp [go_sem]
theorem below_box {w w1 : World} {o : Obj} (hb : Below (w.alloc o).heap.size (w.alloc o) w1) : Below w.heap.size w w1 := ((Below.refl _ _).alloc (Nat.le_refl _) _).trans (hb.mono (by simp))
theorem below_next {B : Nat} {w w1 w2 : World} (h1 : Below B w w1) (hB : B ≤ w1.heap.size) (h2 : Below w1.heap.size w1 w2) : Below B w w2 := h1.trans (h2.mono hB)
theorem below_hop {w w1 w2 : World} (h1 : Below w.heap.size w w1) (h2 : Below w1.heap.size w1 w2) : Below w.heap.size w w2 := below_next h1 h1.size h2
end Go.Proofs.Ytdojafpjipcbjaa
namespace Go.Proofs.Ytdojafpjipcbjaa
open Go.RowKit
set_option linter.unusedVariables false
set_option linter.unusedSimpArgs false
/-- The slice v of w has n places of size z, and what stands in the i-th one is told by C. -/
def Slc (w : World) (v : Value) (n z : Nat) (C : Nat → Nat → Nat → Prop) : Prop :=
  ∃ (a : Option Addr) (c : Nat), v = .slice a n c ∧ n ≤ c ∧ (n ≤ 140737488351232 ∧ c ≤ 9223372036854775807) ∧ (a = none → c = 0) ∧ ∀ i, i < n → ∃ b o, a = some ⟨b, o, none⟩ ∧ b < w.heap.size ∧ C i b (o + i * z)
/-- The slice v of w holds the integers xs of the kind k. -/
def Ints (k : IntKind) (w : World) (v : Value) (xs : List Int) : Prop := Slc w v xs.length 1 fun i b o => w.cell? ⟨b, o, none⟩ = some (.int k (xs.getD i 0))
/-- A node of a term. -/
structure Nd where
  op : Int
  width : Int
  flags : Int
  args : List Int
  imm : Int
  deriving Inhabited
/-- The cells behind the place o of block b hold the node x. -/
def NdAt (w : World) (b o : Nat) (x : Nd) : Prop :=
  w.cell? ⟨b, o, none⟩ = some (.int .i64 x.op) ∧ w.cell? ⟨b, o + 1, none⟩ = some (.int .i64 x.width) ∧ w.cell? ⟨b, o + 2, none⟩ = some (.int .i64 x.flags) ∧
  (∃ v, w.cell? ⟨b, o + 3, none⟩ = some v ∧ Ints .i64 w v x.args) ∧ w.cell? ⟨b, o + 4, none⟩ = some (.int .u32 x.imm)
/-- The slice v of w holds the nodes ts. -/
def Nds (w : World) (v : Value) (ts : List Nd) : Prop := Slc w v ts.length 5 fun i b o => NdAt w b o (ts.getD i default)
theorem below_cell {B : Nat} {w w' : World} (h : Below B w w') {b o : Nat} {v : Value} (hb : b < B) (hc : w.cell? ⟨b, o, none⟩ = some v) : w'.cell? ⟨b, o, none⟩ = some v := by
  rw [← hc]; exact h.cell (p := ⟨b, o, none⟩) hb
theorem cell_lt {w : World} {b o : Nat} {v : Value} (h : w.cell? ⟨b, o, none⟩ = some v) : b < w.heap.size := by
  unfold World.cell? at h
  by_cases hb : b < w.heap.size
  · exact hb
  · simp [Array.getElem?_eq_none (Nat.le_of_not_lt hb)] at h
theorem Slc.stays {w w' : World} {v : Value} {n z : Nat} {C C' : Nat → Nat → Nat → Prop} (h : Slc w v n z C) (hb : Below w.heap.size w w') (hC : ∀ i b o, b < w.heap.size → C i b o → C' i b o) : Slc w' v n z C' := by
  obtain ⟨a, c, e, h1, h2, h3, h4⟩ := h
  refine ⟨a, c, e, h1, h2, h3, fun i hi => ?_⟩
  obtain ⟨b, o, e1, e2, e3⟩ := h4 i hi
  exact ⟨b, o, e1, Nat.lt_of_lt_of_le e2 hb.size, hC i b _ e2 e3⟩
theorem Ints.stays {k : IntKind} {w w' : World} {v : Value} {xs : List Int} (h : Ints k w v xs) (hb : Below w.heap.size w w') : Ints k w' v xs :=
  Slc.stays h hb fun _ _ _ hlt hc => below_cell hb hlt hc
theorem NdAt.stays {w w' : World} {b o : Nat} {x : Nd} (h : NdAt w b o x) (hlt : b < w.heap.size) (hb : Below w.heap.size w w') : NdAt w' b o x := by
  obtain ⟨h1, h2, h3, ⟨v, h4, h5⟩, h6⟩ := h
  exact ⟨below_cell hb hlt h1, below_cell hb hlt h2, below_cell hb hlt h3, ⟨v, below_cell hb hlt h4, h5.stays hb⟩, below_cell hb hlt h6⟩
theorem Nds.stays {w w' : World} {v : Value} {ts : List Nd} (h : Nds w v ts) (hb : Below w.heap.size w w') : Nds w' v ts :=
  Slc.stays h hb fun _ _ _ hlt hc => hc.stays hlt hb
/-- The slice v, made by the call (its blocks from base on), holds the integers xs. -/
def RowI (w : World) (base : Nat) (e : TypeId) (k : IntKind) (v : Value) (xs : List Int) : Prop := w.ownsRow base e 1 v xs.length (xs.map (Value.int k))
theorem RowI.ints {w : World} {base : Nat} {e : TypeId} {k : IntKind} {v : Value} {xs : List Int} (h : RowI w base e k v xs) (hl : xs.length ≤ 140737488351232) : Ints k w v xs := by
  obtain ⟨_, ⟨rfl, h0⟩ | ⟨g, cap, cur, rfl, hb, hg, h1, h2, h3, h4⟩⟩ := h
  · exact ⟨none, 0, by rw [h0], by omega, by omega, fun _ => rfl, fun i hi => absurd hi (by omega)⟩
  · refine ⟨some ⟨g, 0, none⟩, cap, rfl, h1, ⟨hl, by unfold maxLen at h2; omega⟩, (fun hh => by cases hh), fun i hi => ⟨g, 0, rfl, ?_, ?_⟩⟩
    · rcases Nat.lt_or_ge g w.heap.size with h | h
      · exact h
      · rw [Array.getElem?_eq_none h] at hg; cases hg
    · rw [Nat.mul_one, Nat.zero_add]
      have e1 : w.cell? ⟨g, i, none⟩ = cur.toList[i]? := by simp [World.cell?, hg]
      have e2 : (cur.toList.take (xs.length * 1))[i]? = cur.toList[i]? := by rw [List.getElem?_take, if_pos (by omega)]
      show w.cell? ⟨g, i, none⟩ = _
      rw [e1, ← e2, h4, List.getElem?_map, List.getElem?_eq_getElem hi, List.getD_eq_getElem?_getD, List.getElem?_eq_getElem hi]
      rfl
theorem RowI.nil (w : World) (base : Nat) (e : TypeId) (k : IntKind) : RowI w base e k (.slice none 0 0) [] := World.ownsRow_nil w base e 1
/-- A row behind calls and new blocks that leave what lay there. -/
theorem RowI.below {w w' : World} {base : Nat} {e : TypeId} {k : IntKind} {v : Value} {xs : List Int} (h : RowI w base e k v xs) (hb : Below w.heap.size w w') : RowI w' base e k v xs := by
  obtain ⟨h0, ⟨rfl, h1⟩ | ⟨g, cap, cur, rfl, hb', hg, h1, h2, h3, h4⟩⟩ := h
  · exact ⟨h0, .inl ⟨rfl, h1⟩⟩
  · refine ⟨h0, .inr ⟨g, cap, cur, rfl, hb', ?_, h1, h2, h3, h4⟩⟩
    have hlt : g < w.heap.size := by
      rcases Nat.lt_or_ge g w.heap.size with h | h
      · exact h
      · rw [Array.getElem?_eq_none h] at hg; cases hg
    rw [← hg]
    exact hb.block g hlt
theorem RowI.shape {w : World} {base : Nat} {e : TypeId} {k : IntKind} {v : Value} {xs : List Int} (h : RowI w base e k v xs) : ∃ a c, v = .slice a xs.length c := by
  obtain ⟨_, ⟨rfl, h1⟩ | ⟨g, cap, cur, rfl, _⟩⟩ := h
  · exact ⟨none, 0, by rw [h1]⟩
  · exact ⟨_, _, rfl⟩
/-- Behind an append. -/
theorem RowI.app {w : World} {base : Nat} {e : TypeId} {k : IntKind} {v : Value} {xs ys zs : List Int} {n : Nat} (h : w.ownsRow base e 1 v n (xs.map (Value.int k) ++ ys.map (Value.int k))) (hn : n = xs.length + ys.length) (hz : zs = xs ++ ys) : RowI w base e k v zs := by
  subst hz; subst hn
  unfold RowI
  rw [List.length_append, List.map_append]
  exact h
theorem RowI.app1 {w : World} {base : Nat} {e : TypeId} {k : IntKind} {v : Value} {l zs : List Int} {y : Int} {j : Nat} (h : w.ownsRow base e 1 v (j + 1) (l.map (Value.int k) ++ [.int k y])) (hl : l.length = j) (hz : zs = l ++ [y]) : RowI w base e k v zs :=
  RowI.app (ys := [y]) h (by rw [hl]; rfl) hz
theorem own_ge {w : World} {base : Nat} {e : TypeId} {size : Nat} {v : Value} {n : Nat} {xs : List Value} (h : w.ownsRow base e size v n xs) : ∀ k, v.ownBlock = some k → base ≤ k := fun k hk => (h.lt k hk).1
end Go.Proofs.Ytdojafpjipcbjaa
namespace Go.Proofs.Ytdojafpjipcbjaa
set_option linter.unusedVariables false
set_option linter.unusedSimpArgs false
/-- A world of the class C. -/
structure In (C : World → Prop) where
  w : World
  h : C w
section
variable {P : Program} {ops : Array Oper} {md : Region.Mode} {C : World → Prop}
/-- The head's operations are quiet in the class, whichever comes up; behind the head: L. -/
def calmHead (P : Program) (md : Region.Mode) (ops : Array Oper) (C : World → Prop) (n : Nat) (L : Array Bool → Act → Prop) : Nat → Array Bool → Act → Prop
  | 0, s, a => L s a
  | f + 1, s, a => Region.ready md ops s ≠ [] ∧ ∀ i ∈ Region.ready md ops s, i < n ∧ qOp P ops C i (calmHead P md ops C n L f (s.setIfInBounds i true)) a
theorem calm_any {n g : Nat} {L : Array Bool → Act → Prop} {Q : Exit → Act → World → Prop} (hL : ∀ s a w, C w → L s a → wpAny P md ops Q g s a w) (f : Nat) :
    ∀ (s : Array Bool) (a : Act) (w : World), C w → calmHead P md ops C n L f s a → wpAny P md ops Q (f + g) s a w := by
  induction f with
  | zero => intro s a w hw h; rw [Nat.zero_add]; exact hL s a w hw h
  | succ f ih =>
    intro s a w hw h
    rw [show f + 1 + g = (f + g) + 1 by omega]
    exact ⟨fun h0 => absurd h0 h.1, fun i hi => wpOp_of_qOp hw (fun a' w' hw' h' => ih _ a' w' hw' h') (h.2 i hi).2⟩
theorem calm_first {n i : Nat} {oi : Oper} {v : Value} {L : Array Bool → Act → Prop} (hi : ops[i]? = some oi) (hsel : ∀ (j : Nat) (o : Oper) cs b, ops[j]? = some o → o.op ≠ .select cs b)
    (hs : Region.sinkB md ops n = true) (hc : Region.chainB md ops n = true) (hn : n < ops.size) (hin : i < n)
    (hdone : ∀ s a, L s a → ∀ j ∈ Region.ready md ops s, n ≤ j) (f : Nat) :
    ∀ (s : Array Bool) (a : Act), HeadInv md ops n s →
      (∀ j oj, ops[j]? = some oj → j ≠ i → s.getD j true = false → (∀ e ∈ oj.after, Region.binds md e = true → e.on ≠ i) → oi.apart ops oj = true) →
      i ∈ Region.ready md ops s → YieldsIn P ops C oi v a →
      calmHead P md ops C n L f (s.setIfInBounds i true) (a.put oi.dst v) → calmHead P md ops C n L (f + 1) s a := by
  have low : ∀ s : Array Bool, HeadInv md ops n s → i ∈ Region.ready md ops s → ∀ j ∈ Region.ready md ops s, j < n := fun s inv hr j hj => by
    rcases Nat.lt_or_ge j n with h | h
    · exact h
    · exact absurd hj (tail_waits hs hc hn inv _ i rfl hin (mem_ready.1 hr).1 j h)
  induction f with
  | zero =>
    intro s a inv _ hr hy H
    refine ⟨List.ne_nil_of_mem hr, fun j hj => ⟨low s inv hr j hj, ?_⟩⟩
    by_cases hji : j = i
    · subst hji; exact hy.qOp hi H
    · have h1 := hdone _ _ H j (ready_mono hj hji)
      have h2 := low s inv hr j hj
      omega
  | succ f ih =>
    intro s a inv hfree hr hy H
    refine ⟨List.ne_nil_of_mem hr, fun j hj => ⟨low s inv hr j hj, ?_⟩⟩
    by_cases hji : j = i
    · subst hji; exact hy.qOp hi H
    · have h1 := (H.2 j (ready_mono hj hji)).2
      obtain ⟨hjun, oj, hoj, hall⟩ := mem_ready.1 hj
      have hnot : ∀ e ∈ oj.after, Region.binds md e = true → e.on ≠ i := fun e he hb heq => by
        have h1 := hall e he hb
        rw [heq, getD_both (mem_ready.1 hr).1] at h1
        cases h1
      have h2 := qOp_put hoj (hfree j oj hoj hji hjun hnot) (fun cs b => hsel i oi cs b hi) (fun cs b => hsel j oj cs b hoj) hy h1
      refine qOp_mono (fun a' h3 => ih (s.setIfInBounds j true) a' (inv.set hj (low s inv hr j hj)) (fun k ok hk hki hun hno => ?_) (ready_mono hr (Ne.symm hji)) h3.1 ?_) h2
      · refine hfree k ok hk hki ?_ hno
        by_cases hjk : j = k
        · subst hjk; exact hjun
        · rw [getD_set_ne true hjk] at hun; exact hun
      · rw [Array.setIfInBounds_comm _ _ hji]
        exact h3.2
theorem calm_lex {n g : Nat} {Lq : Act → Prop} (hsel : Region.noSelect ops = true) (hs : Region.sinkB md ops n = true) (hc : Region.chainB md ops n = true) (hn : n < ops.size) (l : List Oper) :
    ∀ (k : Nat) (s : Array Bool) (a : Act), (∀ j, j < l.length → l[j]? = ops[k + j]?) → k + l.length = n → HeadInv md ops n s →
    Region.lexHead md ops g l.length k s = true → wpQuiet P ops C Lq l a →
    calmHead P md ops C n (fun s' a' => Region.seqB md ops g n s' = true ∧ Lq a') l.length s a := by
  induction l with
  | nil =>
    intro k s a _ hk _ hB h
    obtain rfl : k = n := by simpa using hk
    exact ⟨by simpa [Region.lexHead] using hB, h⟩
  | cons o l ih =>
    intro k s a hl hk inv hB h
    have h0 : ops[k]? = some o := by simpa using (hl 0 (by simp)).symm
    simp only [List.length_cons] at hk
    simp only [List.length_cons, Region.lexHead, Bool.and_eq_true] at hB
    obtain ⟨⟨hr, hf⟩, hB'⟩ := hB
    have hr' : k ∈ Region.ready md ops s := by simpa using hr
    have hq : qOp P ops C k (wpQuiet P ops C Lq l) a := by unfold qOp; simp only [h0]; exact h
    obtain ⟨v, hy, hK⟩ := yieldsIn_of_qOp h0 hq
    refine calm_first h0 (Region.noSelect_spec hsel) hs hc hn (by omega) (fun s' a' hL => seqB_ready hL.1) l.length s a inv (Region.free_spec h0 hf) hr' hy ?_
    exact ih (k + 1) _ _ (fun j hj => by have := hl (j + 1) (by simp; omega); simpa [Nat.add_assoc, Nat.add_comm 1 j] using this) (by omega) (inv.set hr' (by omega)) hB' hK
end
section
variable {P : Program} {C : World → Prop} {id : Nat} {Q : Exit → Act → World → Prop} {a : Act} {w : World} {l : List Oper}
/-- A region that only reads and calls, every call leaving a world of the class C. -/
theorem region_calm (C : World → Prop) (hm : P.follows .mixedOrders = true) (hB : Region.lexB .any l.toArray = true) (hC : C w.drew)
    (h : wpQuiet P l.toArray (fun w' => ∃ s : In C, w' = s.w) (fun a' => ∀ w', C w' → Q .normal a' w') l a) : (Code.region id l.toArray true).wp P Q a w := by
  refine wp_region_quiet (C := fun w' => ∃ s : In C, w' = s.w) hm hB ⟨⟨_, hC⟩, rfl⟩ ?_
  have e : (fun a' => ∀ w', (∃ s : In C, w' = s.w) → Q .normal a' w') = fun a' => ∀ w', C w' → Q .normal a' w' := by
    funext a'
    apply propext
    exact ⟨fun h w' hw => h w' ⟨⟨w', hw⟩, rfl⟩, fun h w' ⟨s, hs⟩ => by rw [hs]; exact h s.w s.h⟩
  rw [e]
  simpa using h
/-- The same with operations behind it that must come last, one by one; n: how many stand ahead of them. -/
theorem region_calm_tail (C : World → Prop) (n : Nat) (hm : P.follows .mixedOrders = true) (hB : Region.lexTailB .any l.toArray n = true) (hC : C w.drew)
    (h : wpQuiet P l.toArray (fun w' => ∃ s : In C, w' = s.w) (fun a' => ∀ w', C w' → wpList P l.toArray Q (l.drop n) a' w') (l.take n) a) : (Code.region id l.toArray true).wp P Q a w := by
  simp only [Region.lexTailB, Bool.and_eq_true, decide_eq_true_eq] at hB
  obtain ⟨⟨⟨⟨hsel, hn⟩, hs⟩, hc⟩, hlex⟩ := hB
  have hn' : n < l.length := by simpa using hn
  have htl : (l.take n).length = n := by simp; omega
  have hdl : (l.drop n).length = l.toArray.size - n := by simp
  have inv0 : HeadInv .any l.toArray n (Array.replicate l.toArray.size false) :=
    ⟨by simp, fun j oj _ hl => (by rw [getD_replicate_false] at hl; cases hl), fun t _ ht => getD_in (by simpa using ht) (getD_replicate_false _ _)⟩
  have H := calm_lex (md := .any) (g := l.toArray.size - n) hsel hs hc hn (l.take n) 0 _ a (fun j hj => by
    have hj' : j < n := by rw [htl] at hj; exact hj
    simp [hj']) (by simpa using htl) inv0 (by rw [htl]; exact hlex) h
  have R := calm_any (Q := Q) (g := l.toArray.size - n) (fun s a' w' hw' hL => by
    obtain ⟨x, rfl⟩ := hw'
    have := wpAny_of_seq (md := .any) (Q' := Q) (l.drop n) n s a' x.w (fun j => by simp [List.getElem?_drop]) (by rw [hdl]; exact hL.1) (hL.2 x.w x.h)
    rwa [hdl] at this) _ _ _ w.drew ⟨⟨_, hC⟩, rfl⟩ H
  refine wp_region_any hm ?_
  rw [htl, show n + (l.toArray.size - n) = l.toArray.size by omega] at R
  exact R
end
/-- A call's contract, met in a world of the class. -/
theorem Calls.calm {P : Program} {C : World → Prop} {f : FuncId} {args : Array Value} {s : In C} {v : Value} {R : World → Prop} (h : Calls P f args s.w fun e w' => e = .returned v ∧ R w') (hR : ∀ w', R w' → C w') :
    Calls P f args s.w fun e w'' => e = .returned v ∧ ∃ t : In C, w'' = t.w :=
  h.mono fun _ w' ⟨he, hr⟩ => ⟨he, ⟨⟨w', hR w' hr⟩, rfl⟩⟩
end Go.Proofs.Ytdojafpjipcbjaa
namespace Go.Proofs.Ytdojafpjipcbjaa
open Go.RowKit
set_option linter.unusedVariables false
set_option linter.unusedSimpArgs false
theorem ret_i {k : IntKind} {a b : Int} (h : a = b) : Ending.returned (.int k a) = .returned (.int k b) := by rw [h]
theorem ret_b {a b : Bool} (h : a = b) : Ending.returned (.bool a) = .returned (.bool b) := by rw [h]
/-- Nothing but the count of draws has moved. -/
def Dr (w w' : World) : Prop := ∃ n, w' = w.drewN n
theorem Dr.refl (w : World) : Dr w w := ⟨0, rfl⟩
theorem Dr.drew {w w' : World} (h : Dr w w') (n : Nat) : Dr w (w'.drewN n) := by
  obtain ⟨m, rfl⟩ := h
  exact ⟨m + n, World.drewN_drewN _ _ _⟩
theorem Dr.below {w w' : World} (h : Dr w w') (B : Nat) : Below B w w' := by
  obtain ⟨n, rfl⟩ := h
  exact ⟨rfl, rfl, rfl, Nat.le_refl _, fun _ _ => rfl⟩
theorem Dr.trans {w w' w'' : World} (h : Dr w w') (h' : Dr w' w'') : Dr w w'' := by
  obtain ⟨m, rfl⟩ := h'
  exact h.drew m
theorem quiet_same {P : Program} {f : FuncId} {args : Array Value} {w : World} {n : Nat} {v : Value} (h : Calls P f args (w.drewN n) fun e w' => e = .returned v ∧ w.drewN n = w') :
    Calls P f args (w.drewN n) fun e w'' => e = .returned v ∧ ∃ m, w'' = w.drewN m := h.mono fun _ _ ⟨he, hm⟩ => ⟨he, n, hm.symm⟩
/-- What lay there in the world w0 lies there in w, as it was. -/
def Since (w0 w : World) : Prop := Below w0.heap.size w0 w
theorem Since.refl (w : World) : Since w w := Below.refl _ _
theorem Since.drewN {w0 w : World} (h : Since w0 w) (n : Nat) : Since w0 (w.drewN n) := below_drewN h n
theorem Since.drew {w0 w : World} (h : Since w0 w) : Since w0 w.drew := Below.drew h
theorem Since.dr {w0 w w' : World} (h : Since w0 w) (hd : Dr w w') : Since w0 w' := below_hop h (hd.below _)
theorem Since.next {w0 w w' : World} (h : Since w0 w) (hb : Below w.heap.size w w') : Since w0 w' := below_hop h hb
theorem Since.cell {w0 w : World} (h : Since w0 w) {b o : Nat} {v : Value} (hc : w0.cell? ⟨b, o, none⟩ = some v) : w.cell? ⟨b, o, none⟩ = some v := below_cell h (cell_lt hc) hc
theorem Since.free {w0 w : World} (h : Since w0 w) {b o : Nat} (hb : b < w0.heap.size) (hf : w0.frozen? ⟨b, o, none⟩ = false) : w.frozen? ⟨b, o, none⟩ = false := by rw [← hf]; exact Below.frozen (p := ⟨b, o, none⟩) h hb
theorem cell_alloc {w : World} {ob : Obj} {b o : Nat} {v : Value} (h : w.cell? ⟨b, o, none⟩ = some v) : (w.alloc ob).cell? ⟨b, o, none⟩ = some v := below_cell ((Below.refl _ _).alloc (Nat.le_refl _) _) (cell_lt h) h
theorem cell_store {w : World} {B j b o : Nat} {u v : Value} (h : w.cell? ⟨b, o, none⟩ = some v) (hne : ¬ (b = B ∧ o = j)) : (w.setCell ⟨B, j, none⟩ u).cell? ⟨b, o, none⟩ = some v := by
  rw [World.cell?_setCell_other _ _ _ _ (by intro e; cases e; exact hne ⟨rfl, rfl⟩)]; exact h
theorem getD_set_ne {l : List Int} {k j : Nat} {x : Int} (h : k ≠ j) : (l.set k x).getD j 0 = l.getD j 0 := by
  rw [List.getD_eq_getElem?_getD, List.getD_eq_getElem?_getD, List.getElem?_set_ne h]
theorem Ints.nil (k : IntKind) (w : World) : Ints k w (.slice none 0 0) [] := ⟨none, 0, rfl, Nat.le_refl _, ⟨by simp, by omega⟩, fun _ => rfl, fun i hi => absurd hi (by simp)⟩
theorem Ints.at {k : IntKind} {w : World} {v : Value} {xs : List Int} (h : Ints k w v xs) {j : Nat} (hj : j < xs.length) : ∃ b q c, v = .slice (some ⟨b, q, none⟩) xs.length c ∧ xs.length ≤ c ∧ b < w.heap.size ∧ w.cell? ⟨b, q + j, none⟩ = some (.int k (xs.getD j 0)) := by
  obtain ⟨a, c, rfl, h1, h2, _, h4⟩ := h
  obtain ⟨b, q, rfl, h5, h6⟩ := h4 j hj
  rw [Nat.mul_one] at h6
  exact ⟨b, q, c, rfl, h1, h5, h6⟩
theorem Ints.shape {k : IntKind} {w : World} {v : Value} {xs : List Int} (h : Ints k w v xs) : ∃ a c, v = .slice a xs.length c ∧ xs.length ≤ c ∧ xs.length ≤ 140737488351232 := by
  obtain ⟨a, c, rfl, h1, h2, _⟩ := h
  exact ⟨a, c, rfl, h1, h2.1⟩
/-- All cells of a slice that is not empty. -/
theorem Ints.row {k : IntKind} {w : World} {a : Option Addr} {n c : Nat} {xs : List Int} (h : Ints k w (.slice a n c) xs) (h0 : 0 < xs.length) : ∃ b o, a = some ⟨b, o, none⟩ ∧ b < w.heap.size ∧ ∀ i, i < xs.length → w.cell? ⟨b, o + i, none⟩ = some (.int k (xs.getD i 0)) := by
  obtain ⟨a', c', e, _, _, _, hc⟩ := h
  cases e
  obtain ⟨b, o, rfl, hb, _⟩ := hc 0 h0
  refine ⟨b, o, rfl, hb, fun i hi => ?_⟩
  obtain ⟨b', o', e2, _, hd⟩ := hc i hi
  cases e2
  rw [Nat.mul_one] at hd
  exact hd
/-- Block B of w holds the integers xs, and may be written. -/
def OInts (k : IntKind) (w : World) (B : Nat) (xs : List Int) : Prop :=
  B < w.heap.size ∧ ∀ i, i < xs.length → w.cell? ⟨B, i, none⟩ = some (.int k (xs.getD i 0)) ∧ w.frozen? ⟨B, i, none⟩ = false
theorem OInts.cell {k : IntKind} {w : World} {B : Nat} {xs : List Int} (h : OInts k w B xs) {i : Nat} (hi : i < xs.length) : w.cell? ⟨B, i, none⟩ = some (.int k (xs.getD i 0)) := (h.2 i hi).1
theorem OInts.free {k : IntKind} {w : World} {B : Nat} {xs : List Int} (h : OInts k w B xs) {i : Nat} (hi : i < xs.length) : w.frozen? ⟨B, i, none⟩ = false := (h.2 i hi).2
theorem OInts.below {k : IntKind} {w w' : World} {B : Nat} {xs : List Int} (h : OInts k w B xs) (hb : Below w.heap.size w w') : OInts k w' B xs :=
  ⟨Nat.lt_of_lt_of_le h.1 hb.size, fun i hi => ⟨by rw [← h.cell hi]; exact hb.cell (p := ⟨B, i, none⟩) h.1, by rw [← h.free hi]; exact hb.frozen (p := ⟨B, i, none⟩) h.1⟩⟩
theorem OInts.alloc {k : IntKind} {w : World} {B : Nat} {xs : List Int} (h : OInts k w B xs) (ob : Obj) : OInts k (w.alloc ob) B xs := h.below ((Below.refl _ _).alloc (Nat.le_refl _) _)
theorem OInts.drewN {k : IntKind} {w : World} {B : Nat} {xs : List Int} (h : OInts k w B xs) (n : Nat) : OInts k (w.drewN n) B xs := h
theorem OInts.set {k : IntKind} {w : World} {B : Nat} {xs : List Int} (h : OInts k w B xs) {i : Nat} (hi : i < xs.length) (x : Int) : OInts k (w.setCell ⟨B, i, none⟩ (.int k x)) B (xs.set i x) := by
  refine ⟨by simpa using h.1, fun j hj => ?_⟩
  rw [List.length_set] at hj
  refine ⟨?_, by rw [World.frozen?_setCell]; exact h.free hj⟩
  by_cases e : i = j
  · subst e
    rw [World.cell?_setCell_same _ _ _ (h.cell hi), List.getD_eq_getElem?_getD, List.getElem?_set_self hi]; rfl
  · rw [World.cell?_setCell_other _ _ _ _ (by intro hh; cases hh; exact e rfl), h.cell hj, List.getD_eq_getElem?_getD, List.getD_eq_getElem?_getD, List.getElem?_set_ne e]
theorem OInts.ints {k : IntKind} {w : World} {B : Nat} {xs : List Int} (h : OInts k w B xs) (hl : xs.length ≤ 140737488351232) : Ints k w (.slice (some ⟨B, 0, none⟩) xs.length xs.length) xs :=
  ⟨some ⟨B, 0, none⟩, xs.length, rfl, Nat.le_refl _, ⟨hl, by omega⟩, (fun hh => by cases hh), fun i hi => ⟨B, 0, rfl, h.1, by rw [Nat.mul_one, Nat.zero_add]; exact h.cell hi⟩⟩
/-- The cells of a slice of integers, as an append asks for them. -/
theorem Ints.newsK {k : IntKind} {w : World} {ad : Addr} {n c : Nat} {xs : List Int} (h : Ints k w (.slice (some ad) n c) xs) : ∀ (j : Nat) (u : Value), (xs.map (Value.int k))[j]? = some u → w.cell? (ad.add j) = some u := by
  intro j u hu
  rw [List.getElem?_map] at hu
  cases e : xs[j]? with
  | none => rw [e] at hu; cases hu
  | some y =>
    rw [e] at hu
    cases hu
    have hj : j < xs.length := by
      rcases Nat.lt_or_ge j xs.length with h | h
      · exact h
      · rw [List.getElem?_eq_none h] at e; cases e
    obtain ⟨a, c', e', _, _, _, h4⟩ := h
    cases e'
    obtain ⟨b', o', e', h5, h6⟩ := h4 j hj
    cases e'
    rw [Nat.mul_one, List.getD_eq_getElem?_getD, e] at h6
    by_cases hj0 : j = 0
    · subst hj0; exact h6
    · simpa [Addr.add, hj0] using h6
end Go.Proofs.Ytdojafpjipcbjaa
namespace Go.Proofs.Ytdojafpjipcbjaa
set_option linter.unusedVariables false
set_option linter.unusedSimpArgs false
/-- An instruction: operation, two registers, size, number. -/
structure Ins where
  o : Int
  d : Int
  s : Int
  z : Int
  i : Int
  deriving DecidableEq, Inhabited
/-- The lowest bytes of a number, the lowest one first. -/
def leB (n : Int) : Nat → List Int
  | 0 => []
  | k + 1 => n % 256 :: leB (n / 256) k
/-- The number of the first bytes of a list; what is not there counts nothing. -/
def rdB : List Int → Nat → Int
  | _, 0 => 0
  | [], _ + 1 => 0
  | b :: r, k + 1 => b + 256 * rdB r k
theorem leB_length (n : Int) (k : Nat) : (leB n k).length = k := by
  induction k generalizing n with
  | zero => rfl
  | succ k ih => simp [leB, ih]
def mrB (r m : Int) : Int := (192 + 8 * r + m) % 256
def mmB (r m i : Int) : List Int := (128 + 8 * r + m) % 256 :: leB i 4
/-- 2^z for the three sizes. -/
def pwZ (z : Int) : Int := 2 ^ z.toNat
/-- The signed value of a number of z bits. -/
def sgB (n z : Int) : Int := if 2 ^ (z.toNat - 1) ≤ n then n - pwZ z else n
def isR (n : Int) : Bool := decide (0 ≤ n) && decide (n ≤ 7)
def isL (n : Int) : Bool := decide (0 ≤ n) && decide (n ≤ 3)
def isM (n : Int) : Bool := isR n && (n != 4)
def isC (n : Int) : Bool := decide (0 ≤ n) && (decide (n ≤ 15) && (n != 10 && n != 11))
def isB (n : Int) : Bool := decide (-128 ≤ n) && decide (n ≤ 127)
def isW4 (n : Int) : Bool := decide (-2147483648 ≤ n) && decide (n ≤ 2147483647)
def inZ (n z : Int) : Bool := decide (0 ≤ n) && decide (n ≤ pwZ z - 1)
/-- The number in the second byte of an operation. -/
def digI (o : Int) : Int :=
  if o = 14 then 0 else if o = 15 then 1 else if o = 16 ∨ o = 21 then 4 else if o = 17 ∨ o = 22 then 5 else if o = 18 ∨ o = 26 then 6
  else if o = 19 ∨ o = 23 ∨ o = 27 then 7 else if o = 24 then 2 else if o = 25 then 3 else -1
/-- The first byte of an operation of two registers. -/
def ariI (o : Int) : Int :=
  if o = 7 then 1 else if o = 8 then 9 else if o = 9 then 33 else if o = 10 then 41 else if o = 11 then 49 else if o = 12 then 57 else if o = 13 then 133 else 0
/-- The sizes that an operation may have. -/
def szI (o : Int) : List Int :=
  if 0 ≤ o ∧ o ≤ 3 then [32, 16] else if 4 ≤ o ∧ o ≤ 6 then [32] else if 7 ≤ o ∧ o ≤ 19 then [32, 16] else if o = 20 then [32]
  else if 21 ≤ o ∧ o ≤ 25 then [32, 16] else if 26 ≤ o ∧ o ≤ 31 then [32] else if o = 32 ∨ o = 33 then [8, 32] else if 34 ≤ o ∧ o ≤ 36 then [32] else []
def fitJ (x : Ins) : Bool := (x.z == 8 && isB x.i) || (x.z == 32 && isW4 x.i)
/-- Whether the fields of an instruction are right, but for its size. -/
def fitI (x : Ins) : Bool :=
  if x.o = 0 ∨ (7 ≤ x.o ∧ x.o ≤ 13) ∨ x.o = 20 then isR x.d && (isR x.s && x.i == 0)
  else if x.o = 1 ∨ (14 ≤ x.o ∧ x.o ≤ 19) then isR x.d && (x.s == 0 && inZ x.i x.z)
  else if x.o = 2 ∨ x.o = 4 ∨ x.o = 5 then isR x.d && (isM x.s && isW4 x.i)
  else if x.o = 3 then isM x.d && (isR x.s && isW4 x.i)
  else if x.o = 6 then isM x.d && (isL x.s && isW4 x.i)
  else if 21 ≤ x.o ∧ x.o ≤ 27 then isR x.d && (x.s == 0 && x.i == 0)
  else if x.o = 28 ∨ x.o = 34 ∨ x.o = 35 ∨ x.o = 36 then x.d == 0 && (x.s == 0 && x.i == 0)
  else if x.o = 29 then isL x.d && (isC x.s && x.i == 0)
  else if x.o = 30 then isR x.d && (isL x.s && x.i == 0)
  else if x.o = 31 then isR x.d && (isR x.s && isC x.i)
  else if x.o = 32 then x.d == 0 && (isC x.s && fitJ x)
  else if x.o = 33 then x.d == 0 && (x.s == 0 && fitJ x)
  else false
def okI (x : Ins) : Bool := (szI x.o).contains x.z && fitI x
/-- The bytes of an instruction, but for that of the size 16. -/
def bodyI (x : Ins) : List Int :=
  if x.o = 0 then [137, mrB x.s x.d]
  else if x.o = 1 then (184 + x.d) % 256 :: leB x.i (x.z / 8).toNat
  else if x.o = 2 then 139 :: mmB x.d x.s x.i
  else if x.o = 3 then 137 :: mmB x.s x.d x.i
  else if x.o = 4 then 15 :: 182 :: mmB x.d x.s x.i
  else if x.o = 5 then 15 :: 183 :: mmB x.d x.s x.i
  else if x.o = 6 then 136 :: mmB x.s x.d x.i
  else if 7 ≤ x.o ∧ x.o ≤ 13 then [ariI x.o, mrB x.s x.d]
  else if 14 ≤ x.o ∧ x.o ≤ 19 then (if -128 ≤ sgB x.i x.z ∧ sgB x.i x.z ≤ 127 then [131, mrB (digI x.o) x.d, x.i % 256] else 129 :: mrB (digI x.o) x.d :: leB x.i (x.z / 8).toNat)
  else if x.o = 20 then [15, 175, mrB x.d x.s]
  else if 21 ≤ x.o ∧ x.o ≤ 23 then [211, mrB (digI x.o) x.d]
  else if 24 ≤ x.o ∧ x.o ≤ 27 then [247, mrB (digI x.o) x.d]
  else if x.o = 28 then [153]
  else if x.o = 29 then [15, (144 + x.s) % 256, mrB 0 x.d]
  else if x.o = 30 then [15, 182, mrB x.d x.s]
  else if x.o = 31 then [15, (64 + x.i) % 256, mrB x.d x.s]
  else if x.o = 32 then (if x.z = 8 then [(112 + x.s) % 256, x.i % 256] else 15 :: (128 + x.s) % 256 :: leB x.i 4)
  else if x.o = 33 then (if x.z = 8 then [235, x.i % 256] else 233 :: leB x.i 4)
  else if x.o = 34 then [244]
  else if x.o = 35 then [15, 11]
  else if x.o = 36 then [144]
  else []
/-- The bytes of an instruction. -/
def encI (x : Ins) : List Int := if x.z = 16 then 102 :: bodyI x else bodyI x
/-! ### reading -/
def sg8 (n : Int) : Int := if 128 ≤ n then n - 256 else n
def sg32 (n : Int) : Int := if 2147483648 ≤ n then n - 4294967296 else n
/-- An operation of two registers, or alone, by its first byte. -/
def oneI (c : Int) : Int :=
  if c = 1 then 7 else if c = 9 then 8 else if c = 33 then 9 else if c = 41 then 10 else if c = 49 then 11 else if c = 57 then 12 else if c = 133 then 13
  else if c = 144 then 36 else if c = 153 then 28 else if c = 244 then 34 else -1
/-- An operation by its first byte and the number in its second one. -/
def grpI (c r : Int) : Int :=
  if c = 129 ∨ c = 131 then (if r = 0 then 14 else if r = 1 then 15 else if r = 4 then 16 else if r = 5 then 17 else if r = 6 then 18 else if r = 7 then 19 else -1)
  else if c = 211 then (if r = 4 then 21 else if r = 5 then 22 else if r = 7 then 23 else -1)
  else (if r = 2 then 24 else if r = 3 then 25 else if r = 6 then 26 else if r = 7 then 27 else -1)
def rF (m : Int) : Int := m / 8 % 8
def mF (m : Int) : Int := m % 8
/-- What begins with 15, as the program reads it: the instruction, and how many bytes are read. -/
def secP (c : List Int) (z : Int) : Ins × Nat :=
  if c.getD 1 0 = 11 then (⟨35, 0, 0, z, 0⟩, 2)
  else if c.getD 1 0 = 175 then (⟨20, rF (c.getD 2 0), mF (c.getD 2 0), z, 0⟩, 3)
  else if c.getD 1 0 = 182 ∨ c.getD 1 0 = 183 then
    (if c.getD 2 0 / 64 = 2 then (⟨c.getD 1 0 - 178, rF (c.getD 2 0), mF (c.getD 2 0), z, sg32 (rdB (c.drop 3) 4)⟩, 7) else (⟨30, rF (c.getD 2 0), mF (c.getD 2 0), z, 0⟩, 3))
  else if 64 ≤ c.getD 1 0 ∧ c.getD 1 0 ≤ 79 then (⟨31, rF (c.getD 2 0), mF (c.getD 2 0), z, c.getD 1 0 - 64⟩, 3)
  else if 144 ≤ c.getD 1 0 ∧ c.getD 1 0 ≤ 159 then (⟨29, mF (c.getD 2 0), c.getD 1 0 - 144, z, 0⟩, 3)
  else if 128 ≤ c.getD 1 0 ∧ c.getD 1 0 ≤ 143 then (⟨32, 0, c.getD 1 0 - 128, z, sg32 (rdB (c.drop 2) 4)⟩, 6)
  else (⟨-1, 0, 0, z, 0⟩, 2)
/-- What moves. -/
def movP (c : List Int) (z : Int) : Ins × Nat :=
  if c.getD 1 0 / 64 = 2 then
    (if c.getD 0 0 = 139 then (⟨2, rF (c.getD 1 0), mF (c.getD 1 0), z, sg32 (rdB (c.drop 2) 4)⟩, 6)
     else if c.getD 0 0 = 137 then (⟨3, mF (c.getD 1 0), rF (c.getD 1 0), z, sg32 (rdB (c.drop 2) 4)⟩, 6)
     else (⟨6, mF (c.getD 1 0), rF (c.getD 1 0), z, sg32 (rdB (c.drop 2) 4)⟩, 6))
  else (⟨0, mF (c.getD 1 0), rF (c.getD 1 0), z, 0⟩, 2)
/-- What the operations of a group are. -/
def grpP (c : List Int) (z : Int) : Ins × Nat :=
  if c.getD 0 0 = 129 then (⟨grpI (c.getD 0 0) (rF (c.getD 1 0)), (if 0 ≤ grpI (c.getD 0 0) (rF (c.getD 1 0)) then mF (c.getD 1 0) else 0), 0, z, rdB (c.drop 2) (z / 8).toNat⟩, 2 + (z / 8).toNat)
  else if c.getD 0 0 = 131 then (⟨grpI (c.getD 0 0) (rF (c.getD 1 0)), (if 0 ≤ grpI (c.getD 0 0) (rF (c.getD 1 0)) then mF (c.getD 1 0) else 0), 0, z, sg8 (c.getD 2 0) % pwZ z⟩, 3)
  else (⟨grpI (c.getD 0 0) (rF (c.getD 1 0)), (if 0 ≤ grpI (c.getD 0 0) (rF (c.getD 1 0)) then mF (c.getD 1 0) else 0), 0, z, 0⟩, 2)
/-- What the program reads of bytes behind that of the size. -/
def gsP (c : List Int) (z : Int) : Ins × Nat :=
  if 0 ≤ oneI (c.getD 0 0) then (if c.getD 0 0 < 144 then (⟨oneI (c.getD 0 0), mF (c.getD 1 0), rF (c.getD 1 0), z, 0⟩, 2) else (⟨oneI (c.getD 0 0), 0, 0, z, 0⟩, 1))
  else if c.getD 0 0 = 137 ∨ c.getD 0 0 = 136 ∨ c.getD 0 0 = 139 then movP c z
  else if 184 ≤ c.getD 0 0 ∧ c.getD 0 0 ≤ 191 then (⟨1, c.getD 0 0 - 184, 0, z, rdB (c.drop 1) (z / 8).toNat⟩, 1 + (z / 8).toNat)
  else if c.getD 0 0 = 129 ∨ c.getD 0 0 = 131 ∨ c.getD 0 0 = 211 ∨ c.getD 0 0 = 247 then grpP c z
  else if 112 ≤ c.getD 0 0 ∧ c.getD 0 0 ≤ 127 then (⟨32, 0, c.getD 0 0 - 112, 8, sg8 (c.getD 1 0)⟩, 2)
  else if c.getD 0 0 = 235 then (⟨33, 0, 0, 8, sg8 (c.getD 1 0)⟩, 2)
  else if c.getD 0 0 = 233 then (⟨33, 0, 0, z, sg32 (rdB (c.drop 1) 4)⟩, 5)
  else if c.getD 0 0 = 15 then secP c z
  else (⟨-1, 0, 0, z, 0⟩, 1)
/-- Where the bytes behind that of the size begin. -/
def preI (b : List Int) : Nat := if b.getD 0 0 = 102 then 1 else 0
def sizI (b : List Int) : Int := if b.getD 0 0 = 102 then 16 else 32
/-- What the program reads of bytes. -/
def decI (b : List Int) : Option (Ins × Nat) :=
  if (preI b + (gsP (b.drop (preI b)) (sizI b)).2 ≤ b.length ∧ okI (gsP (b.drop (preI b)) (sizI b)).1 = true) ∧ encI (gsP (b.drop (preI b)) (sizI b)).1 = b.take (preI b + (gsP (b.drop (preI b)) (sizI b)).2) then
    some ((gsP (b.drop (preI b)) (sizI b)).1, preI b + (gsP (b.drop (preI b)) (sizI b)).2) else none
end Go.Proofs.Ytdojafpjipcbjaa
namespace Go.Proofs.Ytdojafpjipcbjaa
open Go.RowKit
set_option linter.unusedVariables false
set_option linter.unusedSimpArgs false
theorem isReg_any (n : Int) (w : World) : Calls Try.prog 75 #[.int .i64 n] w fun e w' => e = .returned (.bool (isR n)) ∧ w = w' := by
  unfold isR
  cases h1 : decide (0 ≤ n)
  all_goals
    go_enter Try.func75, Try.ntmps75
    go_wp2
    go_ret
    exact ⟨rfl, rfl⟩
theorem isLow_any (n : Int) (w : World) : Calls Try.prog 82 #[.int .i64 n] w fun e w' => e = .returned (.bool (isL n)) ∧ w = w' := by
  unfold isL
  cases h1 : decide (0 ≤ n)
  all_goals
    go_enter Try.func82, Try.ntmps82
    go_wp2
    go_ret
    exact ⟨rfl, rfl⟩
theorem isCond_any (n : Int) (w : World) : Calls Try.prog 32 #[.int .i64 n] w fun e w' => e = .returned (.bool (isC n)) ∧ w = w' := by
  unfold isC
  cases h1 : decide (0 ≤ n) <;> cases h2 : decide (n ≤ 15) <;> cases h3 : (n != 10)
  all_goals
    go_enter Try.func32, Try.ntmps32
    go_wp2
    go_ret
    exact ⟨rfl, rfl⟩
theorem within_ia (n a b : Int) (w : World) : Calls Try.prog 76 #[.int .i64 n, .int .i64 a, .int .i64 b] w fun e w' => e = .returned (.bool (decide (a ≤ n) && decide (n ≤ b))) ∧ w = w' := by
  cases h1 : decide (a ≤ n)
  all_goals
    go_enter Try.func76, Try.ntmps76
    go_wp2
    go_ret
    exact ⟨rfl, rfl⟩
theorem isWide_any (n : Int) (w : World) : Calls Try.prog 115 #[.int .i64 n] w fun e w' => e = .returned (.bool (isW4 n)) ∧ w = w' := by
  unfold isW4
  go_enter Try.func115, Try.ntmps115
  go_wp2_with (go_at_call 76; refine (within_ia _ _ _ _).mono ?_; rintro e w' ⟨rfl, rfl⟩)
  go_ret
  exact ⟨rfl, rfl⟩
theorem isMemory_any (n : Int) (w : World) : Calls Try.prog 114 #[.int .i64 n] w fun e w' => e = .returned (.bool (isM n)) ∧ w = w' := by
  unfold isM
  have C := Lib.hid (isReg_any n w)
  cases h1 : isR n <;> rw [h1] at C
  all_goals
    go_enter Try.func114, Try.ntmps114
    go_wp2_with (go_at_call 75; refine C.out.mono ?_; rintro e w' ⟨rfl, rfl⟩)
    go_ret
    exact ⟨rfl, rfl⟩
/-- A number within the reach of int. -/
def I64 (n : Int) : Prop := -9223372036854775808 ≤ n ∧ n ≤ 9223372036854775807
theorem mr_any (r m : Int) (w : World) : Calls Try.prog 86 #[.int .i64 r, .int .i64 m] w fun e w' => e = .returned (.int .u8 (mrB r m)) ∧ w = w' := by
  go_enter Try.func86, Try.ntmps86
  go_wp2
  go_ret
  exact ⟨ret_i (by unfold mrB wrap64; omega), rfl⟩
end Go.Proofs.Ytdojafpjipcbjaa
