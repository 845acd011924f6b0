/- -/
import Derived.Test.YtaegpeofecdhfaaGreatRows
import Derived.WalkKit
import Derived.WalkSpells
import Derived.WalkLawsBesides
import Derived.Laws.EntriesVeiled
import Derived.Lib.Hide
import Derived.OwnWalk
import Derived.Laws.OwnMore
import Derived.ProofKit
import Derived.OpenShut
import Derived.Below
import Derived.ChangeSame
import Derived.Lib.SmallJoins
import Derived.Deep.Slices
import Derived.SizedLaws
import Derived.DataReads
import Derived.ChangeSlices
import Derived.Shelf.SlicesQ.IndexFunc
import Derived.Ground.SlgfProg
import Derived.Deep.Quiet
import Derived.StillTail
import Derived.BigQuiet
import Derived.Deep.QuietTactic
import Derived.Deep.RegionHeld3
import Derived.BigGuardPart
import Derived.Deep.Cut
import Derived.Maps.Keyed
import Derived.DeepKeys5
import Derived.Laws.AppendOwnNone
set_option maxRecDepth 100000
namespace Go.Proofs.YtaegpeofecdhfaaGreat
open Go.RowKit
def mapAt (w : World) (r : Nat) : Option (Array MapEntry × Nat) := match w.heap[r]? with | some (.map es c) => some (es, c) | _ => none
def setMap (w : World) (r : Nat) (es : Array MapEntry) (c : Nat) : World := { w with heap := w.heap.setIfInBounds r (.map es c) }
theorem mapAt_alloc_at (w : World) (es : Array MapEntry) (c n : Nat) (hn : n = w.heap.size) : mapAt (w.alloc (.map es c)) n = some (es, c) := by
  subst hn
  unfold mapAt
  rw [show (w.alloc (.map es c)).heap[w.heap.size]? = some (.map es c) from Array.getElem?_push_size]
theorem mapAt_alloc_past (w : World) (o : Obj) (n : Nat) (hn : n < w.heap.size) : mapAt (w.alloc o) n = mapAt w n := by
  unfold mapAt; rw [Below.heap_alloc w o n hn]
theorem mapAt_drew (w : World) (n : Nat) : mapAt w.drew n = mapAt w n := rfl
theorem mapAt_drewN (w : World) (n k : Nat) : mapAt (w.drewN k) n = mapAt w n := rfl
theorem setMap_alloc_at (w : World) (es es' : Array MapEntry) (c c' n : Nat) (hn : n = w.heap.size) : setMap (w.alloc (.map es c)) n es' c' = w.alloc (.map es' c') := by
  subst hn
  have h : (w.heap.push (.map es c)).setIfInBounds w.heap.size (.map es' c') = w.heap.push (.map es' c') := by
    apply Array.ext_getElem?
    intro i
    rw [Array.getElem?_setIfInBounds, Array.getElem?_push, Array.getElem?_push]
    by_cases hi : i = w.heap.size
    · subst hi; simp
    · rw [if_neg (fun e => hi e.symm), if_neg hi, if_neg hi]
  exact congrArg (fun x => { w with heap := x }) h
theorem setMap_alloc_past (w : World) (o : Obj) (n : Nat) (es : Array MapEntry) (c : Nat) (hn : n < w.heap.size) : setMap (w.alloc o) n es c = (setMap w n es c).alloc o := by
  have h : (w.heap.push o).setIfInBounds n (.map es c) = (w.heap.setIfInBounds n (.map es c)).push o := by
    apply Array.ext_getElem?
    intro i
    rw [Array.getElem?_setIfInBounds, Array.getElem?_push, Array.getElem?_push, Array.getElem?_setIfInBounds, Array.size_push, Array.size_setIfInBounds]
    by_cases hi : i = w.heap.size
    · subst hi; rw [if_neg (by omega), if_pos rfl, if_pos rfl]
    · rw [if_neg hi, if_neg hi]
      by_cases h2 : n = i
      · rw [if_pos h2, if_pos h2, if_pos (by omega), if_pos hn]
      · rw [if_neg h2, if_neg h2]
  exact congrArg (fun x => { w with heap := x }) h
theorem size_setMap (w : World) (n : Nat) (es : Array MapEntry) (c : Nat) : (setMap w n es c).heap.size = w.heap.size := by simp [setMap]
attribute [go_sem] mapAt_alloc_at mapAt_alloc_past mapAt_drew mapAt_drewN setMap_alloc_at setMap_alloc_past size_setMap
theorem mapAt_some {w : World} {r : Nat} {es : Array MapEntry} {c : Nat} (h : mapAt w r = some (es, c)) : w.heap[r]? = some (.map es c) := by
  unfold mapAt at h
  split at h
  · rename_i h1; simp at h; obtain ⟨rfl, rfl⟩ := h; exact h1
  · cases h
theorem findNow_nil (k : TypeDesc) (v : Value) (i : Nat) : Instr.findNow k v [] i = some none := rfl
theorem findNow_int (kk : IntKind) (n m : Int) (v : Value) (b : Nat) (es : List MapEntry) (i : Nat) :
    Instr.findNow (.int kk) (.int kk n) (⟨.int kk m, v, b⟩ :: es) i = if n = m then some (some (i, v)) else Instr.findNow (.int kk) (.int kk n) es (i + 1) := by
  by_cases h : n = m
  · subst h; simp [Instr.findNow, Instr.sameNow]
  · have : (n == m) = false := by simpa using h
    simp [Instr.findNow, Instr.sameNow, h, this]
attribute [go_sem] findNow_nil findNow_int
def Only (b : Nat) (w w' : World) : Prop := w.heap.size ≤ w'.heap.size ∧ ∀ k, k < w.heap.size → k ≠ b → w'.heap[k]? = w.heap[k]?
theorem Only.refl (b : Nat) (w : World) : Only b w w := ⟨Nat.le_refl _, fun _ _ _ => rfl⟩
theorem Only.alloc {b : Nat} {w w' : World} (h : Only b w w') (o : Obj) : Only b w (w'.alloc o) :=
  ⟨Nat.le_trans h.1 (by simp), fun k h1 h2 => (Below.heap_alloc w' o k (Nat.lt_of_lt_of_le h1 h.1)).trans (h.2 k h1 h2)⟩
theorem Only.setCell {b : Nat} {w w' : World} (h : Only b w w') {a : Addr} (ha : a.block = b) (v : Value) : Only b w (w'.setCell a v) :=
  ⟨Nat.le_trans h.1 (by simp [World.setCell]), fun k h1 h2 => (Below.heap_setCell w' a v k (by rw [ha]; exact h2)).trans (h.2 k h1 h2)⟩
theorem Only.at {b : Nat} {w w' : World} (h : Only b w w') (o : Nat) (v : Value) : Only b w (w'.setCell ⟨b, o, none⟩ v) := h.setCell rfl v
theorem below_at {B b : Nat} {w w' : World} (h : Below B w w') (hb : B ≤ b) (o : Nat) (v : Value) : Below B w (w'.setCell ⟨b, o, none⟩ v) := Below.setCell h hb v
theorem below_drewN {B : Nat} {w w' : World} (h : Below B w w') (n : Nat) : Below B w (w'.drewN n) := h.trans ⟨rfl, rfl, rfl, Nat.le_refl _, fun _ _ => rfl⟩
theorem Only.drew {b : Nat} {w w' : World} (h : Only b w w') : Only b w w'.drew := h
theorem Only.drewN {b : Nat} {w w' : World} (h : Only b w w') (n : Nat) : Only b w (w'.drewN n) := h
theorem Only.cell {b : Nat} {w w' : World} (h : Only b w w') {k o : Nat} (hk : k < w.heap.size) (hb : k ≠ b) : w'.cell? ⟨k, o, none⟩ = w.cell? ⟨k, o, none⟩ := by
  unfold World.cell?; rw [h.2 k hk hb]
theorem bcell {W w1 : World} (hb : Below W.heap.size W w1) : (∀ b o, b < W.heap.size → w1.cell? ⟨b, o, none⟩ = W.cell? ⟨b, o, none⟩) ∧ (∀ b o, b < W.heap.size → w1.frozen? ⟨b, o, none⟩ = W.frozen? ⟨b, o, none⟩) :=
  ⟨fun b o h => hb.cell (p := ⟨b, o, none⟩) h, fun b o h => hb.frozen (p := ⟨b, o, none⟩) h⟩
theorem box_kept {w w1 : World} {cs : Array Value} {T : TypeId} (hb : Below (w.alloc (.cells cs T)).heap.size (w.alloc (.cells cs T)) w1) (i : Nat) : w1.cell? ⟨w.heap.size, i, none⟩ = cs[i]? := by
  rw [(bcell hb).1 _ _ (by simp)]; simp [go_sem]
theorem below_box {w w1 : World} {o : Obj} (hb : Below (w.alloc o).heap.size (w.alloc o) w1) : Below w.heap.size w w1 := ((Below.refl _ _).alloc (Nat.le_refl _) _).trans (hb.mono (by simp))
theorem below_next {B : Nat} {w w1 w2 : World} (h1 : Below B w w1) (hB : B ≤ w1.heap.size) (h2 : Below w1.heap.size w1 w2) : Below B w w2 := h1.trans (h2.mono hB)
theorem below_hop {w w1 w2 : World} (h1 : Below w.heap.size w w1) (h2 : Below w1.heap.size w1 w2) : Below w.heap.size w w2 := below_next h1 h1.size h2
end Go.Proofs.YtaegpeofecdhfaaGreat
namespace Go.Proofs.YtaegpeofecdhfaaGreat
open Go.RowKit
set_option linter.unusedVariables false
set_option linter.unusedSimpArgs false
def Slc (w : World) (v : Value) (n z : Nat) (C : Nat → Nat → Nat → Prop) : Prop :=
  ∃ (a : Option Addr) (c : Nat), v = .slice a n c ∧ n ≤ c ∧ (n ≤ 140737488351232 ∧ c ≤ 9223372036854775807) ∧ (a = none → c = 0) ∧ ∀ i, i < n → ∃ b o, a = some ⟨b, o, none⟩ ∧ b < w.heap.size ∧ C i b (o + i * z)
def Ints (k : IntKind) (w : World) (v : Value) (xs : List Int) : Prop := Slc w v xs.length 1 fun i b o => w.cell? ⟨b, o, none⟩ = some (.int k (xs.getD i 0))
structure Nd where
  op : Int
  width : Int
  flags : Int
  args : List Int
  imm : Int
  deriving Inhabited
def NdAt (w : World) (b o : Nat) (x : Nd) : Prop :=
  w.cell? ⟨b, o, none⟩ = some (.int .i64 x.op) ∧ w.cell? ⟨b, o + 1, none⟩ = some (.int .i64 x.width) ∧ w.cell? ⟨b, o + 2, none⟩ = some (.int .i64 x.flags) ∧
  (∃ v, w.cell? ⟨b, o + 3, none⟩ = some v ∧ Ints .i64 w v x.args) ∧ w.cell? ⟨b, o + 4, none⟩ = some (.int .u32 x.imm)
def Nds (w : World) (v : Value) (ts : List Nd) : Prop := Slc w v ts.length 5 fun i b o => NdAt w b o (ts.getD i default)
theorem below_cell {B : Nat} {w w' : World} (h : Below B w w') {b o : Nat} {v : Value} (hb : b < B) (hc : w.cell? ⟨b, o, none⟩ = some v) : w'.cell? ⟨b, o, none⟩ = some v := by
  rw [← hc]; exact h.cell (p := ⟨b, o, none⟩) hb
theorem cell_lt {w : World} {b o : Nat} {v : Value} (h : w.cell? ⟨b, o, none⟩ = some v) : b < w.heap.size := by
  unfold World.cell? at h
  by_cases hb : b < w.heap.size
  · exact hb
  · simp [Array.getElem?_eq_none (Nat.le_of_not_lt hb)] at h
theorem Slc.stays {w w' : World} {v : Value} {n z : Nat} {C C' : Nat → Nat → Nat → Prop} (h : Slc w v n z C) (hb : Below w.heap.size w w') (hC : ∀ i b o, b < w.heap.size → C i b o → C' i b o) : Slc w' v n z C' := by
  obtain ⟨a, c, e, h1, h2, h3, h4⟩ := h
  refine ⟨a, c, e, h1, h2, h3, fun i hi => ?_⟩
  obtain ⟨b, o, e1, e2, e3⟩ := h4 i hi
  exact ⟨b, o, e1, Nat.lt_of_lt_of_le e2 hb.size, hC i b _ e2 e3⟩
theorem Ints.stays {k : IntKind} {w w' : World} {v : Value} {xs : List Int} (h : Ints k w v xs) (hb : Below w.heap.size w w') : Ints k w' v xs :=
  Slc.stays h hb fun _ _ _ hlt hc => below_cell hb hlt hc
theorem NdAt.stays {w w' : World} {b o : Nat} {x : Nd} (h : NdAt w b o x) (hlt : b < w.heap.size) (hb : Below w.heap.size w w') : NdAt w' b o x := by
  obtain ⟨h1, h2, h3, ⟨v, h4, h5⟩, h6⟩ := h
  exact ⟨below_cell hb hlt h1, below_cell hb hlt h2, below_cell hb hlt h3, ⟨v, below_cell hb hlt h4, h5.stays hb⟩, below_cell hb hlt h6⟩
theorem Nds.stays {w w' : World} {v : Value} {ts : List Nd} (h : Nds w v ts) (hb : Below w.heap.size w w') : Nds w' v ts :=
  Slc.stays h hb fun _ _ _ hlt hc => hc.stays hlt hb
def RowI (w : World) (base : Nat) (e : TypeId) (k : IntKind) (v : Value) (xs : List Int) : Prop := w.ownsRow base e 1 v xs.length (xs.map (Value.int k))
theorem RowI.ints {w : World} {base : Nat} {e : TypeId} {k : IntKind} {v : Value} {xs : List Int} (h : RowI w base e k v xs) (hl : xs.length ≤ 140737488351232) : Ints k w v xs := by
  obtain ⟨_, ⟨rfl, h0⟩ | ⟨g, cap, cur, rfl, hb, hg, h1, h2, h3, h4⟩⟩ := h
  · exact ⟨none, 0, by rw [h0], by omega, by omega, fun _ => rfl, fun i hi => absurd hi (by omega)⟩
  · refine ⟨some ⟨g, 0, none⟩, cap, rfl, h1, ⟨hl, by unfold maxLen at h2; omega⟩, (fun hh => by cases hh), fun i hi => ⟨g, 0, rfl, ?_, ?_⟩⟩
    · rcases Nat.lt_or_ge g w.heap.size with h | h
      · exact h
      · rw [Array.getElem?_eq_none h] at hg; cases hg
    · rw [Nat.mul_one, Nat.zero_add]
      have e1 : w.cell? ⟨g, i, none⟩ = cur.toList[i]? := by simp [World.cell?, hg]
      have e2 : (cur.toList.take (xs.length * 1))[i]? = cur.toList[i]? := by rw [List.getElem?_take, if_pos (by omega)]
      show w.cell? ⟨g, i, none⟩ = _
      rw [e1, ← e2, h4, List.getElem?_map, List.getElem?_eq_getElem hi, List.getD_eq_getElem?_getD, List.getElem?_eq_getElem hi]
      rfl
theorem RowI.nil (w : World) (base : Nat) (e : TypeId) (k : IntKind) : RowI w base e k (.slice none 0 0) [] := World.ownsRow_nil w base e 1
theorem RowI.below {w w' : World} {base : Nat} {e : TypeId} {k : IntKind} {v : Value} {xs : List Int} (h : RowI w base e k v xs) (hb : Below w.heap.size w w') : RowI w' base e k v xs := by
  obtain ⟨h0, ⟨rfl, h1⟩ | ⟨g, cap, cur, rfl, hb', hg, h1, h2, h3, h4⟩⟩ := h
  · exact ⟨h0, .inl ⟨rfl, h1⟩⟩
  · refine ⟨h0, .inr ⟨g, cap, cur, rfl, hb', ?_, h1, h2, h3, h4⟩⟩
    have hlt : g < w.heap.size := by
      rcases Nat.lt_or_ge g w.heap.size with h | h
      · exact h
      · rw [Array.getElem?_eq_none h] at hg; cases hg
    rw [← hg]
    exact hb.block g hlt
theorem RowI.shape {w : World} {base : Nat} {e : TypeId} {k : IntKind} {v : Value} {xs : List Int} (h : RowI w base e k v xs) : ∃ a c, v = .slice a xs.length c := by
  obtain ⟨_, ⟨rfl, h1⟩ | ⟨g, cap, cur, rfl, _⟩⟩ := h
  · exact ⟨none, 0, by rw [h1]⟩
  · exact ⟨_, _, rfl⟩
theorem RowI.app {w : World} {base : Nat} {e : TypeId} {k : IntKind} {v : Value} {xs ys zs : List Int} {n : Nat} (h : w.ownsRow base e 1 v n (xs.map (Value.int k) ++ ys.map (Value.int k))) (hn : n = xs.length + ys.length) (hz : zs = xs ++ ys) : RowI w base e k v zs := by
  subst hz; subst hn
  unfold RowI
  rw [List.length_append, List.map_append]
  exact h
theorem RowI.app1 {w : World} {base : Nat} {e : TypeId} {k : IntKind} {v : Value} {l zs : List Int} {y : Int} {j : Nat} (h : w.ownsRow base e 1 v (j + 1) (l.map (Value.int k) ++ [.int k y])) (hl : l.length = j) (hz : zs = l ++ [y]) : RowI w base e k v zs :=
  RowI.app (ys := [y]) h (by rw [hl]; rfl) hz
theorem own_ge {w : World} {base : Nat} {e : TypeId} {size : Nat} {v : Value} {n : Nat} {xs : List Value} (h : w.ownsRow base e size v n xs) : ∀ k, v.ownBlock = some k → base ≤ k := fun k hk => (h.lt k hk).1
end Go.Proofs.YtaegpeofecdhfaaGreat
namespace Go.Proofs.YtaegpeofecdhfaaGreat
open Go.RowKit Go.WideShapes Go.ChangeShapes
section
variable {H : Type} {enc : TypeId × Value → H} {P : Program}
theorem trodAll_stays (hl : laidOutB P = true) {W W' : World} (hb : Below W.heap.size W W') (sp : Nat → Bool) : ∀ (ts : List TypeId) (vs : List Value) (ds : List (DataW H)) (ps : List MemPlace),
    (∀ t ∈ ts, P.readableRec t = true ∧ t < P.types.size) → DataW.TrodAll enc P W 0 (fun _ => true) true ts vs ds ps → (∀ x ∈ ps, x.block < W.heap.size) → (∀ p ∈ ps, sp p.block = true) → DataW.TrodAll enc P W' 0 sp true ts vs ds ps
  | [], vs, ds, ps, _, h, _, _ => by
    obtain ⟨rfl, rfl, rfl⟩ := trodAll_nil h
    exact trodAll_mk0
  | t :: ts, vs, ds, ps, ht, h, hlt, hsp => by
    obtain ⟨v, vs', d, ds', p, q, rfl, rfl, rfl, h1, h2⟩ := trodAll_cons h
    have h3 := ht t (List.mem_cons_self ..)
    exact trodAll_cons_mk (WideElems.Trod_stays hl h3.1 h3.2 h1 (fun x hx => hb.same (hlt x (List.mem_append.2 (.inl hx)))) (fun x hx => hsp x (List.mem_append.2 (.inl hx))))
      (trodAll_stays hl hb sp ts vs' ds' q (fun t' h' => ht t' (List.mem_cons_of_mem _ h')) h2 (fun x hx => hlt x (List.mem_append.2 (.inr hx))) (fun x hx => hsp x (List.mem_append.2 (.inr hx))))
theorem post_below {f : Func} {s : ChangeSpec} {apart fresh handsOn again : Bool} {W W' : World} {args : Array Value} {v : Value} {ds gs : List (DataW H)} {before pa pv : List MemPlace}
    (hW : DataW.Whole enc P f.params.toList s.vars apart W args.toList ds gs before)
    (hres : ∀ (b : Nat) (sp : Nat → Bool) (hd : Bool), DataW.TrodAll enc P W' b sp hd f.resultTypes.toList (v.resultList f.resultTypes.size) (s.fn H (ds ++ gs)).results [])
    (hargs : ∀ sp : Nat → Bool, (∀ p ∈ before, sp p.block = true) → DataW.TrodAll enc P W' 0 sp true f.params.toList args.toList (s.fn H (ds ++ gs)).args pa)
    (hvars : ∀ sp : Nat → Bool, (∀ p ∈ before, sp p.block = true) → DataW.TrodVars enc P W' sp s.vars (s.fn H (ds ++ gs)).vars pv)
    (hps : before = pa ++ pv) (hb : Below W.heap.size W W')
    (hok : ∀ (j : Nat) (t : TypeId) (r : Value), f.resultTypes[j]? = some t → (v.resultList f.resultTypes.size)[j]? = some r → Value.okWide P W' .any 0 t r) :
    s.post enc P f apart fresh handsOn again W args v W' := by
  have hlt : ∀ p ∈ before, p.block < W.heap.size := fun p hp => hW.lt p hp
  have hold : ∀ p ∈ before, (fun b => decide (b < W.heap.size)) p.block = true := fun p hp => by simpa using hlt p hp
  refine ⟨ds, gs, before, [], pa, pv, hW, hres _ _ _, hargs _ hold, hvars _ hold, World.keptBut_mono (fun p hp => ⟨hp, ?_⟩) (hb.frame (· ∈ before)), fun _ => ?_⟩
  · rw [hps, List.mem_append] at hp
    exact Or.inr hp
  · obtain ⟨_, _, _, _, _, hz, hn⟩ := hW
    refine ⟨hok, _, _, ([] ++ pa) ++ pv, ⟨[] ++ pa, pv, trodAll_append (hargs _ (fun _ _ => rfl)) (hres _ _ _), hvars _ (fun _ _ => rfl), rfl, ?_, ?_⟩, ?_⟩
    · intro b off hp
      have hin : MemPlace.cell b off ∈ before := by rw [hps]; simpa using hp
      rw [hb.frozen (hlt _ hin)]
      exact hz b off hin
    · intro ha
      have := hn ha
      rw [hps] at this
      simpa using this
    · intro p hp _
      rw [hps]
      simpa using hp
theorem post_law {f : Func} {s : ChangeSpec} {apart fresh handsOn again : Bool} {W W' : World} {args : Array Value} {ds gs : List (DataW H)} {before : List MemPlace} {tb : TypeId}
    (hl : laidOutB P = true) (hts : ∀ t ∈ f.params.toList, P.readableRec t = true ∧ t < P.types.size) (hres : f.resultTypes = #[tb]) (htb : P.underlying tb = some .bool) (hv : s.vars = [])
    (hW : DataW.Whole enc P f.params.toList s.vars apart W args.toList ds gs before) (hfn : s.fn H (ds ++ gs) = { results := [.lit (.bool true)], args := ds }) (hb : Below W.heap.size W W') :
    s.post enc P f apart fresh handsOn again W args (.bool true) W' := by
  have hW2 := hW
  obtain ⟨p, q, hA, hV, rfl, _, _⟩ := hW2
  rw [hv] at hV
  obtain ⟨rfl, rfl⟩ := trodVars_none hV
  refine post_below (pa := p) (pv := []) hW (fun b sp hd => ?_) (fun sp hsp => ?_) (fun sp _ => ?_) rfl hb (ok_one hres rfl (okWide_bool_mk htb _))
  · rw [hfn, hres]
    exact trodAll_mk1 (shut_bool htb _)
  · rw [hfn]
    exact trodAll_stays hl hb sp _ _ _ _ hts hA (fun x hx => hW.lt x (List.mem_append.2 (.inl hx))) (fun x hx => hsp x (List.mem_append.2 (.inl hx)))
  · rw [hfn, hv]
    trivial
end
end Go.Proofs.YtaegpeofecdhfaaGreat
namespace Go.Proofs.YtaegpeofecdhfaaGreat
open Go.RowKit Go.WideShapes Go.ChangeShapes Go.Deep
set_option linter.unusedVariables false
set_option linter.unusedSimpArgs false
section
variable {H : Type} {enc : TypeId × Value → H} {P : Program} {W : World} {base : Nat} {held : Bool}
def FitsK (k : IntKind) (x : Int) : Prop := (Lit.int k x).wf = true
theorem weights_len {t e : TypeId} {elems spare : List (DataW H)} (ht : P.underlying t = some (.slice e)) (hb : 1 ≤ P.bytesOf e) (hw : ∀ n ∈ (DataW.slice elems spare).weights P t, n ≤ reachBytes) : elems.length + spare.length ≤ 140737488351232 := by
  have h := hw ((elems.length + spare.length) * P.bytesOf e) (by simp [DataW.weights, ht])
  have h2 : elems.length + spare.length ≤ (elems.length + spare.length) * P.bytesOf e := Nat.le_mul_of_pos_right _ hb
  unfold reachBytes at h
  omega
theorem readI {t e : TypeId} {k : IntKind} {fuel : Nat} {cs : List Value} {d : DataW H} {ps : List MemPlace} (ht : P.underlying t = some (.slice e)) (he : P.underlying e = some (.int k)) (hc : P.cellsOf e = 1) (hby : 1 ≤ P.bytesOf e)
    (h : DataW.trod enc P W base (fun _ => true) held fuel t cs = some (d, ps)) (hw : ∀ n ∈ d.weights P t, n ≤ reachBytes) : ∃ v xs, cs = [v] ∧ Ints k W v xs ∧ ∀ x ∈ xs, FitsK k x := by
  rcases open_ints ht he hc h with ⟨rfl, hx⟩ | ⟨a, len, cap, zs, rfl, hb, hl, hm, hz, hx, hcell, hwf⟩
  · exact ⟨_, [], rfl, ⟨none, 0, rfl, Nat.le_refl _, ⟨by simp, by omega⟩, fun _ => rfl, fun i hi => absurd hi (by simp)⟩, fun x hx => by cases hx⟩
  · simp only [if_true] at hz
    simp only [Prod.mk.injEq] at hx
    have hcap : cap ≤ 140737488351232 := by
      rw [hx.1] at hw
      have := weights_len ht hby hw
      simp [lits] at this
      omega
    have hlen : (zs.take len).length = len := by rw [List.length_take]; omega
    refine ⟨_, zs.take len, rfl, ⟨some a, cap, by rw [hlen], by omega, ⟨by omega, by unfold maxLen at hm; omega⟩, (fun hh => by cases hh), fun i hi => ?_⟩, fun x hx => hwf x (List.mem_of_mem_take hx)⟩
    rw [hlen] at hi
    have hc0 := hcell i (by omega)
    have hs := World.cell?_spot hc0
    obtain ⟨b, o, s⟩ := a
    have hsp : s = none := by
      by_cases e0 : i = 0
      · subst e0; exact World.cell?_spot (hcell 0 (by omega))
      · exact World.cell?_spot (hcell 0 (by omega))
    subst hsp
    have e1 : (⟨b, o, none⟩ : Addr).add i = ⟨b, o + i, none⟩ := by
      unfold Addr.add
      by_cases e0 : i = 0
      · rw [if_pos e0, e0]; rfl
      · rw [if_neg e0]
    rw [e1] at hc0
    refine ⟨b, o, rfl, cell_lt hc0, ?_⟩
    show W.cell? ⟨b, o + i * 1, none⟩ = _
    rw [Nat.mul_one, hc0, List.getD_eq_getElem?_getD, List.getD_eq_getElem?_getD, List.getElem?_take, if_pos hi]
theorem add_add (b o i j : Nat) : ((⟨b, o, none⟩ : Addr).add i).add j = ⟨b, o + i + j, none⟩ := by
  have e : ∀ (o i : Nat), (⟨b, o, none⟩ : Addr).add i = ⟨b, o + i, none⟩ := by
    intro o i
    unfold Addr.add
    by_cases e0 : i = 0
    · rw [if_pos e0, e0]; rfl
    · rw [if_neg e0]
  rw [e, e]
theorem weights_mem {fs : Array Field} {t : TypeId} {parts : List (DataW H)} (ht : P.underlying t = some (.struct fs)) {i : Nat} {f : Field} {d : DataW H} (hf : fs[i]? = some f) (hd : parts[i]? = some d) {n : Nat} (hn : n ∈ d.weights P f.type) : n ∈ (DataW.agg parts).weights P t := by
  have h1 : (fs.toList.map (·.type))[i]? = some f.type := by rw [List.getElem?_map]; simp [hf]
  have := DataW.weights_mem_each h1 hd n hn
  simpa [DataW.weights, ht] using this
theorem weightsAll_mem {e : TypeId} : ∀ {l : List (DataW H)} {d : DataW H}, d ∈ l → ∀ n ∈ d.weights P e, n ∈ DataW.weightsAll P e l
  | x :: l, d, h, n, hn => by
    simp only [DataW.weightsAll, List.mem_append]
    rcases List.mem_cons.1 h with rfl | h
    · exact Or.inl hn
    · exact Or.inr (weightsAll_mem h n hn)
structure NodeTy (P : Program) (e ei : TypeId) (f0 f1 f2 f3 f4 : Field) : Prop where
  st : P.underlying e = some (.struct #[f0, f1, f2, f3, f4])
  o : f0.offset = 0 ∧ f1.offset = 1 ∧ f2.offset = 2 ∧ f3.offset = 3 ∧ f4.offset = 4
  u0 : P.underlying f0.type = some (.int .i64)
  u1 : P.underlying f1.type = some (.int .i64)
  u2 : P.underlying f2.type = some (.int .i64)
  u3 : P.underlying f3.type = some (.slice ei)
  u4 : P.underlying f4.type = some (.int .u32)
  ui : P.underlying ei = some (.int .i64)
  c : P.cellsOf f0.type = 1 ∧ P.cellsOf f1.type = 1 ∧ P.cellsOf f2.type = 1 ∧ P.cellsOf f3.type = 1 ∧ P.cellsOf f4.type = 1 ∧ P.cellsOf ei = 1 ∧ P.cellsOf e = 5
  b : 1 ≤ P.bytesOf ei
end
end Go.Proofs.YtaegpeofecdhfaaGreat
namespace Go.Proofs.YtaegpeofecdhfaaGreat
open Go.RowKit Go.WideShapes Go.ChangeShapes Go.Deep
set_option linter.unusedVariables false
set_option linter.unusedSimpArgs false
structure Sy where
  n : Int
  a : Int
  deriving Inhabited
structure Wn where
  a : Int
  k : Int
  n : Int
  p : Int
  deriving Inhabited
structure Ob where
  b : List Int
  s : List Sy
  t : List Wn
  deriving Inhabited
def SyAt (w : World) (b o : Nat) (x : Sy) : Prop := w.cell? ⟨b, o, none⟩ = some (.int .i64 x.n) ∧ w.cell? ⟨b, o + 1, none⟩ = some (.int .i64 x.a)
def WnAt (w : World) (b o : Nat) (x : Wn) : Prop := w.cell? ⟨b, o, none⟩ = some (.int .i64 x.a) ∧ w.cell? ⟨b, o + 1, none⟩ = some (.int .i64 x.k) ∧ w.cell? ⟨b, o + 2, none⟩ = some (.int .i64 x.n) ∧ w.cell? ⟨b, o + 3, none⟩ = some (.int .i64 x.p)
def Sys (w : World) (v : Value) (l : List Sy) : Prop := Slc w v l.length 2 fun i b o => SyAt w b o (l.getD i default)
def Wns (w : World) (v : Value) (l : List Wn) : Prop := Slc w v l.length 4 fun i b o => WnAt w b o (l.getD i default)
def Ob3 (w : World) (vb vs vt : Value) (x : Ob) : Prop := Ints .u8 w vb x.b ∧ Sys w vs x.s ∧ Wns w vt x.t
def ObAt (w : World) (b o : Nat) (x : Ob) : Prop := ∃ vb vs vt, w.cell? ⟨b, o, none⟩ = some vb ∧ w.cell? ⟨b, o + 1, none⟩ = some vs ∧ w.cell? ⟨b, o + 2, none⟩ = some vt ∧ Ob3 w vb vs vt x
def Obs (w : World) (v : Value) (l : List Ob) : Prop := Slc w v l.length 3 fun i b o => ObAt w b o (l.getD i default)
theorem SyAt.stays {w w' : World} {b o : Nat} {x : Sy} (h : SyAt w b o x) (hlt : b < w.heap.size) (hb : Below w.heap.size w w') : SyAt w' b o x := ⟨below_cell hb hlt h.1, below_cell hb hlt h.2⟩
theorem WnAt.stays {w w' : World} {b o : Nat} {x : Wn} (h : WnAt w b o x) (hlt : b < w.heap.size) (hb : Below w.heap.size w w') : WnAt w' b o x := ⟨below_cell hb hlt h.1, below_cell hb hlt h.2.1, below_cell hb hlt h.2.2.1, below_cell hb hlt h.2.2.2⟩
theorem Sys.stays {w w' : World} {v : Value} {l : List Sy} (h : Sys w v l) (hb : Below w.heap.size w w') : Sys w' v l := Slc.stays h hb fun _ _ _ hlt hc => hc.stays hlt hb
theorem Wns.stays {w w' : World} {v : Value} {l : List Wn} (h : Wns w v l) (hb : Below w.heap.size w w') : Wns w' v l := Slc.stays h hb fun _ _ _ hlt hc => hc.stays hlt hb
theorem Ob3.stays {w w' : World} {vb vs vt : Value} {x : Ob} (h : Ob3 w vb vs vt x) (hb : Below w.heap.size w w') : Ob3 w' vb vs vt x := ⟨h.1.stays hb, h.2.1.stays hb, h.2.2.stays hb⟩
theorem ObAt.stays {w w' : World} {b o : Nat} {x : Ob} (h : ObAt w b o x) (hlt : b < w.heap.size) (hb : Below w.heap.size w w') : ObAt w' b o x := by
  obtain ⟨vb, vs, vt, h1, h2, h3, h4⟩ := h
  exact ⟨vb, vs, vt, below_cell hb hlt h1, below_cell hb hlt h2, below_cell hb hlt h3, h4.stays hb⟩
theorem Obs.stays {w w' : World} {v : Value} {l : List Ob} (h : Obs w v l) (hb : Below w.heap.size w w') : Obs w' v l := Slc.stays h hb fun _ _ _ hlt hc => hc.stays hlt hb
section
variable {H : Type} {enc : TypeId × Value → H} {P : Program} {W : World} {base : Nat} {held : Bool}
theorem readSlc {α : Type} [Inhabited α] {t e : TypeId} {z : Nat} {R : Nat → Nat → α → Prop} {F : α → Prop} (ht : P.underlying t = some (.slice e)) (hz : P.cellsOf e = z) (hz0 : 1 ≤ z) (hby : 1 ≤ P.bytesOf e) {fuel : Nat} {cs : List Value} {d : DataW H} {ps : List MemPlace}
    (h1 : ∀ (fuel b o : Nat) (cs : List Value) (d : DataW H) (ps : List MemPlace), (∀ i, i < z → W.cell? ⟨b, o + i, none⟩ = cs[i]?) → cs.length = z → DataW.trod enc P W base (fun _ => true) held fuel e cs = some (d, ps) → (∀ n ∈ d.weights P e, n ≤ reachBytes) → ∃ x : α, R b o x ∧ F x)
    (h : DataW.trod enc P W base (fun _ => true) held fuel t cs = some (d, ps)) (hw : ∀ n ∈ d.weights P t, n ≤ reachBytes) :
    ∃ (v : Value) (l : List α), cs = [v] ∧ Slc W v l.length z (fun i b o => R b o (l.getD i default)) ∧ ∀ x ∈ l, F x := by
  rcases open_slice ht h with ⟨rfl, hx⟩ | ⟨a, len, cap, m, n, D, Pl, rfl, hb, hl, hm, hmm, hx, hel⟩
  · exact ⟨_, [], rfl, ⟨none, 0, rfl, Nat.le_refl _, ⟨by simp, by omega⟩, fun _ => rfl, fun i hi => absurd hi (by simp)⟩, fun x hx => by cases hx⟩
  · simp only [if_true] at hmm
    subst hmm
    simp only [Prod.mk.injEq] at hx
    obtain ⟨hd, _⟩ := hx
    have hcap : m ≤ 140737488351232 := by
      rw [hd] at hw
      have := weights_len ht hby hw
      simp at this
      omega
    by_cases hl0 : len = 0
    · subst hl0
      exact ⟨_, [], rfl, ⟨some a, m, rfl, by omega, ⟨by simp, by omega⟩, (fun hh => by cases hh), fun i hi => absurd hi (by simp)⟩, fun x hx => by cases hx⟩
    have hsp : a.spot = none := by
      obtain ⟨cs', h1, _⟩ := hel 0 (by omega)
      rw [hz] at h1
      obtain ⟨_, hl5, hg⟩ := World.cells?_some h1
      have h0 := hg 0 (by omega)
      have e0 : (a.add (0 * z)).add 0 = a := by simp [Addr.add]
      rw [e0, List.getElem?_eq_getElem (by omega)] at h0
      exact World.cell?_spot h0
    obtain ⟨b, o, s⟩ := a
    simp only at hsp
    subst hsp
    obtain ⟨V, hV⟩ := choose_lt (α := α) (n := len) (p := fun i x => b < W.heap.size ∧ R b (o + i * z) x ∧ F x) (fun i hi => by
      obtain ⟨cs', g1, g2⟩ := hel i (by omega)
      rw [hz] at g1
      obtain ⟨_, hl5, hg⟩ := World.cells?_some g1
      have hg' : ∀ j, j < z → W.cell? ⟨b, o + i * z + j, none⟩ = cs'[j]? := fun j hj => by rw [← add_add b o (i * z) j]; exact hg j hj
      obtain ⟨x, q1, q2⟩ := h1 _ b (o + i * z) cs' _ _ hg' hl5 g2 (fun k hk => by
        refine hw k ?_
        rw [hd]
        simp only [DataW.weights, ht, List.mem_cons, List.mem_append]
        exact Or.inr (Or.inl (weightsAll_mem (List.mem_map.2 ⟨i, List.mem_range.2 hi, rfl⟩) k hk)))
      have h0 := hg' 0 (by omega)
      rw [List.getElem?_eq_getElem (by omega)] at h0
      exact ⟨x, cell_lt h0, q1, q2⟩)
    have hlen : ((List.range len).map V).length = len := by simp
    have hget : ∀ i, i < len → ((List.range len).map V).getD i default = V i := fun i hi => by
      rw [List.getD_eq_getElem?_getD, List.getElem?_map, List.getElem?_range hi]; rfl
    refine ⟨_, (List.range len).map V, rfl, ⟨some ⟨b, o, none⟩, m, by rw [hlen], by omega, ⟨by omega, by omega⟩, (fun hh => by cases hh), fun i hi => ?_⟩, fun x hx => ?_⟩
    · rw [hlen] at hi
      refine ⟨b, o, rfl, (hV i hi).1, ?_⟩
      show R b (o + i * z) _
      rw [hget i hi]
      exact (hV i hi).2.1
    · obtain ⟨i, hi, rfl⟩ := List.mem_map.1 hx
      exact (hV i (List.mem_range.1 hi)).2.2
structure ObTy (P : Program) (e es ew eb ts tw : TypeId) (f0 f1 f2 s0 s1 g0 g1 g2 g3 : Field) : Prop where
  st : P.underlying e = some (.struct #[f0, f1, f2])
  ss : P.underlying es = some (.struct #[s0, s1])
  sw : P.underlying ew = some (.struct #[g0, g1, g2, g3])
  o : f0.offset = 0 ∧ f1.offset = 1 ∧ f2.offset = 2 ∧ s0.offset = 0 ∧ s1.offset = 1 ∧ g0.offset = 0 ∧ g1.offset = 1 ∧ g2.offset = 2 ∧ g3.offset = 3
  u0 : P.underlying f0.type = some (.slice eb)
  u1 : P.underlying f1.type = some (.slice es)
  u2 : P.underlying f2.type = some (.slice ew)
  ub : P.underlying eb = some (.int .u8)
  us : P.underlying s0.type = some (.int .i64) ∧ P.underlying s1.type = some (.int .i64)
  uw : P.underlying g0.type = some (.int .i64) ∧ P.underlying g1.type = some (.int .i64) ∧ P.underlying g2.type = some (.int .i64) ∧ P.underlying g3.type = some (.int .i64)
  c : P.cellsOf f0.type = 1 ∧ P.cellsOf f1.type = 1 ∧ P.cellsOf f2.type = 1 ∧ P.cellsOf s0.type = 1 ∧ P.cellsOf s1.type = 1 ∧ P.cellsOf g0.type = 1 ∧ P.cellsOf g1.type = 1 ∧ P.cellsOf g2.type = 1 ∧ P.cellsOf g3.type = 1
  z : P.cellsOf e = 3 ∧ P.cellsOf es = 2 ∧ P.cellsOf ew = 4 ∧ P.cellsOf eb = 1
  b : 1 ≤ P.bytesOf eb ∧ 1 ≤ P.bytesOf es ∧ 1 ≤ P.bytesOf ew ∧ 1 ≤ P.bytesOf e
variable {e es ew eb ts tw : TypeId} {f0 f1 f2 s0 s1 g0 g1 g2 g3 : Field}
def SyF (x : Sy) : Prop := FitsK .i64 x.n ∧ FitsK .i64 x.a
def WnF (x : Wn) : Prop := FitsK .i64 x.a ∧ FitsK .i64 x.k ∧ FitsK .i64 x.n ∧ FitsK .i64 x.p
def ObF (x : Ob) : Prop := (∀ y ∈ x.b, FitsK .u8 y) ∧ (∀ y ∈ x.s, SyF y) ∧ ∀ y ∈ x.t, WnF y
theorem readSy1 (T : ObTy P e es ew eb ts tw f0 f1 f2 s0 s1 g0 g1 g2 g3) (fuel b o : Nat) (cs : List Value) (d : DataW H) (ps : List MemPlace) (hcs : ∀ i, i < 2 → W.cell? ⟨b, o + i, none⟩ = cs[i]?) (hl : cs.length = 2)
    (h : DataW.trod enc P W base (fun _ => true) held fuel es cs = some (d, ps)) (hw : ∀ n ∈ d.weights P es, n ≤ reachBytes) : ∃ x : Sy, SyAt W b o x ∧ SyF x := by
  obtain ⟨xs, n, _, hx, _, hn, hf⟩ := DataW.trod_struct T.ss h
  obtain ⟨-, -, -, o0, o1, -⟩ := T.o
  obtain ⟨-, -, -, k0, k1, -⟩ := T.c
  match cs, hl with
  | [v0, v1], _ =>
  match xs, hn with
  | [y0, y1], _ =>
  have q0 := hf 0 s0 rfl
  have q1 := hf 1 s1 rfl
  rw [o0, k0] at q0
  rw [o1, k1] at q1
  obtain ⟨n0, a0, _, w0⟩ := DataW.trod_int T.us.1 (show DataW.trod enc P W base (fun _ => true) held n s0.type [v0] = some y0 from q0)
  obtain ⟨n1, a1, _, w1⟩ := DataW.trod_int T.us.2 (show DataW.trod enc P W base (fun _ => true) held n s1.type [v1] = some y1 from q1)
  cases a0; cases a1
  exact ⟨⟨n0, n1⟩, ⟨hcs 0 (by omega), hcs 1 (by omega)⟩, w0, w1⟩
theorem readWn1 (T : ObTy P e es ew eb ts tw f0 f1 f2 s0 s1 g0 g1 g2 g3) (fuel b o : Nat) (cs : List Value) (d : DataW H) (ps : List MemPlace) (hcs : ∀ i, i < 4 → W.cell? ⟨b, o + i, none⟩ = cs[i]?) (hl : cs.length = 4)
    (h : DataW.trod enc P W base (fun _ => true) held fuel ew cs = some (d, ps)) (hw : ∀ n ∈ d.weights P ew, n ≤ reachBytes) : ∃ x : Wn, WnAt W b o x ∧ WnF x := by
  obtain ⟨xs, n, _, hx, _, hn, hf⟩ := DataW.trod_struct T.sw h
  obtain ⟨-, -, -, -, -, o0, o1, o2, o3⟩ := T.o
  obtain ⟨-, -, -, -, -, k0, k1, k2, k3⟩ := T.c
  match cs, hl with
  | [v0, v1, v2, v3], _ =>
  match xs, hn with
  | [y0, y1, y2, y3], _ =>
  have q0 := hf 0 g0 rfl
  have q1 := hf 1 g1 rfl
  have q2 := hf 2 g2 rfl
  have q3 := hf 3 g3 rfl
  rw [o0, k0] at q0
  rw [o1, k1] at q1
  rw [o2, k2] at q2
  rw [o3, k3] at q3
  obtain ⟨n0, a0, _, w0⟩ := DataW.trod_int T.uw.1 (show DataW.trod enc P W base (fun _ => true) held n g0.type [v0] = some y0 from q0)
  obtain ⟨n1, a1, _, w1⟩ := DataW.trod_int T.uw.2.1 (show DataW.trod enc P W base (fun _ => true) held n g1.type [v1] = some y1 from q1)
  obtain ⟨n2, a2, _, w2⟩ := DataW.trod_int T.uw.2.2.1 (show DataW.trod enc P W base (fun _ => true) held n g2.type [v2] = some y2 from q2)
  obtain ⟨n3, a3, _, w3⟩ := DataW.trod_int T.uw.2.2.2 (show DataW.trod enc P W base (fun _ => true) held n g3.type [v3] = some y3 from q3)
  cases a0; cases a1; cases a2; cases a3
  exact ⟨⟨n0, n1, n2, n3⟩, ⟨hcs 0 (by omega), hcs 1 (by omega), hcs 2 (by omega), hcs 3 (by omega)⟩, w0, w1, w2, w3⟩
theorem readOb3 (T : ObTy P e es ew eb ts tw f0 f1 f2 s0 s1 g0 g1 g2 g3) {fuel : Nat} {v0 v1 v2 : Value} {d : DataW H} {ps : List MemPlace}
    (h : DataW.trod enc P W base (fun _ => true) held fuel e [v0, v1, v2] = some (d, ps)) (hw : ∀ n ∈ d.weights P e, n ≤ reachBytes) : ∃ x : Ob, Ob3 W v0 v1 v2 x ∧ ObF x := by
  obtain ⟨xs, n, _, hx, _, hn, hf⟩ := DataW.trod_struct T.st h
  obtain ⟨o0, o1, o2, -⟩ := T.o
  obtain ⟨k0, k1, k2, -⟩ := T.c
  obtain ⟨-, zs, zw, zb⟩ := T.z
  obtain ⟨bb, bs, bw, -⟩ := T.b
  simp only [Prod.mk.injEq] at hx
  match xs, hn with
  | [y0, y1, y2], _ =>
  have q0 := hf 0 f0 rfl
  have q1 := hf 1 f1 rfl
  have q2 := hf 2 f2 rfl
  rw [o0, k0] at q0
  rw [o1, k1] at q1
  rw [o2, k2] at q2
  obtain ⟨d0, p0⟩ := y0
  obtain ⟨d1, p1⟩ := y1
  obtain ⟨d2, p2⟩ := y2
  obtain ⟨u0, l0, a0, hz0, wz0⟩ := readI T.u0 T.ub zb bb (show DataW.trod enc P W base (fun _ => true) held n f0.type [v0] = some (d0, p0) from q0) (fun m hm => by
    refine hw m ?_
    rw [hx.1]
    exact weights_mem T.st (i := 0) (f := f0) rfl rfl hm)
  obtain ⟨u1, l1, a1, hz1, wz1⟩ := readSlc (R := SyAt W) (F := SyF) T.u1 zs (by omega) bs (readSy1 T) (show DataW.trod enc P W base (fun _ => true) held n f1.type [v1] = some (d1, p1) from q1) (fun m hm => by
    refine hw m ?_
    rw [hx.1]
    exact weights_mem T.st (i := 1) (f := f1) rfl rfl hm)
  obtain ⟨u2, l2, a2, hz2, wz2⟩ := readSlc (R := WnAt W) (F := WnF) T.u2 zw (by omega) bw (readWn1 T) (show DataW.trod enc P W base (fun _ => true) held n f2.type [v2] = some (d2, p2) from q2) (fun m hm => by
    refine hw m ?_
    rw [hx.1]
    exact weights_mem T.st (i := 2) (f := f2) rfl rfl hm)
  cases a0; cases a1; cases a2
  exact ⟨⟨l0, l1, l2⟩, ⟨hz0, hz1, hz2⟩, wz0, wz1, wz2⟩
theorem readOb1 (T : ObTy P e es ew eb ts tw f0 f1 f2 s0 s1 g0 g1 g2 g3) (fuel b o : Nat) (cs : List Value) (d : DataW H) (ps : List MemPlace) (hcs : ∀ i, i < 3 → W.cell? ⟨b, o + i, none⟩ = cs[i]?) (hl : cs.length = 3)
    (h : DataW.trod enc P W base (fun _ => true) held fuel e cs = some (d, ps)) (hw : ∀ n ∈ d.weights P e, n ≤ reachBytes) : ∃ x : Ob, ObAt W b o x ∧ ObF x := by
  match cs, hl with
  | [v0, v1, v2], _ =>
  obtain ⟨x, h1, h2⟩ := readOb3 T h hw
  exact ⟨x, ⟨v0, v1, v2, hcs 0 (by omega), hcs 1 (by omega), hcs 2 (by omega), h1⟩, h2⟩
theorem readObs {t : TypeId} (ht : P.underlying t = some (.slice e)) (T : ObTy P e es ew eb ts tw f0 f1 f2 s0 s1 g0 g1 g2 g3) {fuel : Nat} {cs : List Value} {d : DataW H} {ps : List MemPlace}
    (h : DataW.trod enc P W base (fun _ => true) held fuel t cs = some (d, ps)) (hw : ∀ n ∈ d.weights P t, n ≤ reachBytes) : ∃ v l, cs = [v] ∧ Obs W v l ∧ ∀ x ∈ l, ObF x :=
  readSlc (R := ObAt W) (F := ObF) ht T.z.1 (by omega) T.b.2.2.2 (readOb1 T) h hw
end
end Go.Proofs.YtaegpeofecdhfaaGreat
namespace Go.Proofs.YtaegpeofecdhfaaGreat
open Go.RowKit
set_option linter.unusedVariables false
set_option linter.unusedSimpArgs false
def num32 (n : Int) : Bool := decide (-2147483648 ≤ n) && decide (n ≤ 2147483647)
def wantB (x : Wn) (size : Int) : Bool := decide (0 ≤ x.a) && decide (x.a ≤ size - 4) && (x.k == 0 || x.k == 1) && num32 x.n && num32 x.p
def symX (size : Int) (s : Sy) : Bool := !num32 s.n || decide (s.a < 0) || decide (size < s.a)
def nearP (x y : Wn) : Bool := decide (x.a < wrap64 (y.a + 4)) && decide (y.a < wrap64 (x.a + 4))
def nearR (x y : Wn) : Bool := decide (-3 ≤ IntKind.i64.wrap (x.a - y.a)) && decide (IntKind.i64.wrap (x.a - y.a) ≤ 3)
def wantsX (near : Wn → Wn → Bool) (size : Int) (t : List Wn) (n : Nat) : Bool := (List.range n).any fun i => !wantB (t.getD i default) size || (t.take i).any (near (t.getD i default))
def twiceX (s : List Sy) (n : Nat) : Bool := (List.range n).any fun i => (s.take i).any fun u => (s.getD i default).n == u.n
def valW (near : Wn → Wn → Bool) (o : Ob) : Int :=
  if 8192 < o.b.length ∨ 64 < o.s.length ∨ 64 < o.t.length then 3
  else if o.s.any (symX o.b.length) then 1
  else if wantsX near o.b.length o.t o.t.length then 1
  else if twiceX o.s o.s.length then 7 else 0
def valO (o : Ob) : Int := valW nearP o
theorem any_range_succ (n : Nat) (f : Nat → Bool) : (List.range (n + 1)).any f = ((List.range n).any f || f n) := by
  rw [List.range_succ, List.any_append]; simp
theorem wrap_small {n : Int} (h1 : -9223372036854775808 ≤ n) (h2 : n ≤ 9223372036854775807) : IntKind.i64.wrap n = n := by
  simp [IntKind.wrap_i64]
  omega
theorem wantB_bd {x : Wn} {z : Int} (h : wantB x z = true) : 0 ≤ x.a ∧ x.a ≤ z - 4 ∧ (x.k = 0 ∨ x.k = 1) ∧ (-2147483648 ≤ x.n ∧ x.n ≤ 2147483647) ∧ -2147483648 ≤ x.p ∧ x.p ≤ 2147483647 := by
  simp only [wantB, num32, Bool.and_eq_true, Bool.or_eq_true, decide_eq_true_eq, beq_iff_eq] at h
  omega
theorem near_eq {x y : Wn} {z : Int} (hz : z ≤ 1000000) (hx : wantB x z = true) (hy : wantB y z = true) : nearP x y = nearR x y := by
  obtain ⟨a1, a2, -⟩ := wantB_bd hx
  obtain ⟨b1, b2, -⟩ := wantB_bd hy
  unfold nearP nearR
  rw [IntWalk.wrap64_in (y.a + 4) (by omega), IntWalk.wrap64_in (x.a + 4) (by omega), wrap_small (by omega) (by omega), Bool.eq_iff_iff]
  simp only [Bool.and_eq_true, decide_eq_true_eq]
  omega
theorem any_take_congr {α : Type} [Inhabited α] {f g : α → Bool} : ∀ (l : List α), (∀ y ∈ l, f y = g y) → l.any f = l.any g
  | [], _ => rfl
  | y :: l, h => by
    rw [List.any_cons, List.any_cons, h y (List.mem_cons_self ..), any_take_congr l fun z hz => h z (List.mem_cons_of_mem _ hz)]
theorem wantsX_ok {near : Wn → Wn → Bool} {z : Int} {t : List Wn} {n : Nat} (h : wantsX near z t n = false) (hn : n ≤ t.length) : ∀ y ∈ t.take n, wantB y z = true := by
  intro y hy
  obtain ⟨i, hi, rfl⟩ := List.getElem_of_mem hy
  rw [List.length_take] at hi
  have h1 := List.any_eq_false.1 h i (List.mem_range.2 (by omega))
  simp only [Bool.or_eq_true, not_or, Bool.not_eq_true, Bool.not_eq_eq_eq_not] at h1
  have h2 := h1.1
  rw [List.getD_eq_getElem?_getD, List.getElem?_eq_getElem (by omega)] at h2
  simp at h2
  simpa using h2
theorem wantsX_eq {z : Int} (hz : z ≤ 1000000) {t : List Wn} : ∀ {n : Nat}, n ≤ t.length → wantsX nearP z t n = wantsX nearR z t n
  | 0, _ => rfl
  | n + 1, hn => by
    have ih := wantsX_eq hz (t := t) (n := n) (by omega)
    unfold wantsX at ih ⊢
    rw [any_range_succ, any_range_succ, ih]
    cases hp : (List.range n).any fun i => !wantB (t.getD i default) z || (t.take i).any (nearR (t.getD i default)) with
    | true => simp
    | false =>
      simp only [Bool.false_or]
      cases hx : wantB (t.getD n default) z with
      | false => simp
      | true =>
        simp only [Bool.not_true, Bool.false_or]
        have hok := wantsX_ok (near := nearR) (z := z) (t := t) (n := n) hp (by omega)
        exact any_take_congr _ fun y hy => near_eq hz hx (hok y hy)
theorem valO_ref (o : Ob) : valO o = valW nearR o := by
  unfold valO valW
  by_cases h : 8192 < o.b.length ∨ 64 < o.s.length ∨ 64 < o.t.length
  · rw [if_pos h, if_pos h]
  · rw [if_neg h, if_neg h, wantsX_eq (by omega) (Nat.le_refl _)]
theorem isNumber_any (n : Int) (w : World) : Calls Tryz.prog 37 #[.int .i64 n] w fun e w' => e = .returned (.bool (num32 n)) ∧ w = w' := by
  unfold num32
  cases h1 : decide (-2147483648 ≤ n)
  · go_enter Tryz.func37, Tryz.ntmps37
    go_wp2_with fail
    go_ret
    exact ⟨rfl, rfl⟩
  · cases h2 : decide (n ≤ 2147483647)
    all_goals go_enter Tryz.func37, Tryz.ntmps37
    all_goals go_wp2_with fail
    all_goals go_ret
    all_goals exact ⟨rfl, rfl⟩
theorem rwithin_any (n lo hi : Int) (w : World) : Calls Tryz.prog 42 #[.int .i64 n, .int .i64 lo, .int .i64 hi] w fun e w' => e = .returned (.bool (decide (lo ≤ n) && decide (n ≤ hi))) ∧ w = w' := by
  cases h1 : decide (lo ≤ n)
  · go_enter Tryz.func42, Tryz.ntmps42
    go_wp2_with fail
    go_ret
    exact ⟨rfl, rfl⟩
  · cases h2 : decide (n ≤ hi)
    all_goals go_enter Tryz.func42, Tryz.ntmps42
    all_goals go_wp2_with fail
    all_goals go_ret
    all_goals exact ⟨rfl, rfl⟩
theorem is32_any (n : Int) (w : World) : Calls Tryz.prog 43 #[.int .i64 n] w fun e w' => e = .returned (.bool (num32 n)) ∧ w = w' := by
  have C := Lib.hid fun w => rwithin_any n (-2147483648) 2147483647 w
  have E : Hid (num32 n = (decide (-2147483648 ≤ n) && decide (n ≤ 2147483647))) := rfl
  generalize num32 n = r at *
  rw [← E.out] at C
  go_enter Tryz.func43, Tryz.ntmps43
  go_wp2_with (go_at_call 42; with_reducible refine (C.out _).mono ?_; rintro e w' ⟨rfl, rfl⟩)
  go_ret
  exact ⟨rfl, rfl⟩
set_option maxHeartbeats 2000000 in
theorem isWant_any (x : Wn) (z : Int) (w : World) (hz : -1 ≤ z ∧ z ≤ 1000000) : Calls Tryz.prog 38 #[.agg #[.int .i64 x.a, .int .i64 x.k, .int .i64 x.n, .int .i64 x.p], .int .i64 z] w fun e w' => e = .returned (.bool (wantB x z)) ∧ Below w.heap.size w w' := by
  obtain ⟨a, k, n, p⟩ := x
  simp only [wantB]
  have HB : Hid (Below w.heap.size w (w.alloc (.cells #[.int .i64 a, .int .i64 k, .int .i64 n, .int .i64 p] 43))) := (Below.refl _ _).alloc (Nat.le_refl _) _
  have C1 := Lib.hid fun w => isNumber_any n w
  have C2 := Lib.hid fun w => isNumber_any p w
  generalize num32 n = bn at *
  generalize num32 p = bp at *
  cases h1 : decide (0 ≤ a)
  · go_enter Tryz.func38, Tryz.ntmps38
    go_wp2_with fail
    go_ret
    exact ⟨rfl, HB.out⟩
  cases h2 : decide (a ≤ z - 4)
  · go_enter Tryz.func38, Tryz.ntmps38
    go_wp2_with fail
    go_ret
    exact ⟨rfl, HB.out⟩
  cases h3 : (k == 0) <;> cases h4 : (k == 1) <;> cases bn <;> cases bp
  all_goals go_enter Tryz.func38, Tryz.ntmps38
  all_goals go_wp2_with (first | (go_at_call 37; with_reducible first | refine (C1.out _).mono ?_ | refine (C2.out _).mono ?_); rintro e w' ⟨rfl, rfl⟩)
  all_goals go_ret
  all_goals exact ⟨rfl, HB.out⟩
theorem vo1_any (s : Sy) (z B : Nat) (vb : Option Addr) (cb : Nat) (w : World) (hB : B < w.heap.size) (hb : w.cell? ⟨B, 0, none⟩ = some (.slice vb z cb)) :
    Calls Tryz.prog 36 #[.agg #[.int .i64 s.n, .int .i64 s.a], .pointer (some ⟨B, 0, none⟩)] w fun e w' => e = .returned (.bool (symX z s)) ∧ Below w.heap.size w w' := by
  obtain ⟨n, a⟩ := s
  simp only [symX]
  have hne : ¬ B = w.heap.size := by omega
  have HB : Hid (Below w.heap.size w (w.alloc (.cells #[.int .i64 n, .int .i64 a] 41))) := (Below.refl _ _).alloc (Nat.le_refl _) _
  have C1 := Lib.hid fun w => isNumber_any n w
  generalize num32 n = bn at *
  cases bn <;> cases h1 : decide (a < 0) <;> cases h2 : decide ((z : Int) < a)
  all_goals go_enter Tryz.func36, Tryz.ntmps36
  all_goals go_wp2_with (go_at_call 37; with_reducible refine (C1.out _).mono ?_; rintro e w' ⟨rfl, rfl⟩)
  all_goals go_ret
  all_goals exact ⟨rfl, HB.out⟩
theorem vo2_any (x y : Wn) (B : Nat) (w : World) (hB : B < w.heap.size) (hb : w.cell? ⟨B, 0, none⟩ = some (.int .i64 x.a)) :
    Calls Tryz.prog 40 #[.agg #[.int .i64 y.a, .int .i64 y.k, .int .i64 y.n, .int .i64 y.p], .pointer (some ⟨B, 0, none⟩)] w fun e w' => e = .returned (.bool (nearP x y)) ∧ Below w.heap.size w w' := by
  obtain ⟨a, k, n, p⟩ := y
  obtain ⟨a', k', n', p'⟩ := x
  simp only [nearP] at hb ⊢
  have hne : ¬ B = w.heap.size := by omega
  have HB : Hid (Below w.heap.size w (w.alloc (.cells #[.int .i64 a, .int .i64 k, .int .i64 n, .int .i64 p] 43))) := (Below.refl _ _).alloc (Nat.le_refl _) _
  generalize hy : wrap64 (a + 4) = y
  generalize hy' : wrap64 (a' + 4) = y'
  cases h1 : decide (a' < y) <;> cases h2 : decide (a < y')
  all_goals go_enter Tryz.func40, Tryz.ntmps40
  all_goals go_wp2_with fail
  all_goals go_ret
  all_goals exact ⟨rfl, HB.out⟩
theorem vo3_any (x y : Sy) (B : Nat) (w : World) (hB : B < w.heap.size) (hb : w.cell? ⟨B, 0, none⟩ = some (.int .i64 x.n)) :
    Calls Tryz.prog 41 #[.agg #[.int .i64 y.n, .int .i64 y.a], .pointer (some ⟨B, 0, none⟩)] w fun e w' => e = .returned (.bool (x.n == y.n)) ∧ Below w.heap.size w w' := by
  obtain ⟨n, a⟩ := y
  obtain ⟨n', a'⟩ := x
  simp only at hb ⊢
  have hne : ¬ B = w.heap.size := by omega
  have HB : Hid (Below w.heap.size w (w.alloc (.cells #[.int .i64 n, .int .i64 a] 41))) := (Below.refl _ _).alloc (Nat.le_refl _) _
  cases h1 : (n' == n)
  all_goals go_enter Tryz.func41, Tryz.ntmps41
  all_goals go_wp2_with fail
  all_goals go_ret
  all_goals exact ⟨rfl, HB.out⟩
end Go.Proofs.YtaegpeofecdhfaaGreat
namespace Go.Proofs
open Go.Shelf Go.RowKit Go.Lib
def Tryz.contS_ren : Go.Shelf.Ren := ⟨fun | 8 => 35 | 6 => 67 | n => n, fun | 22 => 23 | 23 => 41 | 25 => 83 | 4 => 4 | 3 => 3 | 0 => 0 | n => n, fun | n => n⟩
theorem Tryz.contS : Go.Proofs.SlLaysH0.n8 Tryz.prog Tryz.contS_ren := {
  mixed := by kernel_rfl
  f6 := ⟨Tryz.f67.name, by decide, Tryz.func67.trans (congrArg some (by kernel_rfl))⟩
  f8 := ⟨Tryz.f35.name, by decide, Tryz.func35.trans (congrArg some (by kernel_rfl))⟩
  t0 := Tryz.underlying0
  a0 := Tryz.isAgg0
  z0 := Tryz.sizeOf0
  v0 := Tryz.zeroValue0
  t3 := Tryz.underlying3
  a3 := Tryz.isAgg3
  z3 := Tryz.sizeOf3
  v3 := Tryz.zeroValue3
  t4 := Tryz.underlying4
  a4 := Tryz.isAgg4
  z4 := Tryz.sizeOf4
  v4 := Tryz.zeroValue4
  t22 := Tryz.underlying23
  a22 := Tryz.isAgg23
  z22 := Tryz.sizeOf23
  v22 := Tryz.zeroValue23
  t25 := Tryz.underlying83
  a25 := Tryz.isAgg83
  z25 := Tryz.sizeOf83
  v25 := Tryz.zeroValue83 }
def Tryz.contW_ren : Go.Shelf.Ren := ⟨fun | 8 => 39 | 6 => 68 | n => n, fun | 22 => 24 | 23 => 43 | 25 => 86 | 4 => 4 | 3 => 3 | 0 => 0 | n => n, fun | n => n⟩
theorem Tryz.contW : Go.Proofs.SlLaysH0.n8 Tryz.prog Tryz.contW_ren := {
  mixed := by kernel_rfl
  f6 := ⟨Tryz.f68.name, by decide, Tryz.func68.trans (congrArg some (by kernel_rfl))⟩
  f8 := ⟨Tryz.f39.name, by decide, Tryz.func39.trans (congrArg some (by kernel_rfl))⟩
  t0 := Tryz.underlying0
  a0 := Tryz.isAgg0
  z0 := Tryz.sizeOf0
  v0 := Tryz.zeroValue0
  t3 := Tryz.underlying3
  a3 := Tryz.isAgg3
  z3 := Tryz.sizeOf3
  v3 := Tryz.zeroValue3
  t4 := Tryz.underlying4
  a4 := Tryz.isAgg4
  z4 := Tryz.sizeOf4
  v4 := Tryz.zeroValue4
  t22 := Tryz.underlying24
  a22 := Tryz.isAgg24
  z22 := Tryz.sizeOf24
  v22 := Tryz.zeroValue24
  t25 := Tryz.underlying86
  a25 := Tryz.isAgg86
  z25 := Tryz.sizeOf86
  v25 := Tryz.zeroValue86 }
end Go.Proofs
namespace Go.Proofs.YtaegpeofecdhfaaGreat
open Go.RowKit
set_option linter.unusedVariables false
set_option linter.unusedSimpArgs false
def encS (x : Sy) : List Value := [.int .i64 x.n, .int .i64 x.a]
def encW (x : Wn) : List Value := [.int .i64 x.a, .int .i64 x.k, .int .i64 x.n, .int .i64 x.p]
theorem contS_none (a : Option Addr) (c : Nat) (f : Value) (w : World) : Calls Tryz.prog 35 #[.slice a 0 c, f] w fun e w' => e = .returned (.bool false) ∧ Below w.heap.size w w' := by
  have C : Hid (∀ w, Calls Tryz.prog 67 #[.slice a 0 c, f] w fun e w' => e = .returned (.int .i64 (-1)) ∧ w = w') := Lib.hid fun w => by
    go_enter Tryz.func67, Tryz.ntmps67
    go_wp2_with fail
    go_loopg [5, 8] 0 (fun _ _ s8 wr => s8 = .int .i64 0 ∧ wr = w)
    case atStart => exact ⟨rfl, rfl⟩
    case round =>
      obtain ⟨rfl, rfl⟩ := hrel
      go_wp2_with fail
      go_ret
      exact ⟨rfl, rfl⟩
  have HB := Lib.hid (Below.refl w.heap.size w)
  go_enter Tryz.func35, Tryz.ntmps35
  go_wp2_with (go_at_call 67; with_reducible refine (C.out _).mono ?_; rintro e w' ⟨rfl, rfl⟩)
  go_ret
  exact ⟨rfl, HB.out⟩
theorem contW_none (a : Option Addr) (c : Nat) (f : Value) (w : World) : Calls Tryz.prog 39 #[.slice a 0 c, f] w fun e w' => e = .returned (.bool false) ∧ Below w.heap.size w w' := by
  have C : Hid (∀ w, Calls Tryz.prog 68 #[.slice a 0 c, f] w fun e w' => e = .returned (.int .i64 (-1)) ∧ w = w') := Lib.hid fun w => by
    go_enter Tryz.func68, Tryz.ntmps68
    go_wp2_with fail
    go_loopg [5, 8] 0 (fun _ _ s8 wr => s8 = .int .i64 0 ∧ wr = w)
    case atStart => exact ⟨rfl, rfl⟩
    case round =>
      obtain ⟨rfl, rfl⟩ := hrel
      go_wp2_with fail
      go_ret
      exact ⟨rfl, rfl⟩
  have HB := Lib.hid (Below.refl w.heap.size w)
  go_enter Tryz.func39, Tryz.ntmps39
  go_wp2_with (go_at_call 68; with_reducible refine (C.out _).mono ?_; rintro e w' ⟨rfl, rfl⟩)
  go_ret
  exact ⟨rfl, HB.out⟩
theorem getD_bang {α : Type} [Inhabited α] (l : List α) (j : Nat) (h : j < l.length) : l[j]! = l.getD j default := by
  rw [List.getD_eq_getElem?_getD, List.getElem?_eq_getElem h, getElem!_pos l j h]; rfl
theorem contS_any (l : List Sy) (p : Sy → Bool) (g : Nat) (lb : Array Value) (eg : ∀ args w, (callFunc g args).run Tryz.prog w = .ok (.enter g args) w) (n c : Nat) (a : Option Addr) (w : World)
    (hS : ∀ i, i < l.length → ∃ b o, a = some ⟨b, o, none⟩ ∧ b < w.heap.size ∧ SyAt w b (o + i * 2) (l.getD i default)) (hn : n ≤ l.length) (hl : l.length ≤ 140737488351232)
    (hp : PredBelow Tryz.prog g lb (fun x => .agg (encS x).toArray) p w) :
    Calls Tryz.prog 35 #[.slice a n c, .func (.func g) #[] lb] w fun e w' => e = .returned (.bool ((l.take n).any p)) ∧ Below w.heap.size w w' := by
  by_cases h0 : n = 0
  · subst h0
    exact contS_none a c _ w
  · obtain ⟨b, o, rfl, hb, -⟩ := hS 0 (by omega)
    refine AnyQ.slices_ContainsFunc Tryz.contS 2 Tryz.isAgg41 Tryz.sizeOf41 encS (fun _ => rfl) p g lb eg b o n c l w hp hn (by omega) hb (fun j hj i v hi => ?_)
    obtain ⟨b', o', e, -, h1, h2⟩ := hS j hj
    cases e
    rw [getD_bang l j hj] at hi
    generalize l.getD j default = y at hi h1 h2
    match i, hi with
    | 0, hi => simp [encS] at hi; rw [← hi]; exact h1
    | 1, hi => simp [encS] at hi; rw [← hi]; exact h2
    | i + 2, hi => simp [encS] at hi
theorem contW_any (l : List Wn) (p : Wn → Bool) (g : Nat) (lb : Array Value) (eg : ∀ args w, (callFunc g args).run Tryz.prog w = .ok (.enter g args) w) (n c : Nat) (a : Option Addr) (w : World)
    (hS : ∀ i, i < l.length → ∃ b o, a = some ⟨b, o, none⟩ ∧ b < w.heap.size ∧ WnAt w b (o + i * 4) (l.getD i default)) (hn : n ≤ l.length) (hl : l.length ≤ 140737488351232)
    (hp : PredBelow Tryz.prog g lb (fun x => .agg (encW x).toArray) p w) :
    Calls Tryz.prog 39 #[.slice a n c, .func (.func g) #[] lb] w fun e w' => e = .returned (.bool ((l.take n).any p)) ∧ Below w.heap.size w w' := by
  by_cases h0 : n = 0
  · subst h0
    exact contW_none a c _ w
  · obtain ⟨b, o, rfl, hb, -⟩ := hS 0 (by omega)
    refine AnyQ.slices_ContainsFunc Tryz.contW 4 Tryz.isAgg43 Tryz.sizeOf43 encW (fun _ => rfl) p g lb eg b o n c l w hp hn (by omega) hb (fun j hj i v hi => ?_)
    obtain ⟨b', o', e, -, h1, h2, h3, h4⟩ := hS j hj
    cases e
    rw [getD_bang l j hj] at hi
    generalize l.getD j default = y at hi h1 h2 h3 h4
    match i, hi with
    | 0, hi => simp [encW] at hi; rw [← hi]; exact h1
    | 1, hi => simp [encW] at hi; rw [← hi]; exact h2
    | 2, hi => simp [encW] at hi; rw [← hi]; exact h3
    | 3, hi => simp [encW] at hi; rw [← hi]; exact h4
    | i + 4, hi => simp [encW] at hi
theorem eg1 : ∀ args w, (callFunc 36 args).run Tryz.prog w = .ok (.enter 36 args) w := enters_of Tryz.func36 (by kernel_rfl) rfl
theorem eg2 : ∀ args w, (callFunc 40 args).run Tryz.prog w = .ok (.enter 40 args) w := enters_of Tryz.func40 (by kernel_rfl) rfl
theorem eg3 : ∀ args w, (callFunc 41 args).run Tryz.prog w = .ok (.enter 41 args) w := enters_of Tryz.func41 (by kernel_rfl) rfl
theorem pred1 (z B : Nat) (vb : Option Addr) (cb : Nat) (w : World) (hB : B < w.heap.size) (hb : w.cell? ⟨B, 0, none⟩ = some (.slice vb z cb)) : PredBelow Tryz.prog 36 #[.pointer (some ⟨B, 0, none⟩)] (fun x => .agg (encS x).toArray) (symX z) w := fun W x h =>
  (vo1_any x z B vb cb W (Nat.lt_of_lt_of_le hB h.size) ((h.cell (p := ⟨B, 0, none⟩) hB).trans hb)).mono fun e w' ⟨he, h'⟩ => ⟨he, h.trans (h'.mono h.size)⟩
theorem pred2 (x : Wn) (B : Nat) (w : World) (hB : B < w.heap.size) (hb : w.cell? ⟨B, 0, none⟩ = some (.int .i64 x.a)) : PredBelow Tryz.prog 40 #[.pointer (some ⟨B, 0, none⟩)] (fun x => .agg (encW x).toArray) (nearP x) w := fun W y h =>
  (vo2_any x y B W (Nat.lt_of_lt_of_le hB h.size) ((h.cell (p := ⟨B, 0, none⟩) hB).trans hb)).mono fun e w' ⟨he, h'⟩ => ⟨he, h.trans (h'.mono h.size)⟩
theorem pred3 (x : Sy) (B : Nat) (w : World) (hB : B < w.heap.size) (hb : w.cell? ⟨B, 0, none⟩ = some (.int .i64 x.n)) : PredBelow Tryz.prog 41 #[.pointer (some ⟨B, 0, none⟩)] (fun x => .agg (encS x).toArray) (fun y => x.n == y.n) w := fun W y h =>
  (vo3_any x y B W (Nat.lt_of_lt_of_le hB h.size) ((h.cell (p := ⟨B, 0, none⟩) hB).trans hb)).mono fun e w' ⟨he, h'⟩ => ⟨he, h.trans (h'.mono h.size)⟩
end Go.Proofs.YtaegpeofecdhfaaGreat
namespace Go.Proofs.YtaegpeofecdhfaaGreat
set_option linter.unusedVariables false
set_option linter.unusedSimpArgs false
structure In (C : World → Prop) where
  w : World
  h : C w
section
variable {P : Program} {ops : Array Oper} {md : Region.Mode} {C : World → Prop}
end
section
variable {P : Program} {C : World → Prop} {id : Nat} {Q : Exit → Act → World → Prop} {a : Act} {w : World} {l : List Oper}
end
end Go.Proofs.YtaegpeofecdhfaaGreat
namespace Go.Proofs.YtaegpeofecdhfaaGreat
open Go.RowKit
set_option linter.unusedVariables false
set_option linter.unusedSimpArgs false
theorem ret_i {k : IntKind} {a b : Int} (h : a = b) : Ending.returned (.int k a) = .returned (.int k b) := by rw [h]
theorem ret_b {a b : Bool} (h : a = b) : Ending.returned (.bool a) = .returned (.bool b) := by rw [h]
def Dr (w w' : World) : Prop := ∃ n, w' = w.drewN n
theorem Dr.refl (w : World) : Dr w w := ⟨0, rfl⟩
theorem Dr.drew {w w' : World} (h : Dr w w') (n : Nat) : Dr w (w'.drewN n) := by
  obtain ⟨m, rfl⟩ := h
  exact ⟨m + n, World.drewN_drewN _ _ _⟩
theorem Dr.below {w w' : World} (h : Dr w w') (B : Nat) : Below B w w' := by
  obtain ⟨n, rfl⟩ := h
  exact ⟨rfl, rfl, rfl, Nat.le_refl _, fun _ _ => rfl⟩
theorem Dr.trans {w w' w'' : World} (h : Dr w w') (h' : Dr w' w'') : Dr w w'' := by
  obtain ⟨m, rfl⟩ := h'
  exact h.drew m
theorem quiet_same {P : Program} {f : FuncId} {args : Array Value} {w : World} {n : Nat} {v : Value} (h : Calls P f args (w.drewN n) fun e w' => e = .returned v ∧ w.drewN n = w') :
    Calls P f args (w.drewN n) fun e w'' => e = .returned v ∧ ∃ m, w'' = w.drewN m := h.mono fun _ _ ⟨he, hm⟩ => ⟨he, n, hm.symm⟩
def Since (w0 w : World) : Prop := Below w0.heap.size w0 w
theorem Since.refl (w : World) : Since w w := Below.refl _ _
theorem Since.drewN {w0 w : World} (h : Since w0 w) (n : Nat) : Since w0 (w.drewN n) := below_drewN h n
theorem Since.drew {w0 w : World} (h : Since w0 w) : Since w0 w.drew := Below.drew h
theorem Since.next {w0 w w' : World} (h : Since w0 w) (hb : Below w.heap.size w w') : Since w0 w' := below_hop h hb
theorem Since.cell {w0 w : World} (h : Since w0 w) {b o : Nat} {v : Value} (hc : w0.cell? ⟨b, o, none⟩ = some v) : w.cell? ⟨b, o, none⟩ = some v := below_cell h (cell_lt hc) hc
theorem Since.free {w0 w : World} (h : Since w0 w) {b o : Nat} (hb : b < w0.heap.size) (hf : w0.frozen? ⟨b, o, none⟩ = false) : w.frozen? ⟨b, o, none⟩ = false := by rw [← hf]; exact Below.frozen (p := ⟨b, o, none⟩) h hb
theorem cell_alloc {w : World} {ob : Obj} {b o : Nat} {v : Value} (h : w.cell? ⟨b, o, none⟩ = some v) : (w.alloc ob).cell? ⟨b, o, none⟩ = some v := below_cell ((Below.refl _ _).alloc (Nat.le_refl _) _) (cell_lt h) h
theorem Ints.nil (k : IntKind) (w : World) : Ints k w (.slice none 0 0) [] := ⟨none, 0, rfl, Nat.le_refl _, ⟨by simp, by omega⟩, fun _ => rfl, fun i hi => absurd hi (by simp)⟩
theorem Ints.at {k : IntKind} {w : World} {v : Value} {xs : List Int} (h : Ints k w v xs) {j : Nat} (hj : j < xs.length) : ∃ b q c, v = .slice (some ⟨b, q, none⟩) xs.length c ∧ xs.length ≤ c ∧ b < w.heap.size ∧ w.cell? ⟨b, q + j, none⟩ = some (.int k (xs.getD j 0)) := by
  obtain ⟨a, c, rfl, h1, h2, _, h4⟩ := h
  obtain ⟨b, q, rfl, h5, h6⟩ := h4 j hj
  rw [Nat.mul_one] at h6
  exact ⟨b, q, c, rfl, h1, h5, h6⟩
theorem Ints.shape {k : IntKind} {w : World} {v : Value} {xs : List Int} (h : Ints k w v xs) : ∃ a c, v = .slice a xs.length c ∧ xs.length ≤ c ∧ xs.length ≤ 140737488351232 := by
  obtain ⟨a, c, rfl, h1, h2, _⟩ := h
  exact ⟨a, c, rfl, h1, h2.1⟩
theorem Ints.row {k : IntKind} {w : World} {a : Option Addr} {n c : Nat} {xs : List Int} (h : Ints k w (.slice a n c) xs) (h0 : 0 < xs.length) : ∃ b o, a = some ⟨b, o, none⟩ ∧ b < w.heap.size ∧ ∀ i, i < xs.length → w.cell? ⟨b, o + i, none⟩ = some (.int k (xs.getD i 0)) := by
  obtain ⟨a', c', e, _, _, _, hc⟩ := h
  cases e
  obtain ⟨b, o, rfl, hb, _⟩ := hc 0 h0
  refine ⟨b, o, rfl, hb, fun i hi => ?_⟩
  obtain ⟨b', o', e2, _, hd⟩ := hc i hi
  cases e2
  rw [Nat.mul_one] at hd
  exact hd
def OInts (k : IntKind) (w : World) (B : Nat) (xs : List Int) : Prop :=
  B < w.heap.size ∧ ∀ i, i < xs.length → w.cell? ⟨B, i, none⟩ = some (.int k (xs.getD i 0)) ∧ w.frozen? ⟨B, i, none⟩ = false
theorem OInts.cell {k : IntKind} {w : World} {B : Nat} {xs : List Int} (h : OInts k w B xs) {i : Nat} (hi : i < xs.length) : w.cell? ⟨B, i, none⟩ = some (.int k (xs.getD i 0)) := (h.2 i hi).1
theorem OInts.free {k : IntKind} {w : World} {B : Nat} {xs : List Int} (h : OInts k w B xs) {i : Nat} (hi : i < xs.length) : w.frozen? ⟨B, i, none⟩ = false := (h.2 i hi).2
theorem OInts.below {k : IntKind} {w w' : World} {B : Nat} {xs : List Int} (h : OInts k w B xs) (hb : Below w.heap.size w w') : OInts k w' B xs :=
  ⟨Nat.lt_of_lt_of_le h.1 hb.size, fun i hi => ⟨by rw [← h.cell hi]; exact hb.cell (p := ⟨B, i, none⟩) h.1, by rw [← h.free hi]; exact hb.frozen (p := ⟨B, i, none⟩) h.1⟩⟩
theorem OInts.alloc {k : IntKind} {w : World} {B : Nat} {xs : List Int} (h : OInts k w B xs) (ob : Obj) : OInts k (w.alloc ob) B xs := h.below ((Below.refl _ _).alloc (Nat.le_refl _) _)
theorem OInts.drewN {k : IntKind} {w : World} {B : Nat} {xs : List Int} (h : OInts k w B xs) (n : Nat) : OInts k (w.drewN n) B xs := h
theorem OInts.set {k : IntKind} {w : World} {B : Nat} {xs : List Int} (h : OInts k w B xs) {i : Nat} (hi : i < xs.length) (x : Int) : OInts k (w.setCell ⟨B, i, none⟩ (.int k x)) B (xs.set i x) := by
  refine ⟨by simpa using h.1, fun j hj => ?_⟩
  rw [List.length_set] at hj
  refine ⟨?_, by rw [World.frozen?_setCell]; exact h.free hj⟩
  by_cases e : i = j
  · subst e
    rw [World.cell?_setCell_same _ _ _ (h.cell hi), List.getD_eq_getElem?_getD, List.getElem?_set_self hi]; rfl
  · rw [World.cell?_setCell_other _ _ _ _ (by intro hh; cases hh; exact e rfl), h.cell hj, List.getD_eq_getElem?_getD, List.getD_eq_getElem?_getD, List.getElem?_set_ne e]
theorem OInts.ints {k : IntKind} {w : World} {B : Nat} {xs : List Int} (h : OInts k w B xs) (hl : xs.length ≤ 140737488351232) : Ints k w (.slice (some ⟨B, 0, none⟩) xs.length xs.length) xs :=
  ⟨some ⟨B, 0, none⟩, xs.length, rfl, Nat.le_refl _, ⟨hl, by omega⟩, (fun hh => by cases hh), fun i hi => ⟨B, 0, rfl, h.1, by rw [Nat.mul_one, Nat.zero_add]; exact h.cell hi⟩⟩
theorem Ints.newsK {k : IntKind} {w : World} {ad : Addr} {n c : Nat} {xs : List Int} (h : Ints k w (.slice (some ad) n c) xs) : ∀ (j : Nat) (u : Value), (xs.map (Value.int k))[j]? = some u → w.cell? (ad.add j) = some u := by
  intro j u hu
  rw [List.getElem?_map] at hu
  cases e : xs[j]? with
  | none => rw [e] at hu; cases hu
  | some y =>
    rw [e] at hu
    cases hu
    have hj : j < xs.length := by
      rcases Nat.lt_or_ge j xs.length with h | h
      · exact h
      · rw [List.getElem?_eq_none h] at e; cases e
    obtain ⟨a, c', e', _, _, _, h4⟩ := h
    cases e'
    obtain ⟨b', o', e', h5, h6⟩ := h4 j hj
    cases e'
    rw [Nat.mul_one, List.getD_eq_getElem?_getD, e] at h6
    by_cases hj0 : j = 0
    · subst hj0; exact h6
    · simpa [Addr.add, hj0] using h6
theorem Sys.shape {w : World} {v : Value} {l : List Sy} (h : Sys w v l) : ∃ a c, v = .slice a l.length c ∧ l.length ≤ c ∧ l.length ≤ 140737488351232 ∧ ∀ i, i < l.length → ∃ b o, a = some ⟨b, o, none⟩ ∧ b < w.heap.size ∧ SyAt w b (o + i * 2) (l.getD i default) := by
  obtain ⟨a, c, rfl, h1, h2, _, h3⟩ := h
  exact ⟨a, c, rfl, h1, h2.1, h3⟩
theorem Wns.shape {w : World} {v : Value} {l : List Wn} (h : Wns w v l) : ∃ a c, v = .slice a l.length c ∧ l.length ≤ c ∧ l.length ≤ 140737488351232 ∧ ∀ i, i < l.length → ∃ b o, a = some ⟨b, o, none⟩ ∧ b < w.heap.size ∧ WnAt w b (o + i * 4) (l.getD i default) := by
  obtain ⟨a, c, rfl, h1, h2, _, h3⟩ := h
  exact ⟨a, c, rfl, h1, h2.1, h3⟩
theorem Ints.shape2 {k : IntKind} {w : World} {v : Value} {l : List Int} (h : Ints k w v l) : ∃ a c, v = .slice a l.length c ∧ l.length ≤ c ∧ l.length ≤ 140737488351232 := by
  obtain ⟨a, c, rfl, h1, h2, _⟩ := h
  exact ⟨a, c, rfl, h1, h2.1⟩
theorem sRows {w w' : World} {a : Option Addr} {l : List Sy} (h : ∀ i, i < l.length → ∃ b o, a = some ⟨b, o, none⟩ ∧ b < w.heap.size ∧ SyAt w b (o + i * 2) (l.getD i default)) (hb : Below w.heap.size w w') : ∀ i, i < l.length → ∃ b o, a = some ⟨b, o, none⟩ ∧ b < w'.heap.size ∧ SyAt w' b (o + i * 2) (l.getD i default) := fun i hi => by
  obtain ⟨b, o, e, h1, h2⟩ := h i hi
  exact ⟨b, o, e, Nat.lt_of_lt_of_le h1 hb.size, h2.stays h1 hb⟩
theorem wRows {w w' : World} {a : Option Addr} {l : List Wn} (h : ∀ i, i < l.length → ∃ b o, a = some ⟨b, o, none⟩ ∧ b < w.heap.size ∧ WnAt w b (o + i * 4) (l.getD i default)) (hb : Below w.heap.size w w') : ∀ i, i < l.length → ∃ b o, a = some ⟨b, o, none⟩ ∧ b < w'.heap.size ∧ WnAt w' b (o + i * 4) (l.getD i default) := fun i hi => by
  obtain ⟨b, o, e, h1, h2⟩ := h i hi
  exact ⟨b, o, e, Nat.lt_of_lt_of_le h1 hb.size, h2.stays h1 hb⟩
theorem valO_3 {o : Ob} (h : 8192 < o.b.length ∨ 64 < o.s.length ∨ 64 < o.t.length) : valO o = 3 := if_pos h
theorem valO_1s {o : Ob} (h : ¬ (8192 < o.b.length ∨ 64 < o.s.length ∨ 64 < o.t.length)) (h1 : o.s.any (symX o.b.length) = true) : valO o = 1 := by
  unfold valO valW; rw [if_neg h, if_pos h1]
theorem valO_1w {o : Ob} (h : ¬ (8192 < o.b.length ∨ 64 < o.s.length ∨ 64 < o.t.length)) (h1 : o.s.any (symX o.b.length) = false) (h2 : wantsX nearP o.b.length o.t o.t.length = true) : valO o = 1 := by
  unfold valO valW; rw [if_neg h, h1, if_neg (by simp), if_pos h2]
theorem valO_7 {o : Ob} (h : ¬ (8192 < o.b.length ∨ 64 < o.s.length ∨ 64 < o.t.length)) (h1 : o.s.any (symX o.b.length) = false) (h2 : wantsX nearP o.b.length o.t o.t.length = false) (h3 : twiceX o.s o.s.length = true) : valO o = 7 := by
  unfold valO valW; rw [if_neg h, h1, if_neg (by simp), h2, if_neg (by simp), if_pos h3]
theorem valO_0 {o : Ob} (h : ¬ (8192 < o.b.length ∨ 64 < o.s.length ∨ 64 < o.t.length)) (h1 : o.s.any (symX o.b.length) = false) (h2 : wantsX nearP o.b.length o.t o.t.length = false) (h3 : twiceX o.s o.s.length = false) : valO o = 0 := by
  unfold valO valW; rw [if_neg h, h1, if_neg (by simp), h2, if_neg (by simp), h3, if_neg (by simp)]
theorem wantsX_hit {near : Wn → Wn → Bool} {z : Int} {t : List Wn} {n j : Nat} (hj : j < n) (h : (!wantB (t.getD j default) z || (t.take j).any (near (t.getD j default))) = true) : wantsX near z t n = true :=
  List.any_eq_true.2 ⟨j, List.mem_range.2 hj, h⟩
theorem wantsX_step {near : Wn → Wn → Bool} {z : Int} {t : List Wn} {j : Nat} (h0 : wantsX near z t j = false) (h : (!wantB (t.getD j default) z || (t.take j).any (near (t.getD j default))) = false) : wantsX near z t (j + 1) = false := by
  unfold wantsX at h0 ⊢
  rw [any_range_succ, h0, h]; rfl
theorem twiceX_hit {s : List Sy} {n j : Nat} (hj : j < n) (h : ((s.take j).any fun u => (s.getD j default).n == u.n) = true) : twiceX s n = true :=
  List.any_eq_true.2 ⟨j, List.mem_range.2 hj, h⟩
theorem twiceX_step {s : List Sy} {j : Nat} (h0 : twiceX s j = false) (h : ((s.take j).any fun u => (s.getD j default).n == u.n) = false) : twiceX s (j + 1) = false := by
  unfold twiceX at h0 ⊢
  rw [any_range_succ, h0, h]; rfl
set_option maxHeartbeats 4000000 in
theorem pVal_any (o : Ob) (vb vs vt : Value) (w : World) (h : Ob3 w vb vs vt o) : Calls Tryz.prog 13 #[.agg #[vb, vs, vt]] w fun e w' => e = .returned (.int .i64 (valO o)) ∧ Below w.heap.size w w' := by
  obtain ⟨hb, hs, ht⟩ := h
  obtain ⟨ba, cb, rfl, hb1, hb2⟩ := hb.shape2
  obtain ⟨sa, cs, rfl, hs1, hs2, hs3⟩ := hs.shape
  obtain ⟨ta, ct, rfl, ht1, ht2, ht3⟩ := ht.shape
  clear hb hs ht
  have B0 := Lib.hid ((Below.refl _ w).alloc (Nat.le_refl _) (.cells #[.slice ba o.b.length cb, .slice sa o.s.length cs, .slice ta o.t.length ct] 26))
  cases g1 : decide ((8192 : Int) < (o.b.length : Int))
  case true =>
    have HV : Hid (valO o = 3) := valO_3 (.inl (by have := of_decide_eq_true g1; omega))
    clear hs3 ht3
    go_enter Tryz.func13, Tryz.ntmps13
    go_wp2_with fail
    go_ret
    exact ⟨ret_i HV.out.symm, B0.out⟩
  cases g2 : decide ((64 : Int) < (o.s.length : Int))
  case true =>
    have HV : Hid (valO o = 3) := valO_3 (.inr (.inl (by have := of_decide_eq_true g2; omega)))
    clear hs3 ht3
    go_enter Tryz.func13, Tryz.ntmps13
    go_wp2_with fail
    go_ret
    exact ⟨ret_i HV.out.symm, B0.out⟩
  cases g3 : decide ((64 : Int) < (o.t.length : Int))
  case true =>
    have HV : Hid (valO o = 3) := valO_3 (.inr (.inr (by have := of_decide_eq_true g3; omega)))
    clear hs3 ht3
    go_enter Tryz.func13, Tryz.ntmps13
    go_wp2_with fail
    go_ret
    exact ⟨ret_i HV.out.symm, B0.out⟩
  have G : Hid (¬ (8192 < o.b.length ∨ 64 < o.s.length ∨ 64 < o.t.length)) := fun h => by
    have := of_decide_eq_false g1; have := of_decide_eq_false g2; have := of_decide_eq_false g3; omega
  have hz := of_decide_eq_false g1
  obtain ⟨W1, hW1⟩ : ∃ W, w.alloc (.cells #[.slice ba o.b.length cb, .slice sa o.s.length cs, .slice ta o.t.length ct] 26) = W := ⟨_, rfl⟩
  have q0 : W1.cell? ⟨w.heap.size, 0, none⟩ = some (.slice ba o.b.length cb) := by rw [← hW1]; simp [go_sem]
  have q1 : W1.cell? ⟨w.heap.size, 1, none⟩ = some (.slice sa o.s.length cs) := by rw [← hW1]; simp [go_sem]
  have q2 : W1.cell? ⟨w.heap.size, 2, none⟩ = some (.slice ta o.t.length ct) := by rw [← hW1]; simp [go_sem]
  have hlt : w.heap.size < W1.heap.size := by rw [← hW1]; simp
  rw [hW1] at B0
  have C1 := Lib.hid (contS_any o.s (symX o.b.length) 36 #[.pointer (some ⟨w.heap.size, 0, none⟩)] eg1 o.s.length cs sa W1 (sRows hs3 (B0.out.mono (Nat.le_refl _))) (Nat.le_refl _) hs2 (pred1 o.b.length w.heap.size ba cb W1 hlt q0))
  rw [List.take_length] at C1
  have HS := Lib.hid (sRows hs3 B0.out)
  have HT := Lib.hid (wRows ht3 B0.out)
  clear hs3 ht3
  cases g4 : o.s.any (symX o.b.length)
  case true =>
    have HV : Hid (valO o = 1) := valO_1s G.out g4
    rw [g4] at C1
    clear HS HT g4
    go_enter Tryz.func13, Tryz.ntmps13
    go_wp2_with (go_at_call 35; with_reducible refine C1.out.mono ?_; rintro e w2 ⟨rfl, hb2⟩)
    go_ret
    exact ⟨ret_i HV.out.symm, below_next B0.out (by omega) hb2⟩
  rw [g4] at C1
  have G4 := Lib.hid g4
  clear g4
  have hn4 : wrap64 ((o.b.length : Int)) = o.b.length := IntWalk.wrap64_in _ (by omega)
  go_enter Tryz.func13, Tryz.ntmps13
  go_wp2_with (go_at_call 35; with_reducible refine C1.out.mono ?_; rintro e w2 ⟨rfl, hb2⟩; have p0 := below_cell hb2 hlt q0; have p1 := below_cell hb2 hlt q1; have p2 := below_cell hb2 hlt q2; have HB2 := Lib.hid hb2; clear hb2 C1 q0 q1 q2 hW1)
  have T0 := Lib.hid p0
  have T1 := Lib.hid p1
  have T2 := Lib.hid p2
  have HS2 := Lib.hid (sRows HS.out HB2.out)
  have HT2 := Lib.hid (wRows HT.out HB2.out)
  have hlt2 : w.heap.size < w2.heap.size := Nat.lt_of_lt_of_le hlt HB2.out.size
  have HB0 : Hid (Below w.heap.size w w2) := below_next B0.out (by omega) HB2.out
  clear HS HT HB2 B0 hlt p0 p1 p2
  go_loopw [3, 4, 30] (fun _ _ i wr => ∃ j : Nat, j ≤ o.t.length ∧ i = .int .i64 j ∧ Hid (wantsX nearP o.b.length o.t j = false) ∧ Below w2.heap.size w2 wr) (fun _ _ i _ => o.t.length - (intOf i).toNat)
  case atStart => exact ⟨0, Nat.zero_le _, rfl, rfl, Below.refl _ _⟩
  case round =>
    obtain ⟨j, hj, rfl, hno, hb⟩ := hrel
    have HB := Lib.hid hb
    have hbs := hb.size
    by_cases hjl : j < o.t.length
    · obtain ⟨b, q, ea, hbl, x0, x1, x2, x3⟩ := wRows HT2.out hb j hjl
      subst ea
      have HR := Lib.hid (wRows HT2.out hb)
      generalize hx : o.t.getD j default = x at *
      have HX := Lib.hid hx
      clear hx
      obtain ⟨xa, xk, xn, xp⟩ := x
      simp only at x0 x1 x2 x3
      have p0 := below_cell hb hlt2 T0.out
      have p2 := below_cell hb hlt2 T2.out
      have hne : ¬ w.heap.size = wr.heap.size := by omega
      have hne2 : ¬ b = wr.heap.size := by omega
      have hlr : w.heap.size < wr.heap.size := by omega
      obtain ⟨Wx, hWx⟩ : ∃ W, wr.alloc (.cells #[.int .i64 xa, .int .i64 xk, .int .i64 xn, .int .i64 xp] 43) = W := ⟨_, rfl⟩
      have BX : Hid (Below wr.heap.size wr Wx) := by rw [← hWx]; exact (Below.refl _ _).alloc (Nat.le_refl _) _
      have z0 : Wx.cell? ⟨wr.heap.size, 0, none⟩ = some (.int .i64 xa) := by rw [← hWx]; simp [go_sem]
      have z1 : Wx.cell? ⟨wr.heap.size, 1, none⟩ = some (.int .i64 xk) := by rw [← hWx]; simp [go_sem]
      have z2 : Wx.cell? ⟨wr.heap.size, 2, none⟩ = some (.int .i64 xn) := by rw [← hWx]; simp [go_sem]
      have z3 : Wx.cell? ⟨wr.heap.size, 3, none⟩ = some (.int .i64 xp) := by rw [← hWx]; simp [go_sem]
      have hlx : wr.heap.size < Wx.heap.size := by rw [← hWx]; simp
      have p0x := below_cell BX.out hlr p0
      have p2x := below_cell BX.out hlr p2
      have C2 := Lib.hid fun W => isWant_any ⟨xa, xk, xn, xp⟩ o.b.length W (by omega)
      clear hb
      cases hw : wantB ⟨xa, xk, xn, xp⟩ o.b.length
      · have HV : Hid (valO o = 1) := valO_1w G.out G4.out (wantsX_hit hjl (by rw [HX.out, hw]; rfl))
        rw [hw] at C2
        go_wp2_with (go_at_call 38; with_reducible refine (C2.out _).mono ?_; rintro e w3 ⟨rfl, hb3⟩)
        go_ret
        exact ⟨ret_i HV.out.symm, below_next (below_next (below_next HB0.out (by omega) HB.out) (by omega) BX.out) (by omega) hb3⟩
      · rw [hw] at C2
        have HW := Lib.hid hw
        clear hw
        have C3 : Hid (∀ W, Below Wx.heap.size Wx W → Calls Tryz.prog 39 #[.slice (some ⟨b, q, none⟩) j ct, .func (.func 40) #[] #[.pointer (some ⟨wr.heap.size, 0, none⟩)]] W fun e w' => e = .returned (.bool ((o.t.take j).any (nearP ⟨xa, xk, xn, xp⟩))) ∧ Below W.heap.size W w') := fun W hW =>
          contW_any o.t (nearP ⟨xa, xk, xn, xp⟩) 40 _ eg2 j ct _ W (wRows HR.out (below_next BX.out (by omega) hW)) (by omega) ht2 (pred2 ⟨xa, xk, xn, xp⟩ wr.heap.size W (Nat.lt_of_lt_of_le hlx hW.size) (below_cell hW hlx z0))
        have B3 : Hid (∀ W W', Below Wx.heap.size Wx W → Below W.heap.size W W' → Below w2.heap.size w2 W') := fun W W' h1 h2 => by
          have e1 := h1.size
          exact below_next (below_next (below_next HB.out (by omega) BX.out) (by omega) h1) (by omega) h2
        have j0 : (0 : Int) ≤ (j : Int) := by omega
        have j1 : (j : Int) ≤ (o.t.length : Int) := by omega
        have j2 : (j : Int) ≤ (ct : Int) := by omega
        have j3 : j ≤ ct := by omega
        have hjn : (j : Int) < (o.t.length : Int) := by omega
        have hlwx : w.heap.size < Wx.heap.size := by omega
        cases hn : (o.t.take j).any (nearP ⟨xa, xk, xn, xp⟩)
        · rw [hn] at C3
          have HN : Hid (wantsX nearP o.b.length o.t (j + 1) = false) := wantsX_step hno.out (by rw [HX.out, HW.out, hn]; rfl)
          clear hn
          go_wp2_with (first | (go_at_call 38; with_reducible refine (C2.out _).mono ?_; rintro e w3 ⟨rfl, hb3⟩; have p3 := below_cell hb3 hlwx p2x; have HB3 := Lib.hid hb3; clear hb3) | (go_at_call 39; with_reducible refine (C3.out _ HB3.out).mono ?_; rintro e w4 ⟨rfl, hb4⟩))
          go_roundw
          case rel => exact ⟨j + 1, by omega, by go_num, HN.out, B3.out _ _ HB3.out hb4⟩
          case measure => simp [intOf]; omega
        · rw [hn] at C3
          have HV : Hid (valO o = 1) := valO_1w G.out G4.out (wantsX_hit hjl (by rw [HX.out, hn]; simp))
          clear hn
          go_wp2_with (first | (go_at_call 38; with_reducible refine (C2.out _).mono ?_; rintro e w3 ⟨rfl, hb3⟩; have p3 := below_cell hb3 hlwx p2x; have HB3 := Lib.hid hb3; clear hb3) | (go_at_call 39; with_reducible refine (C3.out _ HB3.out).mono ?_; rintro e w4 ⟨rfl, hb4⟩))
          go_ret
          exact ⟨ret_i HV.out.symm, below_next HB0.out (by omega) (B3.out _ _ HB3.out hb4)⟩
    · obtain rfl : j = o.t.length := by omega
      have HW := Lib.hid hno.out
      have p1 := below_cell hb hlt2 T1.out
      have HB1 : Hid (Below w.heap.size w wr) := below_next HB0.out (by omega) HB.out
      have HS1 := Lib.hid (sRows HS2.out hb)
      have hlr : w.heap.size < wr.heap.size := by omega
      obtain ⟨wo, rfl⟩ : ∃ wo : World, wo = wr := ⟨_, rfl⟩
      have P1 := Lib.hid p1
      clear hb hbs HB HT2 HS2 HB0 hlt2 hno T0 T2 T1
      go_wp2_with fail
      clear p1
      go_loopw [5, 6, 51] (fun _ _ i wr => ∃ j : Nat, j ≤ o.s.length ∧ i = .int .i64 j ∧ Hid (twiceX o.s j = false) ∧ Below wo.heap.size wo wr) (fun _ _ i _ => o.s.length - (intOf i).toNat)
      case atStart => exact ⟨0, Nat.zero_le _, rfl, rfl, Below.refl _ _⟩
      case round =>
        obtain ⟨j, hj, rfl, hno, hb⟩ := hrel
        have HB := Lib.hid hb
        have hbs := hb.size
        by_cases hjl : j < o.s.length
        · obtain ⟨b, q, ea, hbl, x0, x1⟩ := sRows HS1.out hb j hjl
          subst ea
          have HR := Lib.hid (sRows HS1.out hb)
          generalize hx : o.s.getD j default = x at *
          have HX := Lib.hid hx
          clear hx
          obtain ⟨xn, xa⟩ := x
          simp only at x0 x1
          have p1 := below_cell hb hlr P1.out
          have hne : ¬ w.heap.size = wr.heap.size := by omega
          have hne2 : ¬ b = wr.heap.size := by omega
          obtain ⟨Wx, hWx⟩ : ∃ W, wr.alloc (.cells #[.int .i64 xn, .int .i64 xa] 41) = W := ⟨_, rfl⟩
          have BX : Hid (Below wr.heap.size wr Wx) := by rw [← hWx]; exact (Below.refl _ _).alloc (Nat.le_refl _) _
          have z0 : Wx.cell? ⟨wr.heap.size, 0, none⟩ = some (.int .i64 xn) := by rw [← hWx]; simp [go_sem]
          have hlx : wr.heap.size < Wx.heap.size := by rw [← hWx]; simp
          have p1x := below_cell BX.out (by omega) p1
          clear hb
          have C3 : Hid (Calls Tryz.prog 35 #[.slice (some ⟨b, q, none⟩) j cs, .func (.func 41) #[] #[.pointer (some ⟨wr.heap.size, 0, none⟩)]] Wx fun e w' => e = .returned (.bool ((o.s.take j).any fun y => xn == y.n)) ∧ Below Wx.heap.size Wx w') :=
            contS_any o.s (fun y => xn == y.n) 41 _ eg3 j cs _ Wx (sRows HR.out BX.out) (by omega) hs2 (pred3 ⟨xn, xa⟩ wr.heap.size Wx hlx z0)
          have B3 : Hid (∀ W', Below Wx.heap.size Wx W' → Below wo.heap.size wo W') := fun W' h1 => below_next (below_next HB.out (by omega) BX.out) (by omega) h1
          have j0 : (0 : Int) ≤ (j : Int) := by omega
          have j1 : (j : Int) ≤ (o.s.length : Int) := by omega
          have j2 : (j : Int) ≤ (cs : Int) := by omega
          have j3 : j ≤ cs := by omega
          have hjn : (j : Int) < (o.s.length : Int) := by omega
          cases hn : (o.s.take j).any fun y => xn == y.n
          · rw [hn] at C3
            have HN : Hid (twiceX o.s (j + 1) = false) := twiceX_step hno.out (by rw [HX.out]; exact hn)
            clear hn
            go_wp2_with (go_at_call 35; with_reducible refine C3.out.mono ?_; rintro e w4 ⟨rfl, hb4⟩)
            go_roundw
            case rel => exact ⟨j + 1, by omega, by go_num, HN.out, B3.out _ hb4⟩
            case measure => simp [intOf]; omega
          · rw [hn] at C3
            have HV : Hid (valO o = 7) := valO_7 G.out G4.out HW.out (twiceX_hit hjl (by rw [HX.out]; exact hn))
            clear hn
            go_wp2_with (go_at_call 35; with_reducible refine C3.out.mono ?_; rintro e w4 ⟨rfl, hb4⟩)
            go_ret
            exact ⟨ret_i HV.out.symm, below_next HB1.out (by omega) (B3.out _ hb4)⟩
        · obtain rfl : j = o.s.length := by omega
          have HV : Hid (valO o = 0) := valO_0 G.out G4.out HW.out hno.out
          go_wp2_with fail
          go_ret
          exact ⟨ret_i HV.out.symm, below_next HB1.out (by omega) HB.out⟩
theorem symX_ref (z : Int) (s : Sy) : symX z s = (!(decide (0 ≤ s.a) && decide (s.a ≤ z)) || !num32 s.n) := by
  unfold symX
  generalize num32 s.n = b
  rw [Bool.eq_iff_iff]
  cases b <;> simp <;> omega
theorem wantB_ref (x : Wn) (z : Int) : wantB x z = ((decide (0 ≤ x.a) && decide (x.a ≤ z - 4)) && (decide (0 ≤ x.k) && decide (x.k ≤ 1)) && num32 x.n && num32 x.p) := by
  unfold wantB
  generalize num32 x.n = b
  generalize num32 x.p = c
  rw [Bool.eq_iff_iff]
  cases b <;> cases c <;> simp
  omega
theorem symX_any_hit {z : Int} {s : List Sy} {j : Nat} (hj : j < s.length) (h : symX z (s.getD j default) = true) : s.any (symX z) = true := by
  rw [List.getD_eq_getElem?_getD, List.getElem?_eq_getElem hj] at h
  exact List.any_eq_true.2 ⟨s[j], List.getElem_mem hj, h⟩
theorem valR_3 {o : Ob} (h : 8192 < o.b.length ∨ 64 < o.s.length ∨ 64 < o.t.length) : valW nearR o = 3 := if_pos h
theorem valR_1s {o : Ob} (h : ¬ (8192 < o.b.length ∨ 64 < o.s.length ∨ 64 < o.t.length)) (h1 : o.s.any (symX o.b.length) = true) : valW nearR o = 1 := by
  unfold valW; rw [if_neg h, if_pos h1]
theorem valR_1w {o : Ob} (h : ¬ (8192 < o.b.length ∨ 64 < o.s.length ∨ 64 < o.t.length)) (h1 : o.s.any (symX o.b.length) = false) (h2 : wantsX nearR o.b.length o.t o.t.length = true) : valW nearR o = 1 := by
  unfold valW; rw [if_neg h, h1, if_neg (by simp), if_pos h2]
theorem valR_7 {o : Ob} (h : ¬ (8192 < o.b.length ∨ 64 < o.s.length ∨ 64 < o.t.length)) (h1 : o.s.any (symX o.b.length) = false) (h2 : wantsX nearR o.b.length o.t o.t.length = false) (h3 : twiceX o.s o.s.length = true) : valW nearR o = 7 := by
  unfold valW; rw [if_neg h, h1, if_neg (by simp), h2, if_neg (by simp), if_pos h3]
theorem valR_0 {o : Ob} (h : ¬ (8192 < o.b.length ∨ 64 < o.s.length ∨ 64 < o.t.length)) (h1 : o.s.any (symX o.b.length) = false) (h2 : wantsX nearR o.b.length o.t o.t.length = false) (h3 : twiceX o.s o.s.length = false) : valW nearR o = 0 := by
  unfold valW; rw [if_neg h, h1, if_neg (by simp), h2, if_neg (by simp), h3, if_neg (by simp)]
theorem any_take_step {α : Type} [Inhabited α] {f : α → Bool} {s : List α} {j : Nat} (hj : j < s.length) (h0 : (s.take j).any f = false) (h : f (s.getD j default) = false) : (s.take (j + 1)).any f = false := by
  rw [List.take_add_one, List.any_append, h0, List.getElem?_eq_getElem hj]
  rw [List.getD_eq_getElem?_getD, List.getElem?_eq_getElem hj] at h
  simpa using h
theorem any_take_hit {α : Type} [Inhabited α] {f : α → Bool} {s : List α} {j n : Nat} (hj : j < s.length) (hn : j < n) (h : f (s.getD j default) = true) : (s.take n).any f = true := by
  rw [List.getD_eq_getElem?_getD, List.getElem?_eq_getElem hj] at h
  refine List.any_eq_true.2 ⟨s[j], ?_, h⟩
  rw [List.mem_take_iff_getElem]
  exact ⟨j, by omega, rfl⟩
set_option maxHeartbeats 4000000 in
theorem rVal_any (o : Ob) (vb vs vt : Value) (w : World) (h : Ob3 w vb vs vt o) : Calls Tryz.prog 14 #[.agg #[vb, vs, vt]] w fun e w' => e = .returned (.int .i64 (valW nearR o)) ∧ Below w.heap.size w w' := by
  obtain ⟨hb, hs, ht⟩ := h
  obtain ⟨ba, cb, rfl, hb1, hb2⟩ := hb.shape2
  obtain ⟨sa, cs, rfl, hs1, hs2, hs3⟩ := hs.shape
  obtain ⟨ta, ct, rfl, ht1, ht2, ht3⟩ := ht.shape
  clear hb hs ht
  have B0 := Lib.hid ((Below.refl _ w).alloc (Nat.le_refl _) (.cells #[.slice ba o.b.length cb, .slice sa o.s.length cs, .slice ta o.t.length ct] 26))
  cases g1 : decide ((8192 : Int) < (o.b.length : Int))
  case true =>
    have HV : Hid (valW nearR o = 3) := valR_3 (.inl (by have := of_decide_eq_true g1; omega))
    clear hs3 ht3
    go_enter Tryz.func14, Tryz.ntmps14
    go_wp2_with fail
    go_ret
    exact ⟨ret_i HV.out.symm, B0.out⟩
  cases g2 : decide ((64 : Int) < (o.s.length : Int))
  case true =>
    have HV : Hid (valW nearR o = 3) := valR_3 (.inr (.inl (by have := of_decide_eq_true g2; omega)))
    clear hs3 ht3
    go_enter Tryz.func14, Tryz.ntmps14
    go_wp2_with fail
    go_ret
    exact ⟨ret_i HV.out.symm, B0.out⟩
  cases g3 : decide ((64 : Int) < (o.t.length : Int))
  case true =>
    have HV : Hid (valW nearR o = 3) := valR_3 (.inr (.inr (by have := of_decide_eq_true g3; omega)))
    clear hs3 ht3
    go_enter Tryz.func14, Tryz.ntmps14
    go_wp2_with fail
    go_ret
    exact ⟨ret_i HV.out.symm, B0.out⟩
  have G : Hid (¬ (8192 < o.b.length ∨ 64 < o.s.length ∨ 64 < o.t.length)) := fun h => by
    have := of_decide_eq_false g1; have := of_decide_eq_false g2; have := of_decide_eq_false g3; omega
  have hz := of_decide_eq_false g1
  have hz2 := of_decide_eq_false g2
  have hz3 := of_decide_eq_false g3
  obtain ⟨W1, hW1⟩ : ∃ W, w.alloc (.cells #[.slice ba o.b.length cb, .slice sa o.s.length cs, .slice ta o.t.length ct] 26) = W := ⟨_, rfl⟩
  have q0 : W1.cell? ⟨w.heap.size, 0, none⟩ = some (.slice ba o.b.length cb) := by rw [← hW1]; simp [go_sem]
  have q1 : W1.cell? ⟨w.heap.size, 1, none⟩ = some (.slice sa o.s.length cs) := by rw [← hW1]; simp [go_sem]
  have q2 : W1.cell? ⟨w.heap.size, 2, none⟩ = some (.slice ta o.t.length ct) := by rw [← hW1]; simp [go_sem]
  have hlt : w.heap.size < W1.heap.size := by rw [← hW1]; simp
  rw [hW1] at B0
  have HS := Lib.hid (sRows hs3 B0.out)
  have HT := Lib.hid (wRows ht3 B0.out)
  have Q0 := Lib.hid q0
  have Q1 := Lib.hid q1
  have Q2 := Lib.hid q2
  clear hs3 ht3
  go_enter Tryz.func14, Tryz.ntmps14
  go_wp2_with fail
  clear hW1 q0 q1 q2
  go_loopw [3] (fun i wr => ∃ j : Nat, j ≤ o.s.length ∧ i = .int .i64 j ∧ Hid ((o.s.take j).any (symX o.b.length) = false) ∧ Below W1.heap.size W1 wr) (fun i _ => o.s.length - (intOf i).toNat)
  case atStart => exact ⟨0, Nat.zero_le _, rfl, rfl, Below.refl _ _⟩
  case round =>
    obtain ⟨j, hj, rfl, hno, hb⟩ := hrel
    have HB := Lib.hid hb
    have hbs := hb.size
    have p0 := below_cell hb hlt Q0.out
    have p1 := below_cell hb hlt Q1.out
    have hlr : w.heap.size < wr.heap.size := by omega
    by_cases hjl : j < o.s.length
    · obtain ⟨b, q, ea, hbl, x0, x1⟩ := sRows HS.out hb j hjl
      subst ea
      have hbr : b < wr.heap.size := by omega
      generalize hx : o.s.getD j default = x at *
      have HX := Lib.hid hx
      clear hx
      have HE := Lib.hid (symX_ref o.b.length x)
      obtain ⟨xn, xa⟩ := x
      simp only at x0 x1 HE
      have C1 := Lib.hid fun W => rwithin_any xa 0 o.b.length W
      have C2 := Lib.hid fun W => is32_any xn W
      generalize hbw : (decide (0 ≤ xa) && decide (xa ≤ (o.b.length : Int))) = bw at C1 HE
      generalize hbn : num32 xn = bn at C2 HE
      have j0 : (0 : Int) ≤ (j : Int) := by omega
      have j1 : (j : Int) < (o.s.length : Int) := by omega
      clear hb hbw hbn
      cases bw <;> cases bn
      case true.true =>
        have HN : Hid ((o.s.take (j + 1)).any (symX o.b.length) = false) := any_take_step hjl hno.out (by rw [HX.out, HE.out]; rfl)
        go_wp2_with fail
        go_quiet (first | (go_at_call 42; with_reducible exact quiet_same (C1.out _)) | (go_at_call 43; with_reducible exact quiet_same (C2.out _)))
        go_wp2_with fail
        go_roundw
        case rel => exact ⟨j + 1, by omega, by go_num, HN.out, below_drewN HB.out _⟩
        case measure => simp [intOf]; omega
      all_goals
        have HV : Hid (valW nearR o = 1) := valR_1s G.out (symX_any_hit hjl (by rw [HX.out, HE.out]; rfl))
        go_wp2_with fail
        go_quiet (first | (go_at_call 42; with_reducible exact quiet_same (C1.out _)) | (go_at_call 43; with_reducible exact quiet_same (C2.out _)))
        go_wp2_with fail
        go_ret
        exact ⟨ret_i HV.out.symm, below_next B0.out (by omega) (below_drewN HB.out _)⟩
    · obtain rfl : j = o.s.length := by omega
      have HSX : Hid (o.s.any (symX o.b.length) = false) := by have := hno.out; rwa [List.take_length] at this
      have HB1 : Hid (Below w.heap.size w wr) := below_next B0.out (by omega) HB.out
      have R0 := Lib.hid p0
      have R1 := Lib.hid p1
      have R2 := Lib.hid (below_cell hb hlt Q2.out)
      have HS1 := Lib.hid (sRows HS.out hb)
      have HT1 := Lib.hid (wRows HT.out hb)
      have p2 := R2.out
      obtain ⟨wo, rfl⟩ : ∃ wo : World, wo = wr := ⟨_, rfl⟩
      clear hb hbs HB HT HS B0 hlt hno Q0 Q1 Q2
      go_wp2_with fail
      clear p0 p1 p2
      go_loopw [4, 5, 6] (fun i _ _ wr => ∃ j : Nat, j ≤ o.t.length ∧ i = .int .i64 j ∧ Hid (wantsX nearR o.b.length o.t j = false) ∧ Below wo.heap.size wo wr) (fun i _ _ _ => o.t.length - (intOf i).toNat)
      case atStart => exact ⟨0, Nat.zero_le _, rfl, rfl, Below.refl _ _⟩
      case round =>
        obtain ⟨j, hj, rfl, hno, hb⟩ := hrel
        have HB := Lib.hid hb
        have hbs := hb.size
        have p0 := below_cell hb hlr R0.out
        have p2 := below_cell hb hlr R2.out
        have hlw : w.heap.size < wr.heap.size := by omega
        by_cases hjl : j < o.t.length
        · obtain ⟨b, q, ea, hbl, x0, x1, x2, x3⟩ := wRows HT1.out hb j hjl
          subst ea
          have HR := Lib.hid (wRows HT1.out hb)
          generalize hx : o.t.getD j default = x at *
          have HX := Lib.hid hx
          clear hx
          have HE := Lib.hid (wantB_ref x o.b.length)
          obtain ⟨xa, xk, xn, xp⟩ := x
          simp only at x0 x1 x2 x3 HE
          have hne : ¬ w.heap.size = wr.heap.size := by omega
          have hne2 : ¬ b = wr.heap.size := by omega
          obtain ⟨Wx, hWx⟩ : ∃ W, wr.alloc (.cells #[.int .i64 xa, .int .i64 xk, .int .i64 xn, .int .i64 xp] 43) = W := ⟨_, rfl⟩
          have BX : Hid (Below wr.heap.size wr Wx) := by rw [← hWx]; exact (Below.refl _ _).alloc (Nat.le_refl _) _
          have z0 : Wx.cell? ⟨wr.heap.size, 0, none⟩ = some (.int .i64 xa) := by rw [← hWx]; simp [go_sem]
          have z1 : Wx.cell? ⟨wr.heap.size, 1, none⟩ = some (.int .i64 xk) := by rw [← hWx]; simp [go_sem]
          have z2 : Wx.cell? ⟨wr.heap.size, 2, none⟩ = some (.int .i64 xn) := by rw [← hWx]; simp [go_sem]
          have z3 : Wx.cell? ⟨wr.heap.size, 3, none⟩ = some (.int .i64 xp) := by rw [← hWx]; simp [go_sem]
          have hlx : wr.heap.size < Wx.heap.size := by rw [← hWx]; simp
          have p0x := below_cell BX.out hlw p0
          have p2x := below_cell BX.out hlw p2
          have Z0 := Lib.hid z0
          have P2 := Lib.hid p2x
          have C1 := Lib.hid fun W => rwithin_any xa 0 (o.b.length - 4) W
          have C2 := Lib.hid fun W => rwithin_any xk 0 1 W
          have C3 := Lib.hid fun W => is32_any xn W
          have C4 := Lib.hid fun W => is32_any xp W
          generalize hbw : (decide (0 ≤ xa) && decide (xa ≤ (o.b.length : Int) - 4)) = bw at C1 HE
          generalize hbk : (decide (0 ≤ xk) && decide (xk ≤ 1)) = bk at C2 HE
          generalize hbn : num32 xn = bn at C3 HE
          generalize hbp : num32 xp = bp at C4 HE
          clear hb hbw hbk hbn hbp
          have HBX : Hid (Below w.heap.size w Wx) := below_next (below_next HB1.out (by omega) HB.out) (by omega) BX.out
          have HRX := Lib.hid (wRows HR.out BX.out)
          cases bw <;> cases bk <;> cases bn <;> cases bp
          case true.true.true.true =>
            have HW : Hid (wantB ⟨xa, xk, xn, xp⟩ o.b.length = true) := by rw [HE.out]; rfl
            go_wp2_with ((first | (go_at_call 42; with_reducible first | refine (C1.out _).mono ?_ | refine (C2.out _).mono ?_) | (go_at_call 43; with_reducible first | refine (C3.out _).mono ?_ | refine (C4.out _).mono ?_)); rintro e w' ⟨rfl, rfl⟩)
            obtain ⟨wz, rfl⟩ : ∃ wz : World, wz = wr := ⟨_, rfl⟩
            clear z0 z1 z2 z3 p0x p2x hWx x0 x1 x2 x3 p0 p2 C1 C2 C3 C4 HE
            go_loopw [6] (fun i wr => ∃ k : Nat, k ≤ j ∧ i = .int .i64 k ∧ Hid ((o.t.take k).any (nearR ⟨xa, xk, xn, xp⟩) = false) ∧ Below Wx.heap.size Wx wr) (fun i _ => j - (intOf i).toNat)
            case atStart => exact ⟨0, Nat.zero_le _, rfl, rfl, Below.refl _ _⟩
            case round =>
              obtain ⟨k, hk, rfl, hnk, hbk⟩ := hrel
              have HBK := Lib.hid hbk
              have hks := hbk.size
              by_cases hkl : k < j
              · obtain ⟨b', q', ea, hbl', y0, y1, y2, y3⟩ := wRows HRX.out hbk k (by omega)
                cases ea
                have hlb : b < wr.heap.size := by omega
                have hlb2 : wz.heap.size < wr.heap.size := by omega
                have hlb3 : w.heap.size < wr.heap.size := by omega
                have s0 := below_cell hbk hlx Z0.out
                have s2 := below_cell hbk (by omega) P2.out
                generalize hy : o.t.getD k default = y at *
                have HY := Lib.hid hy
                clear hy
                obtain ⟨ya, yk, yn, yp⟩ := y
                simp only at y0 y1 y2 y3
                have C1 := Lib.hid fun W => rwithin_any (IntKind.i64.wrap (xa - ya)) (-3) 3 W
                have HN : Hid (nearR ⟨xa, xk, xn, xp⟩ ⟨ya, yk, yn, yp⟩ = (decide (-3 ≤ IntKind.i64.wrap (xa - ya)) && decide (IntKind.i64.wrap (xa - ya) ≤ 3))) := rfl
                generalize hbb : (decide (-3 ≤ IntKind.i64.wrap (xa - ya)) && decide (IntKind.i64.wrap (xa - ya) ≤ 3)) = bb at C1 HN
                have k0 : (0 : Int) ≤ (k : Int) := by omega
                have k1 : (k : Int) < (o.t.length : Int) := by omega
                have kj : (k : Int) < (j : Int) := by omega
                clear hbk hbb
                cases bb
                · have HK : Hid ((o.t.take (k + 1)).any (nearR ⟨xa, xk, xn, xp⟩) = false) := any_take_step (by omega) hnk.out (by rw [HY.out]; exact HN.out)
                  go_wp2_with fail
                  go_quiet ((go_at_call 42; with_reducible exact quiet_same (C1.out _)))
                  go_wp2_with fail
                  go_roundw
                  case rel => exact ⟨k + 1, by omega, by go_num, HK.out, below_drewN HBK.out _⟩
                  case measure => simp [intOf]; omega
                · have HV : Hid (valW nearR o = 1) := valR_1w G.out HSX.out (wantsX_hit hjl (by rw [HX.out, any_take_hit (j := k) (by omega) hkl (by rw [HY.out]; exact HN.out)]; simp))
                  go_wp2_with fail
                  go_quiet ((go_at_call 42; with_reducible exact quiet_same (C1.out _)))
                  go_wp2_with fail
                  go_ret
                  exact ⟨ret_i HV.out.symm, below_next HBX.out (by omega) (below_drewN HBK.out _)⟩
              · obtain rfl : k = j := by omega
                have HN : Hid (wantsX nearR o.b.length o.t (k + 1) = false) := wantsX_step hno.out (by rw [HX.out, HW.out, hnk.out]; rfl)
                go_wp2_with fail
                go_roundw
                case rel => exact ⟨k + 1, by omega, by go_num, HN.out, below_next (below_next HB.out (by omega) BX.out) (by omega) HBK.out⟩
                case measure => simp [intOf]; omega
          all_goals
            have HV : Hid (valW nearR o = 1) := valR_1w G.out HSX.out (wantsX_hit hjl (by rw [HX.out, HE.out]; rfl))
            go_wp2_with ((first | (go_at_call 42; with_reducible first | refine (C1.out _).mono ?_ | refine (C2.out _).mono ?_) | (go_at_call 43; with_reducible first | refine (C3.out _).mono ?_ | refine (C4.out _).mono ?_)); rintro e w' ⟨rfl, rfl⟩)
            go_ret
            exact ⟨ret_i HV.out.symm, HBX.out⟩
        · obtain rfl : j = o.t.length := by omega
          have HTX : Hid (wantsX nearR o.b.length o.t o.t.length = false) := hno
          have HB2 : Hid (Below w.heap.size w wr) := below_next HB1.out (by omega) HB.out
          have Q1 := Lib.hid (below_cell hb hlr R1.out)
          have HS2 := Lib.hid (sRows HS1.out hb)
          have p1 := Q1.out
          obtain ⟨wu, rfl⟩ : ∃ wu : World, wu = wr := ⟨_, rfl⟩
          clear hb hbs HB HT1 HS1 HB1 hno R0 R1 R2 hlr
          go_wp2_with fail
          clear p0 p1 p2
          go_loopw [7, 8] (fun i _ wr => ∃ j : Nat, j ≤ o.s.length ∧ i = .int .i64 j ∧ Hid (twiceX o.s j = false) ∧ Below wu.heap.size wu wr) (fun i _ _ => o.s.length - (intOf i).toNat)
          case atStart => exact ⟨0, Nat.zero_le _, rfl, rfl, Below.refl _ _⟩
          case round =>
            obtain ⟨j, hj, rfl, hno, hb⟩ := hrel
            have HB := Lib.hid hb
            have hbs := hb.size
            have p1 := below_cell hb hlw Q1.out
            by_cases hjl : j < o.s.length
            · have Q3 := Lib.hid p1
              have HS3 := Lib.hid (sRows HS2.out hb)
              have hl3 : w.heap.size < wr.heap.size := by omega
              obtain ⟨wv, rfl⟩ : ∃ wv : World, wv = wr := ⟨_, rfl⟩
              clear hb
              go_wp2_with fail
              clear p1
              go_loopw [8] (fun i wr => ∃ k : Nat, k ≤ j ∧ i = .int .i64 k ∧ Hid ((o.s.take k).any (fun u => (o.s.getD j default).n == u.n) = false) ∧ Below wv.heap.size wv wr) (fun i _ => j - (intOf i).toNat)
              case atStart => exact ⟨0, Nat.zero_le _, rfl, rfl, Below.refl _ _⟩
              case round =>
                obtain ⟨k, hk, rfl, hnk, hbk⟩ := hrel
                have HBK := Lib.hid hbk
                have hks := hbk.size
                by_cases hkl : k < j
                · obtain ⟨b, q, ea, hbl, x0, x1⟩ := sRows HS3.out hbk j hjl
                  subst ea
                  obtain ⟨b', q', ea, hbl', y0, y1⟩ := sRows HS3.out hbk k (by omega)
                  cases ea
                  have hlb : b < wr.heap.size := by omega
                  have hlb3 : w.heap.size < wr.heap.size := by omega
                  have s1 := below_cell hbk hl3 Q3.out
                  generalize hx : o.s.getD j default = x at *
                  generalize hy : o.s.getD k default = y at *
                  have HX := Lib.hid hx
                  have HY := Lib.hid hy
                  clear hx hy
                  obtain ⟨xn, xa⟩ := x
                  obtain ⟨yn, ya⟩ := y
                  simp only at x0 x1 y0 y1 hnk
                  have j0 : (0 : Int) ≤ (j : Int) := by omega
                  have j1 : (j : Int) < (o.s.length : Int) := by omega
                  have k0 : (0 : Int) ≤ (k : Int) := by omega
                  have k1 : (k : Int) < (o.s.length : Int) := by omega
                  have kj : (k : Int) < (j : Int) := by omega
                  clear hbk
                  cases hbb : (xn == yn)
                  · have HK : Hid ((o.s.take (k + 1)).any (fun u => xn == u.n) = false) := any_take_step (by omega) hnk.out (by rw [HY.out]; exact hbb)
                    go_wp2_with fail
                    go_quiet (fail)
                    go_wp2_with fail
                    go_roundw
                    case rel => exact ⟨k + 1, by omega, by go_num, (by first | exact HK | (rw [HX.out]; exact HK)), below_drewN HBK.out _⟩
                    case measure => simp [intOf]; omega
                  · have HV : Hid (valW nearR o = 7) := valR_7 G.out HSX.out HTX.out (twiceX_hit hjl (by rw [HX.out]; exact any_take_hit (f := fun u : Sy => xn == u.n) (s := o.s) (j := k) (n := j) (by omega) hkl (by rw [HY.out]; exact hbb)))
                    go_wp2_with fail
                    go_quiet (fail)
                    go_wp2_with fail
                    go_ret
                    exact ⟨ret_i HV.out.symm, below_next HB2.out (by omega) (below_next HB.out (by omega) (below_drewN HBK.out _))⟩
                · obtain rfl : k = j := by omega
                  have HN : Hid (twiceX o.s (k + 1) = false) := twiceX_step hno.out hnk.out
                  go_wp2_with fail
                  go_roundw
                  case rel => exact ⟨k + 1, by omega, by go_num, HN.out, below_next HB.out (by omega) HBK.out⟩
                  case measure => simp [intOf]; omega
            · obtain rfl : j = o.s.length := by omega
              have HV : Hid (valW nearR o = 0) := valR_0 G.out HSX.out HTX.out hno.out
              go_wp2_with fail
              go_ret
              exact ⟨ret_i HV.out.symm, below_next HB2.out (by omega) HB.out⟩
end Go.Proofs.YtaegpeofecdhfaaGreat
namespace Go.Proofs.YtaegpeofecdhfaaGreat
open Go.RowKit Go.Maps
set_option linter.unusedVariables false
set_option linter.unusedSimpArgs false
def ents (l : List (Value × Value)) : Array MapEntry := (l.mapIdx fun i p => (⟨p.1, p.2, i⟩ : MapEntry)).toArray
theorem mem_ents {l : List (Value × Value)} {e : MapEntry} (h : e ∈ (ents l).toList) : (e.key, e.val) ∈ l := by
  unfold ents at h
  simp only [List.mem_mapIdx] at h
  obtain ⟨i, hi, rfl⟩ := h
  exact List.getElem_mem hi
theorem ents_push (l : List (Value × Value)) (k v : Value) : (ents l).push ⟨k, v, l.length⟩ = ents (l ++ [(k, v)]) := by
  unfold ents
  simp
def MapIs (P : Program) (K : TypeId) (w : World) (r : Nat) (l : List (Value × Value)) : Prop :=
  r < w.heap.size ∧ mapAt w r = some (ents l, l.length) ∧ (∀ p ∈ l, ∃ q, keyOf P K p.1 = some q) ∧ (l.map (·.1)).Nodup
section
variable {P : Program} {t K E : TypeId} {w : World} {r : Nat} {l : List (Value × Value)}
theorem lookup_hit (law : Keyed P K) (ht : P.underlying t = some (.map K E)) (h : MapIs P K w r l) {k v : Value} {q : Lit} (hk : keyOf P K k = some q) (hm : (k, v) ∈ l) :
    (Instr.lookup t (.map (some r)) k true).run P w = .ok (.tuple #[v, .bool true]) w := by
  obtain ⟨_, h1, h2, h3⟩ := h
  have hb := mapAt_some h1
  have hfind := law.find w hk (ents l).toList (fun e he => h2 _ (mem_ents he))
  have hval : ∀ e ∈ (ents l).toList, e.key = k → e.val = v := by
    intro e he hek
    have hm2 := mem_ents he
    rw [hek] at hm2
    obtain ⟨i, hi, e1⟩ := List.getElem_of_mem hm
    obtain ⟨j, hj, e2⟩ := List.getElem_of_mem hm2
    have hij : i = j := by
      have hp := List.pairwise_iff_getElem.1 h3
      rcases Nat.lt_trichotomy i j with h | h | h
      · exact absurd (show (l.map (·.1))[i]'(by simpa using hi) = (l.map (·.1))[j]'(by simpa using hj) from by simp [e1, e2]) (hp i j (by simpa using hi) (by simpa using hj) h)
      · exact h
      · exact absurd (show (l.map (·.1))[j]'(by simpa using hj) = (l.map (·.1))[i]'(by simpa using hi) from by simp [e1, e2]) (hp j i (by simpa using hj) (by simpa using hi) h)
    subst hij
    rw [e1] at e2
    cases e2; rfl
  rcases hfind with ⟨_, hno⟩ | ⟨j, e, hrun, hj, hek⟩
  · exfalso
    obtain ⟨i, hi, e1⟩ := List.getElem_of_mem hm
    refine hno ⟨k, v, i⟩ ?_ rfl
    unfold ents
    simp only [List.mem_mapIdx]
    exact ⟨i, hi, by rw [e1]⟩
  · have hv := hval e (List.mem_of_getElem? hj) hek
    simp [Instr.lookup, run_underlying ht, MapKept.run_getObj_map hb, law.check w _ hk, hrun, hv, Result.andThen]
theorem lookup_miss (law : Keyed P K) (ht : P.underlying t = some (.map K E)) {z : Value} (hz : ∀ w, (zeroValue E).run P w = .ok z w) (h : MapIs P K w r l) {k : Value} {q : Lit} (hk : keyOf P K k = some q) (hm : ∀ p ∈ l, p.1 ≠ k) :
    (Instr.lookup t (.map (some r)) k true).run P w = .ok (.tuple #[z, .bool false]) w := by
  obtain ⟨_, h1, h2, h3⟩ := h
  have hb := mapAt_some h1
  rcases law.find w hk (ents l).toList (fun e he => h2 _ (mem_ents he)) with ⟨hrun, _⟩ | ⟨j, e, hrun, hj, hek⟩
  · simp [Instr.lookup, run_underlying ht, MapKept.run_getObj_map hb, law.check w _ hk, hrun, hz, Result.andThen]
  · exact absurd hek (hm _ (mem_ents (List.mem_of_getElem? hj)))
theorem update_new (law : Keyed P K) (ht : P.underlying t = some (.map K E)) (h : MapIs P K w r l) {k v : Value} {q : Lit} (hk : keyOf P K k = some q) (hm : ∀ p ∈ l, p.1 ≠ k) :
    (Instr.mapUpdate t (.map (some r)) k v).run P w = .ok () (setMap w r (ents (l ++ [(k, v)])) (l.length + 1)) := by
  obtain ⟨_, h1, h2, h3⟩ := h
  have hb := mapAt_some h1
  rcases law.find w hk (ents l).toList (fun e he => h2 _ (mem_ents he)) with ⟨hrun, _⟩ | ⟨j, e, hrun, hj, hek⟩
  · simp [Instr.mapUpdate, run_underlying ht, MapKept.run_getObj_map hb, law.check w _ hk, hrun, MapKept.run_setObj_map _ hb, Result.andThen, setMap, ents_push]
  · exact absurd hek (hm _ (mem_ents (List.mem_of_getElem? hj)))
theorem mapAt_setMap {es es' : Array MapEntry} {c c' : Nat} (h : mapAt w r = some (es, c)) : mapAt (setMap w r es' c') r = some (es', c') := by
  have hb := mapAt_some h
  have hlt : r < w.heap.size := by
    rcases Nat.lt_or_ge r w.heap.size with h | h
    · exact h
    · rw [Array.getElem?_eq_none h] at hb; cases hb
  unfold mapAt setMap
  simp [Array.getElem?_setIfInBounds, hlt]
theorem MapIs.new (h : MapIs P K w r l) {k v : Value} {q : Lit} (hk : keyOf P K k = some q) (hm : ∀ p ∈ l, p.1 ≠ k) : MapIs P K (setMap w r (ents (l ++ [(k, v)])) (l.length + 1)) r (l ++ [(k, v)]) := by
  obtain ⟨h0, h1, h2, h3⟩ := h
  refine ⟨by rw [size_setMap]; exact h0, by rw [mapAt_setMap h1]; simp, ?_, ?_⟩
  · intro p hp
    rcases List.mem_append.1 hp with hp | hp
    · exact h2 p hp
    · simp at hp; subst hp; exact ⟨q, hk⟩
  · rw [List.map_append, List.nodup_append]
    refine ⟨h3, by simp, ?_⟩
    intro a ha b hb
    simp at hb
    subst hb
    obtain ⟨p, hp, rfl⟩ := List.mem_map.1 ha
    exact hm p hp
theorem MapIs.below {w' : World} (h : MapIs P K w r l) (hb : Below w.heap.size w w') : MapIs P K w' r l := by
  obtain ⟨h0, h1, h2, h3⟩ := h
  refine ⟨Nat.lt_of_lt_of_le h0 hb.size, ?_, h2, h3⟩
  rw [← h1]; unfold mapAt; rw [hb.block r h0]
theorem MapIs.made {w : World} : MapIs P K (w.alloc (.map #[] 0)) w.heap.size [] :=
  ⟨by simp, by rw [mapAt_alloc_at _ _ _ _ rfl]; rfl, (fun p hp => by cases hp), by simp⟩
theorem below_setMap {B : Nat} {w w' : World} (h : Below B w w') {r : Nat} (hr : B ≤ r) (es : Array MapEntry) (c : Nat) : Below B w (setMap w' r es c) := by
  refine h.trans ⟨rfl, rfl, rfl, by simp [setMap], fun k hk => ?_⟩
  show (w'.heap.setIfInBounds r _)[k]? = _
  rw [Array.getElem?_setIfInBounds, if_neg (by omega)]
theorem cell_setMap {w : World} {r b o : Nat} {es : Array MapEntry} {c : Nat} (h : b ≠ r) : (setMap w r es c).cell? ⟨b, o, none⟩ = w.cell? ⟨b, o, none⟩ := by
  unfold World.cell? setMap
  simp only [Array.getElem?_setIfInBounds]
  rw [if_neg (fun e => h e.symm)]
theorem free_setMap {w : World} {r b o : Nat} {es : Array MapEntry} {c : Nat} (h : b ≠ r) : (setMap w r es c).frozen? ⟨b, o, none⟩ = w.frozen? ⟨b, o, none⟩ := by
  unfold World.frozen? setMap
  simp only [Array.getElem?_setIfInBounds]
  rw [if_neg (fun e => h e.symm)]
end
end Go.Proofs.YtaegpeofecdhfaaGreat
namespace Go.Proofs.YtaegpeofecdhfaaGreat
open Go.RowKit Go.Maps
set_option linter.unusedVariables false
set_option linter.unusedSimpArgs false
structure Im where
  p : List Int
  z : Int
  m : List (Int × Int)
def addS (c : Int) (l : List Sy) (m : List (Int × Int)) : Option (List (Int × Int)) := l.foldlM (fun m s => if m.any (fun q => q.1 == s.n) then none else some (m ++ [(s.n, c + s.a)])) m
def nextAt (z : Int) : Int := (z + 3) / 4 * 4
def putO (base : Int) (st : Im) (o : Ob) : Option Im := (addS (base + nextAt st.z) o.s st.m).map fun m => ⟨st.p ++ [nextAt st.z], nextAt st.z + o.b.length, m⟩
def arrL (base : Int) (l : List Ob) : Option Im := l.foldlM (putO base) ⟨[], 0, []⟩
def firstE : List Ob → Int
  | [] => 0
  | o :: l => if valO o = 0 then firstE l else valO o
def arrE (base : Int) (l : List Ob) : Int :=
  if 4 < l.length then 3 else if firstE l ≠ 0 then firstE l else if base < 0 ∨ 32768 < base ∨ base.tmod 4 ≠ 0 then 1 else if (arrL base l).isNone then 7 else 0
theorem firstE_hit : ∀ {l : List Ob} {j : Nat}, (∀ i, i < j → valO (l.getD i default) = 0) → j < l.length → valO (l.getD j default) ≠ 0 → firstE l = valO (l.getD j default)
  | o :: l, 0, _, _, h => by simp at h ⊢; unfold firstE; rw [if_neg h]
  | o :: l, j + 1, h0, hj, h => by
    have e0 : valO o = 0 := h0 0 (by omega)
    unfold firstE
    rw [if_pos e0]
    have := firstE_hit (l := l) (j := j) (fun i hi => by have := h0 (i + 1) (by omega); simpa using this) (by simpa using hj) (by simpa using h)
    simpa using this
theorem firstE_none : ∀ {l : List Ob}, (∀ i, i < l.length → valO (l.getD i default) = 0) → firstE l = 0
  | [], _ => rfl
  | o :: l, h => by
    have e0 : valO o = 0 := h 0 (by simp)
    unfold firstE
    rw [if_pos e0]
    exact firstE_none fun i hi => by have := h (i + 1) (by simpa using hi); simpa using this
theorem firstE_zero : ∀ {l : List Ob}, firstE l = 0 → ∀ o ∈ l, valO o = 0
  | [], _, o, h => by cases h
  | x :: l, h, o, ho => by
    unfold firstE at h
    by_cases e : valO x = 0
    · rw [if_pos e] at h
      rcases List.mem_cons.1 ho with rfl | ho
      · exact e
      · exact firstE_zero h o ho
    · rw [if_neg e] at h; exact absurd h e
theorem addS_step {c : Int} {l : List Sy} {m0 m : List (Int × Int)} {k : Nat} (hk : k < l.length) (h : addS c (l.take k) m0 = some m) : addS c (l.take (k + 1)) m0 = if m.any (fun q => q.1 == (l.getD k default).n) then none else some (m ++ [((l.getD k default).n, c + (l.getD k default).a)]) := by
  unfold addS at h ⊢
  rw [List.take_succ_eq_append_getElem hk, List.foldlM_append, h, List.getD_eq_getElem?_getD, List.getElem?_eq_getElem hk]
  simp
theorem addS_none {c : Int} {l : List Sy} {m0 : List (Int × Int)} {k : Nat} (h : addS c (l.take k) m0 = none) : addS c l m0 = none := by
  unfold addS at h ⊢
  rw [← List.take_append_drop k l, List.foldlM_append, h]; rfl
theorem arrL_step {base : Int} {l : List Ob} {st : Im} {j : Nat} (hj : j < l.length) (h : arrL base (l.take j) = some st) : arrL base (l.take (j + 1)) = putO base st (l.getD j default) := by
  unfold arrL at h ⊢
  rw [List.take_succ_eq_append_getElem hj, List.foldlM_append, h, List.getD_eq_getElem?_getD, List.getElem?_eq_getElem hj]
  simp
theorem arrL_none {base : Int} {l : List Ob} {j : Nat} (h : arrL base (l.take j) = none) : arrL base l = none := by
  unfold arrL at h ⊢
  rw [← List.take_append_drop j l, List.foldlM_append, h]; rfl
theorem arrL_size {base : Int} : ∀ {l : List Ob} {j : Nat} {st : Im}, (∀ o ∈ l, o.b.length ≤ 8192) → j ≤ l.length → arrL base (l.take j) = some st → 0 ≤ st.z ∧ st.z ≤ 8196 * j ∧ st.p.length = j
  | l, 0, st, _, _, h => by simp [arrL] at h; subst h; simp
  | l, j + 1, st, hl, hj, h => by
    cases hp : arrL base (l.take j) with
    | none => rw [arrL_none (l := l.take (j + 1)) (j := j) (by rw [List.take_take, Nat.min_eq_left (by omega)]; exact hp)] at h; cases h
    | some s =>
      have ih := arrL_size hl (by omega) hp
      rw [arrL_step (by omega) hp] at h
      unfold putO at h
      cases ha : addS (base + nextAt s.z) (l.getD j default).s s.m with
      | none => rw [ha] at h; cases h
      | some m =>
        rw [ha] at h
        simp only [Option.map_some, Option.some.injEq] at h
        subst h
        have hm : l.getD j default ∈ l := by rw [List.getD_eq_getElem?_getD, List.getElem?_eq_getElem (by omega)]; exact List.getElem_mem _
        have := hl _ hm
        simp only [List.length_append, List.length_cons, List.length_nil]
        unfold nextAt
        omega
def Cls (w : World) (b : Nat) (cs : List Value) : Prop := ∀ k v, cs[k]? = some v → w.cell? ⟨b, k, none⟩ = some v ∧ w.frozen? ⟨b, k, none⟩ = false
theorem Cls.set {w : World} {b : Nat} {cs : List Value} (h : Cls w b cs) {k : Nat} (hk : k < cs.length) (u : Value) : Cls (w.setCell ⟨b, k, none⟩ u) b (cs.set k u) := by
  intro j v hj
  have hc := h k _ (List.getElem?_eq_getElem hk)
  by_cases e : k = j
  · subst e
    rw [List.getElem?_set_self hk] at hj
    cases hj
    exact ⟨World.cell?_setCell_same _ _ _ hc.1, by rw [World.frozen?_setCell]; exact hc.2⟩
  · rw [List.getElem?_set_ne e] at hj
    have := h j v hj
    exact ⟨by rw [World.cell?_setCell_other _ _ _ _ (by intro hh; cases hh; exact e rfl)]; exact this.1, by rw [World.frozen?_setCell]; exact this.2⟩
theorem Cls.other {w : World} {b b' k : Nat} {cs : List Value} (h : Cls w b cs) (hb : b ≠ b') (u : Value) : Cls (w.setCell ⟨b', k, none⟩ u) b cs := by
  intro j v hj
  have := h j v hj
  exact ⟨by rw [World.cell?_setCell_other _ _ _ _ (by intro hh; cases hh; exact hb rfl)]; exact this.1, by rw [World.frozen?_setCell]; exact this.2⟩
theorem Cls.lt {w : World} {b : Nat} {cs : List Value} (h : Cls w b cs) (h0 : 0 < cs.length) : b < w.heap.size := cell_lt (h 0 _ (List.getElem?_eq_getElem h0)).1
theorem Cls.block {w w' : World} {b : Nat} {cs : List Value} (h : Cls w b cs) (hb : w'.heap[b]? = w.heap[b]?) : Cls w' b cs := fun k v hk => by
  have := h k v hk
  unfold World.cell? World.frozen? at this ⊢
  rw [hb]; exact this
theorem Cls.below {w w' : World} {b B : Nat} {cs : List Value} (h : Cls w b cs) (hB : b < B) (hb : Below B w w') : Cls w' b cs := h.block (hb.block b hB)
theorem Cls.map {w : World} {b r : Nat} {cs : List Value} (h : Cls w b cs) (hb : b ≠ r) (es : Array MapEntry) (c : Nat) : Cls (setMap w r es c) b cs := fun k v hk => by
  have := h k v hk
  exact ⟨by rw [cell_setMap hb]; exact this.1, by rw [free_setMap hb]; exact this.2⟩
theorem Cls.made {w : World} {cs : List Value} {t : TypeId} : Cls (w.alloc (.cells cs.toArray t)) w.heap.size cs := fun k v hk => by
  constructor
  · simp [go_sem, hk]
  · simp [go_sem]
theorem mapAt_setCell {w : World} {b o r : Nat} {v : Value} (h : b ≠ r) : mapAt (w.setCell ⟨b, o, none⟩ v) r = mapAt w r := by
  unfold mapAt
  rw [Below.heap_setCell w ⟨b, o, none⟩ v r (fun e => h e.symm)]
theorem MapIs.set {P : Program} {K : TypeId} {w : World} {r b o : Nat} {l : List (Value × Value)} {v : Value} (h : MapIs P K w r l) (hb : b ≠ r) : MapIs P K (w.setCell ⟨b, o, none⟩ v) r l := by
  obtain ⟨h0, h1, h2, h3⟩ := h
  exact ⟨by simpa using h0, by rw [mapAt_setCell hb]; exact h1, h2, h3⟩
def symE (m : List (Int × Int)) : List (Value × Value) := m.map fun q => (.int .i64 q.1, .int .i64 q.2)
theorem ownsRow_block {w w' : World} {base : Nat} {e : TypeId} {z : Nat} {v : Value} {n : Nat} {xs : List Value} (h : w.ownsRow base e z v n xs) (hb : ∀ k, base ≤ k → w'.heap[k]? = w.heap[k]?) : w'.ownsRow base e z v n xs := by
  obtain ⟨h0, ⟨rfl, h1⟩ | ⟨g, cap, cur, rfl, hb', hg, h1, h2, h3, h4⟩⟩ := h
  · exact ⟨h0, .inl ⟨rfl, h1⟩⟩
  · exact ⟨h0, .inr ⟨g, cap, cur, rfl, hb', by rw [hb g hb']; exact hg, h1, h2, h3, h4⟩⟩
structure ArS (w0 : World) (R M I : Nat) (st : Im) (w : World) : Prop where
  keep : Below w0.heap.size w0 w
  o : w0.heap.size = R ∧ R < M ∧ M < I ∧ I < w.heap.size
  r : Cls w R [.slice none 0 0, .int .i64 0, .map none]
  i : ∃ v, Cls w I [v, .int .i64 st.z, .map (some M)] ∧ RowI w (I + 1) 3 .i64 v st.p
  m : MapIs Tryz.prog 3 w M (symE st.m)
theorem ArS.below {w0 : World} {R M I : Nat} {st : Im} {w w' : World} (h : ArS w0 R M I st w) (hb : Below w.heap.size w w') : ArS w0 R M I st w' := by
  obtain ⟨h1, ⟨o1, o2, o3, o4⟩, h2, ⟨v, h3, h4⟩, h5⟩ := h
  exact ⟨below_next h1 h1.size hb, ⟨o1, o2, o3, Nat.lt_of_lt_of_le o4 hb.size⟩, h2.below (by omega) hb, ⟨v, h3.below o4 hb, h4.below hb⟩, h5.below hb⟩
theorem ArS.app {w0 : World} {R M I : Nat} {st : Im} {w w' : World} {v' : Value} {y : Int} (h : ArS w0 R M I st w) (hb : Below (I + 1) w w') (hr : RowI w' (I + 1) 3 .i64 v' (st.p ++ [y])) : ArS w0 R M I ⟨st.p ++ [y], st.z, st.m⟩ (w'.setCell ⟨I, 0, none⟩ v') := by
  obtain ⟨h1, ⟨o1, o2, o3, o4⟩, h2, ⟨v, h3, h4⟩, h5⟩ := h
  have hs := hb.size
  refine ⟨below_at (h1.trans (hb.mono (by omega))) (by omega) _ _, ⟨o1, o2, o3, by simp; omega⟩, (h2.below (by omega) hb).other (by omega) _, ⟨v', ?_, ?_⟩, ?_⟩
  · exact (h3.below (by omega) hb).set (k := 0) (by simp) v'
  · exact ownsRow_block hr fun k hk => Below.heap_setCell w' ⟨I, 0, none⟩ v' k (by show k ≠ I; omega)
  · obtain ⟨a, b, c, d⟩ := h5
    refine MapIs.set ⟨by omega, ?_, c, d⟩ (by omega)
    rw [← b]; unfold mapAt; rw [hb.block M (by omega)]
theorem ArS.size {w0 : World} {R M I : Nat} {st : Im} {w : World} (h : ArS w0 R M I st w) (n : Int) : ArS w0 R M I ⟨st.p, n, st.m⟩ (w.setCell ⟨I, 1, none⟩ (.int .i64 n)) := by
  obtain ⟨h1, ⟨o1, o2, o3, o4⟩, h2, ⟨v, h3, h4⟩, h5⟩ := h
  refine ⟨below_at h1 (by omega) _ _, ⟨o1, o2, o3, by simp; omega⟩, h2.other (by omega) _, ⟨v, ?_, ?_⟩, h5.set (by omega)⟩
  · exact h3.set (k := 1) (by simp) _
  · exact ownsRow_block h4 fun k hk => Below.heap_setCell w ⟨I, 1, none⟩ _ k (by show k ≠ I; omega)
def I64n (n : Int) : Prop := -9223372036854775808 ≤ n ∧ n ≤ 9223372036854775807
theorem key_int {n : Int} (h : I64n n) : keyOf Tryz.prog 3 (.int .i64 n) = some (.int .i64 n) := keyOf_int_mk Tryz.underlying3 (WalkArith.wf_i64 h)
theorem symE_new {m : List (Int × Int)} {n : Int} (h : m.any (fun q => q.1 == n) = false) : ∀ p ∈ symE m, p.1 ≠ .int .i64 n := by
  intro p hp e
  unfold symE at hp
  obtain ⟨q, hq, rfl⟩ := List.mem_map.1 hp
  have := List.any_eq_false.1 h q hq
  cases e
  simp at this
theorem ArS.put {w0 : World} {R M I : Nat} {st : Im} {w : World} (h : ArS w0 R M I st w) (n a : Int) (hI : I64n n) (hn : st.m.any (fun q => q.1 == n) = false) :
    ArS w0 R M I ⟨st.p, st.z, st.m ++ [(n, a)]⟩ (setMap w M (ents (symE st.m ++ [(.int .i64 n, .int .i64 a)])) ((symE st.m).length + 1)) := by
  obtain ⟨h1, ⟨o1, o2, o3, o4⟩, h2, ⟨v, h3, h4⟩, h5⟩ := h
  have hq := key_int hI
  refine ⟨below_setMap h1 (by omega) _ _, ⟨o1, o2, o3, by rw [size_setMap]; exact o4⟩, h2.map (by omega) _ _, ⟨v, h3.map (by omega) _ _, ?_⟩, ?_⟩
  · exact ownsRow_block h4 fun k hk => by
      show (w.heap.setIfInBounds M _)[k]? = _
      rw [Array.getElem?_setIfInBounds, if_neg (by omega)]
  · have := h5.new (v := .int .i64 a) hq (symE_new hn)
    simpa [symE] using this
theorem info_int64 : (Tryz.prog.info? 3).map (fun i => (i.zero, i.size, i.bytes)) = some (some (.int .i64 0), 1, 8) := by kernel_rfl
theorem app_int {w : World} {ops : Array Oper} {rest : List Oper} {o : Oper} {a : Act} {Q : Exit → Act → World → Prop} (hgd : o.guard = none) (s x : Operand)
    (ho : o.op = .call { callee := .builtin .append, args := #[s, x], argTypes := #[69, 69] }) (base : Nat) (v : Value) (xs : List Int) (hs : a.eval s = v) (hown : RowI w base 3 .i64 v xs)
    (g c : Nat) (y : Int) (hx : a.eval x = .slice (some ⟨g, 0, none⟩) 1 c) (hy : w.cell? ⟨g, 0, none⟩ = some (.int .i64 y)) (hl : xs.length ≤ 100000) (hbase : base ≤ w.heap.size)
    (h : ∀ v' w', RowI w' base 3 .i64 v' (xs ++ [y]) → Below base w w' → w.grownBy w' v.ownBlock → wpList Tryz.prog ops Q rest (a.put o.dst v') w') : wpList Tryz.prog ops Q (o :: rest) a w := by
  obtain ⟨i0, hi0, hz0, hz1, hz2⟩ := info_parts info_int64
  refine wpList_append_own (P := Tryz.prog) w hgd s x _ ho base 3 i0 (.int .i64 0) 1 8 Tryz.underlying69 hi0 hz0 hz1 hz2 rfl (by decide) v xs.length _ hs hown ⟨g, 0, none⟩ 1 c [.int .i64 y] hx rfl (fun j u hj => ?_) (fun u hu => ?_) ?_ ?_ hbase ?_
  · rcases j with _ | j
    · cases hj; simpa [Addr.add] using hy
    · cases hj
  · simp at hu; subst hu; rfl
  · unfold maxLen; omega
  · omega
  · intro v' w' hown' hg _
    exact h v' w' (RowI.app1 hown' rfl rfl) ((Below.refl _ _).grown hg hbase (own_ge hown)) hg
end Go.Proofs.YtaegpeofecdhfaaGreat
