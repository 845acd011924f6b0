/- Memory at the head of the loop of Shared, and what becomes of it behind a round. -/
import Derived.Test.YthopdfikikdcbaaStk
import Derived.Test.YthopdfikikdcbaaCp
namespace Go.Proofs.Ythopdfikikdcbaa
open Go.RowKit Go.Maps Wd
set_option linter.unusedVariables false
set_option linter.unusedSimpArgs false
def stkL (st : List Nat) : List Int := st.reverse.map fun n : Nat => (n : Int)
theorem stkL_cons (n : Nat) (st : List Nat) : stkL (n :: st) = stkL st ++ [(n : Int)] := by unfold stkL; simp
theorem stkL_len (st : List Nat) : (stkL st).length = st.length := by unfold stkL; simp
/-- Memory at the head of the loop. -/
structure ShR (w0 : World) (st : List Nat) (s : St) (nv sv : Value) (wr : World) : Prop where
  at_ : OInts .i64 wr w0.heap.size s.nos
  stk : RowI wr w0.heap.size 3 .i64 sv (stkL st)
  out : ∃ R avs, OSt w0.heap.size s.out R wr nv avs ∧ ¬ R w0.heap.size ∧ ∀ b, sv.ownBlock = some b → ¬ R b
  nA : nv.ownBlock ≠ some w0.heap.size
  sA : sv.ownBlock ≠ some w0.heap.size
  ns : ∀ b, sv.ownBlock = some b → nv.ownBlock ≠ some b
  bel : Below w0.heap.size w0 wr
theorem OInts.chg {k : IntKind} {T : Nat → Prop} {w w' : World} {B : Nat} {xs : List Int} (h : OInts k w B xs) (hc : Chg T w w') (hT : ¬ T B) : OInts k w' B xs :=
  ⟨Nat.lt_of_lt_of_le h.1 hc.size, fun i hi => ⟨hc.cell hT (h.cell hi), by rw [hc.frozen hT h.1]; exact h.free hi⟩⟩
theorem RowI.chg {T : Nat → Prop} {w w' : World} {base : Nat} {e : TypeId} {k : IntKind} {v : Value} {xs : List Int} (h : RowI w base e k v xs) (hc : Chg T w w') (hT : ∀ b, v.ownBlock = some b → ¬ T b) : RowI w' base e k v xs :=
  own_same (T := fun b => v.ownBlock = some b) h (hc.same fun b hb => ⟨own_lt h b hb, hT b hb⟩) (fun b hb => hb)
/-- One more on the stack. -/
theorem ShR.push {w0 wr w2 : World} {st : List Nat} {s : St} {nv sv v' : Value} {m : Nat} (h : ShR w0 st s nv sv wr) (hc : Chg (fun b => sv.ownBlock = some b) wr w2)
    (hown : RowI w2 w0.heap.size 3 .i64 v' (stkL (m :: st))) (hv : v'.ownBlock = sv.ownBlock ∨ ∃ g, v'.ownBlock = some g ∧ wr.heap.size ≤ g) : ShR w0 (m :: st) s nv v' w2 := by
  obtain ⟨R, avs, ho, hA, hs⟩ := h.out
  have hlt := h.at_.1
  exact {
    at_ := h.at_.chg hc h.sA
    stk := hown
    out := ⟨R, avs, ho.chg hc (fun b hb e => h.ns b e hb) (fun b hb e => hs b e hb), hA, fun b hb => by
      rcases hv with e | ⟨g, e, hg⟩
      · exact hs b (by rw [← e]; exact hb)
      · rw [e] at hb; cases hb
        intro hR
        have := (ho.Rlt _ hR).2
        omega⟩
    nA := h.nA
    sA := fun e' => by
      rcases hv with e | ⟨g, e, hg⟩
      · exact h.sA (by rw [← e]; exact e')
      · rw [e] at e'; cases e'; omega
    ns := fun b hb e' => by
      rcases hv with e | ⟨g, e, hg⟩
      · exact h.ns b (by rw [← e]; exact hb) e'
      · rw [e] at hb; cases hb
        have := own_lt ho.row _ e'
        omega
    bel := h.bel.trans (hc.below h.bel.size fun b hb => own_ge h.stk b hb) }
/-- A row without its last. -/
theorem RowI.pop {w : World} {base : Nat} {e : TypeId} {k : IntKind} {b c n : Nat} {l : List Int} {x : Int} (h : RowI w base e k (.slice (some ⟨b, 0, none⟩) n c) (l ++ [x])) (hn : n = l.length + 1) : RowI w base e k (.slice (some ⟨b, 0, none⟩) l.length c) l := by
  obtain ⟨h0, ⟨e1, h1⟩ | ⟨g, cap, cur, e1, hb', hg, h1, h2, h3, h4⟩⟩ := h
  · cases e1
  · cases e1
    rw [List.length_append, List.length_singleton] at h1 h4
    refine ⟨by simp, .inr ⟨_, _, cur, rfl, hb', hg, by omega, h2, h3, ?_⟩⟩
    have e2 : cur.toList.take (l.length * 1) = (cur.toList.take ((l.length + 1) * 1)).take (l.length * 1) := by rw [List.take_take]; congr 1; omega
    rw [e2, h4, List.map_append, List.take_append_of_le_length (by simp), List.take_of_length_le (by simp)]
/-- Behind the telling of a node. -/
theorem ShR.told {w0 wr w2 : World} {st st' : List Nat} {s s' : St} {nv sv sv' nv' : Value} (h : ShR w0 st s nv sv wr) (hc : Chg (fun b => b = w0.heap.size ∨ nv.ownBlock = some b) wr w2)
    (hat : OInts .i64 w2 w0.heap.size s'.nos) (hstk : RowI wr w0.heap.size 3 .i64 sv' (stkL st')) (hsv : sv'.ownBlock = sv.ownBlock)
    (hout : ∃ R avs, OSt w0.heap.size s'.out R w2 nv' avs ∧ ∀ b, R b → (∃ R0 avs0, OSt w0.heap.size s.out R0 wr nv avs0 ∧ R0 b ∧ b ≠ w0.heap.size ∧ sv.ownBlock ≠ some b) ∨ wr.heap.size ≤ b)
    (hv : nv'.ownBlock = nv.ownBlock ∨ ∃ g, nv'.ownBlock = some g ∧ wr.heap.size ≤ g) : ShR w0 st' s' nv' sv' w2 := by
  obtain ⟨R, avs, ho, hR⟩ := hout
  have hlt := h.at_.1
  have hsl := own_lt h.stk
  obtain ⟨_, _, ho0, _, _⟩ := h.out
  exact {
    at_ := hat
    stk := hstk.chg hc fun b hb e => by
      rw [hsv] at hb
      rcases e with e | e
      · subst e; exact h.sA hb
      · exact h.ns b hb e
    out := ⟨R, avs, ho, fun hA => by
      rcases hR _ hA with ⟨_, _, _, _, h2, _⟩ | h2
      · exact h2 rfl
      · omega, fun b hb hb' => by
      rw [hsv] at hb
      rcases hR _ hb' with ⟨_, _, _, _, _, h2⟩ | h2
      · exact h2 hb
      · have := hsl b hb; omega⟩
    nA := fun e' => by
      rcases hv with e | ⟨g, e, hg⟩
      · exact h.nA (by rw [← e]; exact e')
      · rw [e] at e'; cases e'; omega
    sA := fun e' => h.sA (by rw [← hsv]; exact e')
    ns := fun b hb e' => by
      rw [hsv] at hb
      rcases hv with e | ⟨g, e, hg⟩
      · exact h.ns b hb (by rw [← e]; exact e')
      · rw [e] at e'; cases e'
        have := hsl _ hb
        omega
    bel := h.bel.trans (hc.below h.bel.size fun b hb => by
      rcases hb with hb | hb
      · omega
      · exact own_ge ho0.row b hb) }
/-- How far the looking for y among the nodes has come. -/
def Fnd (out : List Nd) (y : Nd) (n : Nat) (nos : List Int) (j : Nat) (nos' : List Int) : Prop :=
  (nos' = nos ∧ ∀ k, k < j → out.getD k default ≠ y) ∨ (nos' = nos.set n (out.idxOf y : Int) ∧ y ∈ out)
theorem idxOf_first {out : List Nd} {y : Nd} {j : Nat} (hj : j < out.length) (h : ∀ k, k < j → out.getD k default ≠ y) (he : out.getD j default = y) : y ∈ out ∧ out.idxOf y = j := by
  have hm : y ∈ out := by rw [← he]; exact mem_getD hj
  refine ⟨hm, ?_⟩
  have hl := List.idxOf_lt_length_of_mem hm
  have hg : out.getD (out.idxOf y) default = y := by rw [List.getD_eq_getElem?_getD, List.getElem?_eq_getElem hl, List.getElem_idxOf]; rfl
  rcases Nat.lt_trichotomy (out.idxOf y) j with h1 | h1 | h1
  · exact absurd hg (h _ h1)
  · exact h1
  · exfalso
    have h2 := List.not_of_lt_findIdx (p := (· == y)) (xs := out) (i := j) h1
    rw [List.getD_eq_getElem?_getD, List.getElem?_eq_getElem hj] at he
    have he' : out[j] = y := he
    rw [he', beq_self_eq_true] at h2
    cases h2
theorem not_mem_of {out : List Nd} {y : Nd} (h : ∀ k, k < out.length → out.getD k default ≠ y) : y ∉ out := fun hm => by
  obtain ⟨i, hi, e⟩ := List.getElem_of_mem hm
  exact h i hi (by rw [List.getD_eq_getElem?_getD, List.getElem?_eq_getElem hi]; exact e)
/-- A node of the call's own in block B, its Args in v. -/
structure YAt (w : World) (B : Nat) (op width flags imm : Int) (v : Value) : Prop where
  c0 : w.cell? ⟨B, 0, none⟩ = some (.int .i64 op)
  c1 : w.cell? ⟨B, 1, none⟩ = some (.int .i64 width)
  c2 : w.cell? ⟨B, 2, none⟩ = some (.int .i64 flags)
  c3 : w.cell? ⟨B, 3, none⟩ = some v
  c4 : w.cell? ⟨B, 4, none⟩ = some (.int .u32 imm)
  f3 : w.frozen? ⟨B, 3, none⟩ = false
theorem YAt.chg {T : Nat → Prop} {w w' : World} {B : Nat} {op width flags imm : Int} {v : Value} (h : YAt w B op width flags imm v) (hc : Chg T w w') (hT : ¬ T B) : YAt w' B op width flags imm v :=
  ⟨hc.cell hT h.c0, hc.cell hT h.c1, hc.cell hT h.c2, hc.cell hT h.c3, hc.cell hT h.c4, by rw [hc.frozen hT (cell_lt h.c0)]; exact h.f3⟩
theorem YAt.set {w : World} {B : Nat} {op width flags imm : Int} {v : Value} (h : YAt w B op width flags imm v) (v' : Value) : YAt (w.setCell ⟨B, 3, none⟩ v') B op width flags imm v' :=
  ⟨by rw [World.cell?_setCell_other _ _ _ _ (by intro e; cases e)]; exact h.c0, by rw [World.cell?_setCell_other _ _ _ _ (by intro e; cases e)]; exact h.c1,
   by rw [World.cell?_setCell_other _ _ _ _ (by intro e; cases e)]; exact h.c2, World.cell?_setCell_same _ _ _ h.c3,
   by rw [World.cell?_setCell_other _ _ _ _ (by intro e; cases e)]; exact h.c4, by rw [World.frozen?_setCell]; exact h.f3⟩
/-- One more Arg. -/
theorem YAt.next {W2 wx w1 : World} {X : Obj} {B base j : Nat} {op width flags imm z : Int} {v v' : Value} {l : List Int} {e : TypeId} (hY : YAt wx B op width flags imm v) (hrow : RowI wx base e .i64 v l) (hc : Chg (fun b => b = B) W2 wx) (hB : B < base)
    (hbs : W2.heap.size ≤ base) (hgrow : ((wx.alloc X).drew).grownBy w1 v.ownBlock) (hown : w1.ownsRow base e 1 v' (j + 1) (l.map (Value.int .i64) ++ [.int .i64 z])) (hl : l.length = j) :
    YAt (w1.setCell ⟨B, 3, none⟩ v') B op width flags imm v' ∧ RowI (w1.setCell ⟨B, 3, none⟩ v') base e .i64 v' (l ++ [z]) ∧ Chg (fun b => b = B) W2 (w1.setCell ⟨B, 3, none⟩ v') := by
  have hc1 : Chg (fun b => v.ownBlock = some b) wx w1 := (Chg.of_below (((Below.refl _ _).alloc (Nat.le_refl _) X).drew)).trans (Chg.of_grown hgrow (fun k hk => hk)) (fun _ _ h => h)
  have hvB : ¬ v.ownBlock = some B := fun e => by have := own_ge hrow B e; omega
  have hset : Chg (fun b => b = B) w1 (w1.setCell ⟨B, 3, none⟩ v') := (Chg.refl (fun b => b = B) w1).setCell (b := B) rfl v'
  have hrow1 : RowI w1 base e .i64 v' (l ++ [z]) := RowI.app1 hown hl rfl
  refine ⟨(hY.chg hc1 hvB).set v', hrow1.chg hset (fun b hb e => by have := own_ge hrow1 b hb; omega), ?_⟩
  refine (hc.trans hc1 ?_).trans hset (fun _ _ h => h)
  intro k hk h
  have := own_ge hrow k h
  omega
theorem gno_getD {l : List Int} {m : Nat} (h : m < l.length) : gno l m = l.getD m 0 := by
  unfold gno; rw [List.getD_eq_getElem?_getD, List.getD_eq_getElem?_getD, List.getElem?_eq_getElem h]; rfl
theorem map_take_succ {α : Type} (f : Int → α) (l : List Int) (j : Nat) (h : j < l.length) : (l.take (j + 1)).map f = (l.take j).map f ++ [f (l.getD j 0)] := by
  rw [List.take_succ_eq_append_getElem h, List.map_append, List.getD_eq_getElem?_getD, List.getElem?_eq_getElem h]; rfl
end Go.Proofs.Ythopdfikikdcbaa
