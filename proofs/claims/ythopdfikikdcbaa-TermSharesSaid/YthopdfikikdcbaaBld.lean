/- The builder in memory: its nodes, their Args, its map. -/
import Derived.Test.YthopdfikikdcbaaKey
import Derived.Test.YthopdfikikdcbaaSeen
namespace Go.Proofs.Ythopdfikikdcbaa
open Go.RowKit Go.Maps
set_option linter.unusedVariables false
set_option linter.unusedSimpArgs false
/-- A node that may be a key. -/
structure NdK (x : Nd) : Prop where
  op : Sml x.op
  width : Sml x.width
  flags : x.flags = 0
  len : x.args.length ≤ 3
  args : ∀ a ∈ x.args, 0 ≤ a ∧ a ≤ 9223372036854775807
  imm : 0 ≤ x.imm ∧ x.imm ≤ 4294967295
theorem args_of3 {l m : List Int} (hl : l.length ≤ 3) (hm : m.length ≤ 3) (pl : ∀ a ∈ l, 0 ≤ a) (pm : ∀ a ∈ m, 0 ≤ a)
    (h0 : l.getD 0 (-1) = m.getD 0 (-1)) (h1 : l.getD 1 (-1) = m.getD 1 (-1)) (h2 : l.getD 2 (-1) = m.getD 2 (-1)) : l = m := by
  rcases l with _ | ⟨a, _ | ⟨b, _ | ⟨c, _ | ⟨d, l⟩⟩⟩⟩ <;> rcases m with _ | ⟨a', _ | ⟨b', _ | ⟨c', _ | ⟨d', m⟩⟩⟩⟩ <;> simp at * <;> omega
theorem keyV_inj {x y : Nd} (hx : NdK x) (hy : NdK y) (h : keyV x = keyV y) : x = y := by
  obtain ⟨a, b, c, d, e⟩ := x
  obtain ⟨a', b', c', d', e'⟩ := y
  have h1 := hx.flags
  have h2 := hy.flags
  simp only [keyV, Value.agg.injEq, Array.mk.injEq, List.cons.injEq, Value.int.injEq, true_and, and_true] at h h1 h2
  obtain ⟨k1, k2, k3, k4, k5, k6⟩ := h
  have k7 : d = d' := args_of3 hx.len hy.len (fun a h => (hx.args a h).1) (fun a h => (hy.args a h).1) k4 k5 k6
  subst k1 k2 k3 k7 h1 h2
  rfl
theorem wf_arg {l : List Int} (h : ∀ a ∈ l, 0 ≤ a ∧ a ≤ 9223372036854775807) (i : Nat) : (Lit.int .i64 (l.getD i (-1))).wf = true := by
  refine WalkArith.wf_i64 ?_
  rw [List.getD_eq_getElem?_getD]
  cases e : l[i]? with
  | none => exact ⟨by decide, by decide⟩
  | some a => have := h a (List.mem_of_getElem? e); exact ⟨by simp; omega, by simp; omega⟩
theorem keyV_key {x : Nd} (h : NdK x) : ∃ q, keyOf Try.prog 131 (keyV x) = some q :=
  key6 _ _ _ _ _ _ (WalkArith.wf_i64 h.op) (WalkArith.wf_i64 h.width) (WalkArith.wf_u32 h.imm) (wf_arg h.args 0) (wf_arg h.args 1) (wf_arg h.args 2)
/-- The entries of the builder's map. -/
def entK (o : List Nd) : List (Value × Value) := o.mapIdx fun i x => (keyV x, .int .i64 (i : Int))
theorem entK_snoc (o : List Nd) (x : Nd) : entK (o ++ [x]) = entK o ++ [(keyV x, .int .i64 (o.length : Int))] := by
  unfold entK; rw [List.mapIdx_append]; simp
theorem entK_len (o : List Nd) : (entK o).length = o.length := by unfold entK; simp
theorem entK_hit {o : List Nd} {x : Nd} (h : x ∈ o) : (keyV x, Value.int .i64 (o.idxOf x : Int)) ∈ entK o := by
  unfold entK
  rw [List.mem_mapIdx]
  exact ⟨o.idxOf x, List.idxOf_lt_length_of_mem h, by rw [List.getElem_idxOf]⟩
theorem entK_miss {o : List Nd} {x : Nd} (ho : ∀ y ∈ o, NdK y) (hx : NdK x) (h : x ∉ o) : ∀ p ∈ entK o, p.1 ≠ keyV x := by
  intro p hp e
  unfold entK at hp
  rw [List.mem_mapIdx] at hp
  obtain ⟨i, hi, rfl⟩ := hp
  exact h (keyV_inj (ho _ (List.getElem_mem hi)) hx e ▸ List.getElem_mem hi)
/-- The cells of a node. -/
def rowC (x : Nd) (av : Value) : List Value := [.int .i64 x.op, .int .i64 x.width, .int .i64 x.flags, av, .int .u32 x.imm]
def rowsC : List Nd → List Value → List Value
  | x :: o, av :: avs => rowC x av ++ rowsC o avs
  | _, _ => []
theorem rowsC_snoc (x : Nd) (av : Value) : ∀ (o : List Nd) (avs : List Value), avs.length = o.length → rowsC (o ++ [x]) (avs ++ [av]) = rowsC o avs ++ rowC x av
  | [], [], _ => by simp [rowsC]
  | y :: o, bv :: avs, h => by
    show rowC y bv ++ rowsC (o ++ [x]) (avs ++ [av]) = (rowC y bv ++ rowsC o avs) ++ rowC x av
    rw [rowsC_snoc x av o avs (by simpa using h), List.append_assoc]
  | [], _ :: _, h => by simp at h
  | _ :: _, [], h => by simp at h
theorem rowsC_get : ∀ (o : List Nd) (avs : List Value), avs.length = o.length → ∀ (i j : Nat), i < o.length → j < 5 → (rowsC o avs)[i * 5 + j]? = (rowC (o.getD i default) (avs.getD i undef))[j]?
  | [], _, _, i, j, hi, _ => by simp at hi
  | x :: o, [], h, _, _, _, _ => by simp at h
  | x :: o, av :: avs, h, 0, j, hi, hj => by
    show (rowC x av ++ rowsC o avs)[0 * 5 + j]? = (rowC x av)[j]?
    rw [Nat.zero_mul, Nat.zero_add, List.getElem?_append_left (by simp [rowC]; omega)]
  | x :: o, av :: avs, h, i + 1, j, hi, hj => by
    show (rowC x av ++ rowsC o avs)[(i + 1) * 5 + j]? = (rowC (o.getD i default) (avs.getD i undef))[j]?
    rw [List.getElem?_append_right (by simp [rowC]; omega), show (i + 1) * 5 + j - (rowC x av).length = i * 5 + j by simp [rowC]; omega]
    exact rowsC_get o avs (by simpa using h) i j (by simpa using hi) hj
/-- W: the blocks that the builder writes; R: those of the Args of its nodes. -/
structure BSt (bb : Nat) (o : List Nd) (W R : Nat → Prop) (w : World) (nv fv : Value) (avs : List Value) : Prop where
  b0 : w.cell? ⟨bb, 0, none⟩ = some nv
  b1 : w.cell? ⟨bb, 1, none⟩ = some fv
  f0 : w.frozen? ⟨bb, 0, none⟩ = false
  f1 : w.frozen? ⟨bb, 1, none⟩ = false
  Wb : W bb
  Wlt : ∀ b, W b → b < w.heap.size
  Rlt : ∀ b, R b → b < w.heap.size
  WR : ∀ b, W b → ¬ R b
  row : w.ownsRow 0 47 5 nv o.length (rowsC o avs)
  rowW : ∀ b, nv.ownBlock = some b → W b ∧ b ≠ bb
  len : avs.length = o.length
  args : ∀ i, i < o.length → IntsT R w (avs.getD i undef) (o.getD i default).args
  kn : ∀ x ∈ o, NdK x
  map : (fv = .map none ∧ o = []) ∨ ∃ r, fv = .map (some r) ∧ W r ∧ r ≠ bb ∧ nv.ownBlock ≠ some r ∧ MapIs Try.prog 131 w r (entK o)
def Bld (bb : Nat) (o : List Nd) (T : Nat → Prop) (w : World) : Prop := ∃ W R nv fv avs, (∀ b, T b ↔ W b ∨ R b) ∧ BSt bb o W R w nv fv avs
theorem BSt.same {bb : Nat} {o : List Nd} {W R : Nat → Prop} {w w' : World} {nv fv : Value} {avs : List Value} (h : BSt bb o W R w nv fv avs) (hs : Same (fun b => W b ∨ R b) w w') : BSt bb o W R w' nv fv avs :=
  { b0 := hs.cell (.inl h.Wb) h.b0
    b1 := hs.cell (.inl h.Wb) h.b1
    f0 := by rw [hs.frozen (.inl h.Wb)]; exact h.f0
    f1 := by rw [hs.frozen (.inl h.Wb)]; exact h.f1
    Wb := h.Wb
    Wlt := fun b hb => Nat.lt_of_lt_of_le (h.Wlt b hb) hs.1
    Rlt := fun b hb => Nat.lt_of_lt_of_le (h.Rlt b hb) hs.1
    WR := h.WR
    row := own_same h.row hs (fun b hb => .inl (h.rowW b hb).1)
    rowW := h.rowW
    len := h.len
    args := fun i hi => (h.args i hi).same (hs.mono fun k hk => .inr hk)
    kn := h.kn
    map := by
      rcases h.map with h1 | ⟨r, h1, h2, h3, h4, h5⟩
      · exact .inl h1
      · exact .inr ⟨r, h1, h2, h3, h4, h5.same hs (.inl h2)⟩ }
theorem Bld.same {bb : Nat} {o : List Nd} {T : Nat → Prop} {w w' : World} (h : Bld bb o T w) (hs : Same T w w') : Bld bb o T w' := by
  obtain ⟨W, R, nv, fv, avs, hT, hb⟩ := h
  exact ⟨W, R, nv, fv, avs, hT, hb.same (hs.mono fun k hk => (hT k).2 hk)⟩
theorem Bld.lt {bb : Nat} {o : List Nd} {T : Nat → Prop} {w : World} (h : Bld bb o T w) : ∀ b, T b → b < w.heap.size := by
  obtain ⟨W, R, nv, fv, avs, hT, hb⟩ := h
  intro b h
  rcases (hT b).1 h with h | h
  · exact hb.Wlt b h
  · exact hb.Rlt b h
theorem own_shape {w : World} {base : Nat} {e : TypeId} {size : Nat} {v : Value} {n : Nat} {xs : List Value} (h : w.ownsRow base e size v n xs) : ∃ a c, v = .slice a n c := by
  obtain ⟨_, ⟨rfl, h1⟩ | ⟨g, cap, cur, rfl, _⟩⟩ := h
  · exact ⟨none, 0, by rw [h1]⟩
  · exact ⟨_, _, rfl⟩
/-- The builder's nodes, read. -/
theorem BSt.nds {bb : Nat} {o : List Nd} {W R : Nat → Prop} {w : World} {nv fv : Value} {avs : List Value} (h : BSt bb o W R w nv fv avs) (hl : o.length ≤ 100000) : Nds w nv o := by
  have hr := h.row
  obtain ⟨h0, ⟨e, h1⟩ | ⟨g, cap, cur, e, hb', hg, h1, h2, h3, h4⟩⟩ := hr
  · exact ⟨none, 0, by rw [e, h1], by omega, ⟨by omega, by omega⟩, fun _ => rfl, fun i hi => absurd hi (by omega)⟩
  · have hlt : g < w.heap.size := by
      rcases Nat.lt_or_ge g w.heap.size with h | h
      · exact h
      · rw [Array.getElem?_eq_none h] at hg; cases hg
    refine ⟨some ⟨g, 0, none⟩, cap, e, h1, ⟨by omega, by unfold maxLen at h2; omega⟩, (fun hh => by cases hh), fun i hi => ⟨g, 0, rfl, hlt, ?_⟩⟩
    rw [Nat.zero_add]
    have cell : ∀ j, j < 5 → w.cell? ⟨g, i * 5 + j, none⟩ = (rowC (o.getD i default) (avs.getD i undef))[j]? := by
      intro j hj
      have e1 : w.cell? ⟨g, i * 5 + j, none⟩ = cur.toList[i * 5 + j]? := by simp [World.cell?, hg]
      have e2 : (cur.toList.take (o.length * 5))[i * 5 + j]? = cur.toList[i * 5 + j]? := by rw [List.getElem?_take, if_pos (by omega)]
      rw [e1, ← e2, h4]
      exact rowsC_get o avs h.len i j hi hj
    exact ⟨cell 0 (by omega), cell 1 (by omega), cell 2 (by omega), ⟨_, cell 3 (by omega), (h.args i hi).1.ints⟩, cell 4 (by omega)⟩
theorem Bld.next {bb : Nat} {o : List Nd} {T : Nat → Prop} {w w' : World} (h : Bld bb o T w) (hb : Below w.heap.size w w') : Bld bb o T w' :=
  h.same ((Chg.of_below (T := fun _ => False) hb).same fun k hk => ⟨h.lt k hk, fun h => h⟩)
/-- Behind the three stores of add. -/
theorem add_done {bb : Nat} {o : List Nd} {W R : Nat → Prop} {w w8 w1 : World} {nv fv av v' : Value} {avs : List Value} {x : Nd} {r : Nat} (hb : BSt bb o W R w nv fv avs) (hx : NdK x) (hv : IntsF w av x.args)
    (hav : ∀ b, av.ownBlock = some b → ¬ W b ∧ ¬ R b ∧ b < w.heap.size) (h8 : Chg W w w8) (c0 : w8.cell? ⟨bb, 0, none⟩ = some nv) (c1 : w8.cell? ⟨bb, 1, none⟩ = some (.map (some r)))
    (f0 : w8.frozen? ⟨bb, 0, none⟩ = false) (f1 : w8.frozen? ⟨bb, 1, none⟩ = false) (hm : MapIs Try.prog 131 w8 r (entK (o ++ [x]))) (hr : W r ∨ w.heap.size ≤ r) (hrb : r ≠ bb) (hrn : nv.ownBlock ≠ some r)
    (hg : Chg (fun b => nv.ownBlock = some b) w8 w1) (hown : w1.ownsRow 0 47 5 v' (o.length + 1) (rowsC o avs ++ rowC x av)) (hv' : v'.ownBlock = nv.ownBlock ∨ ∃ g, v'.ownBlock = some g ∧ w8.heap.size ≤ g) :
    ∃ T', Bld bb (o ++ [x]) T' (w1.setCell ⟨bb, 0, none⟩ v') ∧ (∀ b, T' b → (W b ∨ R b) ∨ w.heap.size ≤ b ∨ av.ownBlock = some b) ∧ Chg W w (w1.setCell ⟨bb, 0, none⟩ v') := by
  have hbb := hb.Wlt bb hb.Wb
  have s8 := h8.size
  have s1 := hg.size
  have hz : (w1.setCell ⟨bb, 0, none⟩ v').heap.size = w1.heap.size := by simp [World.setCell]
  have nbb : ¬ nv.ownBlock = some bb := fun e => (hb.rowW bb e).2 rfl
  have vbb : ¬ v'.ownBlock = some bb := fun e => by
    rcases hv' with h | ⟨g, h, hg⟩
    · exact nbb (by rw [← h]; exact e)
    · rw [h] at e; cases e; omega
  have hrl : r < w8.heap.size := hm.1
  have d0 : w1.cell? ⟨bb, 0, none⟩ = some nv := hg.cell nbb c0
  have d1 : w1.cell? ⟨bb, 1, none⟩ = some (.map (some r)) := hg.cell nbb c1
  have e0 : w1.frozen? ⟨bb, 0, none⟩ = false := by rw [hg.frozen nbb (by omega)]; exact f0
  have e1 : w1.frozen? ⟨bb, 1, none⟩ = false := by rw [hg.frozen nbb (by omega)]; exact f1
  have hset : Chg (fun b => b = bb) w1 (w1.setCell ⟨bb, 0, none⟩ v') := (Chg.refl (fun b => b = bb) w1).setCell (b := bb) rfl v'
  have hall : Chg W w (w1.setCell ⟨bb, 0, none⟩ v') := by
    refine (h8.trans hg ?_).trans hset ?_
    · intro k _ h; exact (hb.rowW k h).1
    · intro k _ h; subst h; exact hb.Wb
  have sameR : Same R w (w1.setCell ⟨bb, 0, none⟩ v') := hall.same fun k hk => ⟨hb.Rlt k hk, fun h => hb.WR k h hk⟩
  have sameA : Same (fun b => av.ownBlock = some b) w (w1.setCell ⟨bb, 0, none⟩ v') := hall.same fun k hk => ⟨(hav k hk).2.2, (hav k hk).1⟩
  refine ⟨fun b => (W b ∨ b = r ∨ v'.ownBlock = some b) ∨ (R b ∨ av.ownBlock = some b), ⟨fun b => W b ∨ b = r ∨ v'.ownBlock = some b, fun b => R b ∨ av.ownBlock = some b, v', .map (some r), avs ++ [av], fun _ => Iff.rfl, ?_⟩, ?_, hall⟩
  · exact {
      b0 := World.cell?_setCell_same _ _ _ d0
      b1 := by rw [World.cell?_setCell_other _ _ _ _ (by intro e; cases e)]; exact d1
      f0 := by rw [World.frozen?_setCell]; exact e0
      f1 := by rw [World.frozen?_setCell]; exact e1
      Wb := .inl hb.Wb
      Wlt := fun b h => by
        rw [hz]
        rcases h with h | h | h
        · have := hb.Wlt b h; omega
        · omega
        · exact own_lt hown b h
      Rlt := fun b h => by
        rw [hz]
        rcases h with h | h
        · have := hb.Rlt b h; omega
        · have := (hav b h).2.2; omega
      WR := fun b h h' => by
        have hlt : b < w.heap.size := by
          rcases h' with h' | h'
          · exact hb.Rlt b h'
          · exact (hav b h').2.2
        have hW : W b := by
          rcases h with h | h | h
          · exact h
          · subst h
            rcases hr with h | h
            · exact h
            · omega
          · rcases hv' with e | ⟨g, e, hge⟩
            · exact (hb.rowW b (by rw [← e]; exact h)).1
            · rw [e] at h; cases h; omega
        rcases h' with h' | h'
        · exact hb.WR b hW h'
        · exact (hav b h').1 hW
      row := by
        rw [rowsC_snoc x av o avs hb.len, List.length_append]
        exact own_same (T := fun b => v'.ownBlock = some b) hown (hset.same fun k hk => ⟨own_lt hown k hk, fun e => vbb (e ▸ hk)⟩) (fun b h => h)
      rowW := fun b h => ⟨.inr (.inr h), fun e => vbb (e ▸ h)⟩
      len := by rw [List.length_append, List.length_append, hb.len]; rfl
      args := fun i hi => by
        by_cases h : i < o.length
        · have e1 : (avs ++ [av]).getD i undef = avs.getD i undef := by rw [List.getD_eq_getElem?_getD, List.getD_eq_getElem?_getD, List.getElem?_append_left (by rw [hb.len]; exact h)]
          rw [e1, getD_pre h]
          exact ((hb.args i h).same sameR).mono fun k hk => .inl hk
        · obtain rfl : i = o.length := by rw [List.length_append] at hi; simp at hi; omega
          have e1 : (avs ++ [av]).getD o.length undef = av := by rw [List.getD_eq_getElem?_getD, List.getElem?_append_right (by rw [hb.len]; exact Nat.le_refl _), hb.len, Nat.sub_self]; rfl
          have e2 : (o ++ [x]).getD o.length default = x := by rw [List.getD_eq_getElem?_getD, List.getElem?_append_right (Nat.le_refl _), Nat.sub_self]; rfl
          rw [e1, e2]
          exact (IntsT.same ⟨hv, fun b h => h⟩ sameA).mono fun k hk => .inr hk
      kn := fun y hy => by
        rcases List.mem_append.1 hy with h | h
        · exact hb.kn y h
        · simp at h; subst h; exact hx
      map := by
        refine .inr ⟨r, rfl, .inr (.inl rfl), hrb, ?_, ?_⟩
        · intro e
          rcases hv' with h | ⟨g, h, hge⟩
          · exact hrn (by rw [← h]; exact e)
          · rw [h] at e; cases e; omega
        · exact hm.same (T := fun b => b = r) (((hg.mono (T := fun b => nv.ownBlock = some b ∨ b = bb) (fun k _ h => .inl h)).trans hset (fun k _ h => .inr h)).same fun k hk => by
            subst hk; exact ⟨hrl, fun h => by rcases h with h | h; exact hrn h; exact hrb h⟩) rfl }
  · intro b h
    rcases h with (h | h | h) | (h | h)
    · exact .inl (.inl h)
    · subst h
      rcases hr with h | h
      · exact .inl (.inl h)
      · exact .inr (.inl h)
    · rcases hv' with e | ⟨g, e, hge⟩
      · exact .inl (.inl (hb.rowW b (by rw [← e]; exact h)).1)
      · rw [e] at h; cases h; exact .inr (.inl (by omega))
    · exact .inl (.inr h)
    · exact .inr (.inr h)
end Go.Proofs.Ythopdfikikdcbaa
