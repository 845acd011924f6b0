/- Lists of instructions: the plain law, and slices of instructions in memory. -/
import Derived.Laws.AppendOwnNone
import Derived.Test.YtdojafpjipcbjaaJ16
import Derived.Test.YtdojafpjipcbjaaJ17
import Derived.Test.YtdojafpjipcbjaaJ29
namespace Go.Proofs.Ytdojafpjipcbjaa
open Go.RowKit Go.Maps
set_option linter.unusedVariables false
set_option linter.unusedSimpArgs false
theorem getD_append_ge {xs ys : List Int} {i : Nat} (h : xs.length ≤ i) : (xs ++ ys).getD i 0 = ys.getD (i - xs.length) 0 := by
  rw [List.getD_eq_getElem?_getD, List.getElem?_append_right h, List.getD_eq_getElem?_getD]
theorem byt_of {l : List Int} (h : ∀ b ∈ l, 0 ≤ b ∧ b < 256) : Byt l := fun k => by
  rcases Nat.lt_or_ge k l.length with hk | hk
  · rw [List.getD_eq_getElem?_getD, List.getElem?_eq_getElem hk]
    exact h _ (List.getElem_mem hk)
  · rw [List.getD_eq_getElem?_getD, List.getElem?_eq_none hk]; decide
/-- The bytes of a list of instructions. -/
def bysI : List Ins → List Int
  | [] => []
  | x :: r => encI x ++ bysI r
theorem bysI_append (a b : List Ins) : bysI (a ++ b) = bysI a ++ bysI b := by
  induction a with
  | nil => rfl
  | cons x r ih => simp only [List.cons_append, bysI, ih, List.append_assoc]
theorem bysI_snoc (a : List Ins) (x : Ins) : bysI (a ++ [x]) = bysI a ++ encI x := by rw [bysI_append]; simp [bysI]
def allI (xs : List Ins) : Prop := ∀ x ∈ xs, okI x = true
theorem bysI_byt {xs : List Ins} (h : allI xs) : ∀ b ∈ bysI xs, 0 ≤ b ∧ b < 256 := by
  induction xs with
  | nil => intro b hb; cases hb
  | cons x r ih =>
    intro b hb
    simp only [bysI, List.mem_append] at hb
    rcases hb with hb | hb
    · exact encI_byte (h x (List.mem_cons_self ..)) b hb
    · exact ih (fun y hy => h y (List.mem_cons_of_mem _ hy)) b hb
theorem bysI_len {xs : List Ins} (h : allI xs) : (bysI xs).length ≤ 9 * xs.length := by
  induction xs with
  | nil => exact Nat.le_refl _
  | cons x r ih =>
    have h1 := (enc_len (h x (List.mem_cons_self ..))).2
    have h2 := ih (fun y hy => h y (List.mem_cons_of_mem _ hy))
    simp only [bysI, List.length_append, List.length_cons]; omega
/-- The instructions of the longest beginning of some bytes, and how many bytes that is. -/
def lstI : Nat → List Int → List Ins × Nat
  | 0, _ => ([], 0)
  | k + 1, b => match decI b with
    | none => ([], 0)
    | some (x, n) => (x :: (lstI k (b.drop n)).1, n + (lstI k (b.drop n)).2)
theorem lstI_none {k : Nat} {b : List Int} (h : decI b = none) : lstI k b = ([], 0) := by
  cases k with
  | zero => rfl
  | succ k => simp [lstI, h]
theorem lstI_some {k : Nat} {b : List Int} {x : Ins} {n : Nat} (h : decI b = some (x, n)) : lstI (k + 1) b = (x :: (lstI k (b.drop n)).1, n + (lstI k (b.drop n)).2) := by simp [lstI, h]
theorem dec_pos {b : List Int} {x : Ins} {n : Nat} (h : decI b = some (x, n)) : okI x = true ∧ 0 < n ∧ n ≤ 9 ∧ n ≤ b.length ∧ encI x = b.take n := by
  obtain ⟨h1, h2, h3, h4⟩ := decI_is h
  have := enc_len h1
  exact ⟨h1, by omega, by omega, h2, h3⟩
/-- What the list of some bytes is: right instructions with just these bytes, and none behind. -/
theorem lstI_law : ∀ (k : Nat) (b : List Int), b.length < k → allI (lstI k b).1 ∧ (lstI k b).2 ≤ b.length ∧ bysI (lstI k b).1 = b.take (lstI k b).2 ∧ decI (b.drop (lstI k b).2) = none ∧ (lstI k b).1.length ≤ (lstI k b).2
  | 0, b, h => absurd h (Nat.not_lt_zero _)
  | k + 1, b, h => by
    rcases hd : decI b with _ | ⟨x, n⟩
    · rw [lstI_none hd]
      exact ⟨fun x hx => (by cases hx), Nat.zero_le _, rfl, hd, Nat.zero_le _⟩
    · obtain ⟨h1, h2, h3, h4, h5⟩ := dec_pos hd
      obtain ⟨i1, i2, i3, i4, i5⟩ := lstI_law k (b.drop n) (by rw [List.length_drop]; omega)
      rw [List.length_drop] at i2
      rw [lstI_some hd]
      refine ⟨fun y hy => ?_, by simp only; omega, ?_, ?_, ?_⟩
      · rcases List.mem_cons.1 hy with rfl | hy
        · exact h1
        · exact i1 y hy
      · simp only [bysI, i3, h5]
        rw [List.take_add]
      · simp only
        rw [← List.drop_drop]
        exact i4
      · simp only [List.length_cons]; omega
/-- The list of the bytes of right instructions is these. -/
theorem lstI_bys : ∀ (xs : List Ins) (k : Nat), allI xs → xs.length < k → lstI k (bysI xs) = (xs, (bysI xs).length)
  | [], k, _, _ => lstI_none (by decide)
  | x :: r, 0, _, h => absurd h (Nat.not_lt_zero _)
  | x :: r, k + 1, ha, h => by
    have hx := ha x (List.mem_cons_self ..)
    have hd := decI_enc hx (bysI r)
    rw [show bysI (x :: r) = encI x ++ bysI r from rfl, lstI_some hd, List.drop_left, lstI_bys r k (fun y hy => ha y (List.mem_cons_of_mem _ hy)) (by simp at h; omega), List.length_append]
/-- More rounds tell nothing new. -/
theorem lstI_more : ∀ (k : Nat) (b : List Int), b.length < k → lstI (k + 1) b = lstI k b
  | 0, b, h => absurd h (Nat.not_lt_zero _)
  | k + 1, b, h => by
    rcases hd : decI b with _ | ⟨x, n⟩
    · rw [lstI_none hd, lstI_none hd]
    · obtain ⟨h1, h2, h3, h4, h5⟩ := dec_pos hd
      rw [lstI_some hd, lstI_some hd, lstI_more k (b.drop n) (by rw [List.length_drop]; omega)]
theorem lstI_any {k b} (h : b.length < k) (j : Nat) : lstI (k + j) b = lstI k b := by
  induction j with
  | zero => rfl
  | succ j ih => rw [← ih]; exact lstI_more (k + j) b (by omega)
/-! ### memory -/
def IaAt (w : World) (b o : Nat) (x : Ins) : Prop :=
  w.cell? ⟨b, o, none⟩ = some (.int .i64 x.o) ∧ w.cell? ⟨b, o + 1, none⟩ = some (.int .i64 x.d) ∧ w.cell? ⟨b, o + 2, none⟩ = some (.int .i64 x.s) ∧ w.cell? ⟨b, o + 3, none⟩ = some (.int .i64 x.z) ∧ w.cell? ⟨b, o + 4, none⟩ = some (.int .i64 x.i)
/-- A slice of instructions. -/
def Ias (w : World) (v : Value) (xs : List Ins) : Prop := Slc w v xs.length 5 fun i b o => IaAt w b o (xs.getD i default)
theorem Ias.stays {w w' : World} {v : Value} {xs : List Ins} (h : Ias w v xs) (hb : Below w.heap.size w w') : Ias w' v xs :=
  Slc.stays h hb fun _ _ _ hlt hc => ⟨below_cell hb hlt hc.1, below_cell hb hlt hc.2.1, below_cell hb hlt hc.2.2.1, below_cell hb hlt hc.2.2.2.1, below_cell hb hlt hc.2.2.2.2⟩
theorem Ias.shape {w : World} {v : Value} {xs : List Ins} (h : Ias w v xs) : ∃ a c, v = .slice a xs.length c ∧ xs.length ≤ c ∧ xs.length ≤ 140737488351232 := by
  obtain ⟨a, c, e, h1, h2, _⟩ := h
  exact ⟨a, c, e, h1, h2.1⟩
theorem Ias.at {w : World} {v : Value} {xs : List Ins} (h : Ias w v xs) {j : Nat} (hj : j < xs.length) : ∃ b q c, v = .slice (some ⟨b, q, none⟩) xs.length c ∧ xs.length ≤ c ∧ b < w.heap.size ∧ IaAt w b (q + j * 5) (xs.getD j default) := by
  obtain ⟨a, c, e, h1, h2, h3, h4⟩ := h
  obtain ⟨b, q, rfl, h5, h6⟩ := h4 j hj
  exact ⟨b, q, c, e, h1, h5, h6⟩
def iaC (x : Ins) : List Value := [.int .i64 x.o, .int .i64 x.d, .int .i64 x.s, .int .i64 x.z, .int .i64 x.i]
def iasC : List Ins → List Value
  | [] => []
  | x :: r => iaC x ++ iasC r
theorem iasC_len (xs : List Ins) : (iasC xs).length = xs.length * 5 := by
  induction xs with
  | nil => rfl
  | cons x r ih => simp only [iasC, iaC, List.length_append, ih, List.length_cons, List.length_nil]; omega
theorem iasC_snoc (xs : List Ins) (x : Ins) : iasC (xs ++ [x]) = iasC xs ++ iaC x := by
  induction xs with
  | nil => simp [iasC]
  | cons y r ih => simp only [List.cons_append, iasC, ih, List.append_assoc]
theorem iasC_get : ∀ (xs : List Ins) (i j : Nat), i < xs.length → j < 5 → (iasC xs)[i * 5 + j]? = (iaC (xs.getD i default))[j]?
  | [], i, j, h, _ => absurd h (Nat.not_lt_zero _)
  | x :: r, 0, j, _, hj => by
    show (iaC x ++ iasC r)[0 * 5 + j]? = _
    rw [List.getElem?_append_left (by simp [iaC]; omega)]
    simp
  | x :: r, i + 1, j, h, hj => by
    show (iaC x ++ iasC r)[(i + 1) * 5 + j]? = _
    rw [List.getElem?_append_right (by simp [iaC]; omega)]
    have e : (i + 1) * 5 + j - (iaC x).length = i * 5 + j := by simp [iaC]; omega
    rw [e, iasC_get r i j (by simpa using h) hj]
    simp
/-- A row of instructions of the call's own. -/
def RowA (w : World) (base : Nat) (v : Value) (xs : List Ins) : Prop := w.ownsRow base 25 5 v xs.length (iasC xs)
theorem RowA.nil (w : World) (base : Nat) : RowA w base (.slice none 0 0) [] := World.ownsRow_nil w base _ 5
theorem RowA.below {w w' : World} {base : Nat} {v : Value} {xs : List Ins} (h : RowA w base v xs) (hb : Below w.heap.size w w') : RowA w' base v xs := by
  obtain ⟨h0, ⟨e, h1⟩ | ⟨g, cap, cur, e, hb', hg, h1, h2, h3, h4⟩⟩ := h
  · exact ⟨h0, Or.inl ⟨e, h1⟩⟩
  · have hlt : g < w.heap.size := by
      rcases Nat.lt_or_ge g w.heap.size with h | h
      · exact h
      · rw [Array.getElem?_eq_none h] at hg; cases hg
    exact ⟨h0, Or.inr ⟨g, cap, cur, e, hb', by rw [hb.block g hlt]; exact hg, h1, h2, h3, h4⟩⟩
theorem RowA.ias {w : World} {base : Nat} {v : Value} {xs : List Ins} (h : RowA w base v xs) (hl : xs.length ≤ 100000) : Ias w v xs := by
  obtain ⟨h0, ⟨e, h1⟩ | ⟨g, cap, cur, e, hb', hg, h1, h2, h3, h4⟩⟩ := h
  · exact ⟨none, 0, by rw [e, h1], by omega, ⟨by omega, by omega⟩, fun _ => rfl, fun i hi => absurd hi (by omega)⟩
  · have hlt : g < w.heap.size := by
      rcases Nat.lt_or_ge g w.heap.size with h | h
      · exact h
      · rw [Array.getElem?_eq_none h] at hg; cases hg
    refine ⟨some ⟨g, 0, none⟩, cap, e, h1, ⟨by omega, by unfold maxLen at h2; omega⟩, (fun hh => by cases hh), fun i hi => ⟨g, 0, rfl, hlt, ?_⟩⟩
    rw [Nat.zero_add]
    have cell : ∀ j, j < 5 → w.cell? ⟨g, i * 5 + j, none⟩ = (iaC (xs.getD i default))[j]? := by
      intro j hj
      have e1 : w.cell? ⟨g, i * 5 + j, none⟩ = cur.toList[i * 5 + j]? := by simp [World.cell?, hg]
      have e2 : (cur.toList.take (xs.length * 5))[i * 5 + j]? = cur.toList[i * 5 + j]? := by rw [List.getElem?_take, if_pos (by omega)]
      rw [e1, ← e2, h4]
      exact iasC_get xs i j hi hj
    exact ⟨cell 0 (by omega), cell 1 (by omega), cell 2 (by omega), cell 3 (by omega), cell 4 (by omega)⟩
theorem RowA.shape {w : World} {base : Nat} {v : Value} {xs : List Ins} (h : RowA w base v xs) : ∃ a c, v = .slice a xs.length c := by
  obtain ⟨h0, ⟨e, h1⟩ | ⟨g, cap, cur, e, _⟩⟩ := h
  · exact ⟨none, 0, by rw [e, h1]⟩
  · exact ⟨_, _, e⟩
end Go.Proofs.Ytdojafpjipcbjaa
namespace Go.Proofs.Ytdojafpjipcbjaa
open Go.RowKit Go.WideShapes Go.ChangeShapes Go.Deep
set_option linter.unusedVariables false
set_option linter.unusedSimpArgs false
theorem fits_u8 {x : Int} (h : FitsK .u8 x) : 0 ≤ x ∧ x < 256 := by
  have : 0 ≤ x ∧ x ≤ 255 := by simpa [FitsK, Lit.wf, IntKind.min, IntKind.max, IntKind.signed, IntKind.bits] using h
  omega
theorem fits_byt {l : List Int} (h : ∀ x ∈ l, FitsK .u8 x) : Byt l := byt_of fun b hb => fits_u8 (h b hb)
section
variable {H : Type} {enc : TypeId × Value → H} {P : Program} {W : World} {base : Nat} {held : Bool}
/-- The types of an instruction, told once. -/
structure InsTy (P : Program) (e : TypeId) (f0 f1 f2 f3 f4 : Field) : Prop where
  st : P.underlying e = some (.struct #[f0, f1, f2, f3, f4])
  o : f0.offset = 0 ∧ f1.offset = 1 ∧ f2.offset = 2 ∧ f3.offset = 3 ∧ f4.offset = 4
  u0 : P.underlying f0.type = some (.int .i64)
  u1 : P.underlying f1.type = some (.int .i64)
  u2 : P.underlying f2.type = some (.int .i64)
  u3 : P.underlying f3.type = some (.int .i64)
  u4 : P.underlying f4.type = some (.int .i64)
  c : P.cellsOf f0.type = 1 ∧ P.cellsOf f1.type = 1 ∧ P.cellsOf f2.type = 1 ∧ P.cellsOf f3.type = 1 ∧ P.cellsOf f4.type = 1 ∧ P.cellsOf e = 5
theorem readA1 {e : TypeId} {f0 f1 f2 f3 f4 : Field} (T : InsTy P e f0 f1 f2 f3 f4) {fuel b o : Nat} {cs : List Value} {d : DataW H} {ps : List MemPlace}
    (hcs : ∀ i, i < 5 → W.cell? ⟨b, o + i, none⟩ = cs[i]?) (hl : cs.length = 5) (h : DataW.trod enc P W base (fun _ => true) held fuel e cs = some (d, ps)) :
    ∃ x : Ins, IaAt W b o x ∧ I64 x.i := by
  obtain ⟨xs, n, _, hx, _, hn, hf⟩ := DataW.trod_struct T.st h
  obtain ⟨o0, o1, o2, o3, o4⟩ := T.o
  obtain ⟨k0, k1, k2, k3, k4, ke⟩ := T.c
  match cs, hl with
  | [v0, v1, v2, v3, v4], _ =>
  match xs, hn with
  | [y0, y1, y2, y3, y4], _ =>
  have g0 := hf 0 f0 rfl
  have g1 := hf 1 f1 rfl
  have g2 := hf 2 f2 rfl
  have g3 := hf 3 f3 rfl
  have g4 := hf 4 f4 rfl
  rw [o0, k0] at g0
  rw [o1, k1] at g1
  rw [o2, k2] at g2
  rw [o3, k3] at g3
  rw [o4, k4] at g4
  obtain ⟨n0, a0, _, w0⟩ := DataW.trod_int T.u0 (show DataW.trod enc P W base (fun _ => true) held n f0.type [v0] = some y0 from g0)
  obtain ⟨n1, a1, _, w1⟩ := DataW.trod_int T.u1 (show DataW.trod enc P W base (fun _ => true) held n f1.type [v1] = some y1 from g1)
  obtain ⟨n2, a2, _, w2⟩ := DataW.trod_int T.u2 (show DataW.trod enc P W base (fun _ => true) held n f2.type [v2] = some y2 from g2)
  obtain ⟨n3, a3, _, w3⟩ := DataW.trod_int T.u3 (show DataW.trod enc P W base (fun _ => true) held n f3.type [v3] = some y3 from g3)
  obtain ⟨n4, a4, _, w4⟩ := DataW.trod_int T.u4 (show DataW.trod enc P W base (fun _ => true) held n f4.type [v4] = some y4 from g4)
  cases a0; cases a1; cases a2; cases a3; cases a4
  exact ⟨⟨n0, n1, n2, n3, n4⟩, ⟨hcs 0 (by omega), hcs 1 (by omega), hcs 2 (by omega), hcs 3 (by omega), hcs 4 (by omega)⟩, fits_i64 w4⟩
theorem readA {t e : TypeId} {f0 f1 f2 f3 f4 : Field} (ht : P.underlying t = some (.slice e)) (T : InsTy P e f0 f1 f2 f3 f4) (hby : 1 ≤ P.bytesOf e) {fuel : Nat} {cs : List Value} {d : DataW H} {ps : List MemPlace}
    (h : DataW.trod enc P W base (fun _ => true) held fuel t cs = some (d, ps)) (hw : ∀ n ∈ d.weights P t, n ≤ reachBytes) :
    ∃ v ts, cs = [v] ∧ Ias W v ts ∧ ∀ x ∈ ts, I64 x.i := by
  rcases open_slice ht h with ⟨rfl, hx⟩ | ⟨a, len, cap, m, n, D, Pl, rfl, hb, hl, hm, hmm, hx, hel⟩
  · exact ⟨_, [], rfl, ⟨none, 0, rfl, Nat.le_refl _, ⟨by simp, by omega⟩, fun _ => rfl, fun i hi => absurd hi (by simp)⟩, fun x hx => by cases hx⟩
  · simp only [if_true] at hmm
    subst hmm
    simp only [Prod.mk.injEq] at hx
    obtain ⟨hd, _⟩ := hx
    have hcap : m ≤ 140737488351232 := by
      rw [hd] at hw
      have := weights_len ht hby hw
      simp at this
      omega
    obtain ⟨_, _, _, _, _, ke⟩ := T.c
    by_cases hz : len = 0
    · subst hz
      exact ⟨_, [], rfl, ⟨some a, m, rfl, by omega, ⟨by simp, by omega⟩, (fun hh => by cases hh), fun i hi => absurd hi (by simp)⟩, fun x hx => by cases hx⟩
    have hsp : a.spot = none := by
      obtain ⟨cs', h1, _⟩ := hel 0 (by omega)
      rw [ke] at h1
      obtain ⟨_, hl5, hg⟩ := World.cells?_some h1
      have h0 := hg 0 (by omega)
      have e0 : (a.add (0 * 5)).add 0 = a := by simp [Addr.add]
      rw [e0, List.getElem?_eq_getElem (by omega)] at h0
      exact World.cell?_spot h0
    obtain ⟨b, o, s⟩ := a
    simp only at hsp
    subst hsp
    obtain ⟨V, hV⟩ := choose_lt (α := Ins) (n := len) (p := fun i x => IaAt W b (o + i * 5) x ∧ I64 x.i) (fun i hi => by
      obtain ⟨cs', h1, h2⟩ := hel i (by omega)
      rw [ke] at h1
      obtain ⟨_, hl5, hg⟩ := World.cells?_some h1
      exact readA1 T (fun j hj => by rw [← add_add b o (i * 5) j]; exact hg j hj) hl5 h2)
    have hlen : ((List.range len).map V).length = len := by simp
    have hget : ∀ i, i < len → ((List.range len).map V).getD i default = V i := fun i hi => by
      rw [List.getD_eq_getElem?_getD, List.getElem?_map, List.getElem?_range hi]; rfl
    refine ⟨_, (List.range len).map V, rfl, ⟨some ⟨b, o, none⟩, m, by rw [hlen], by omega, ⟨by omega, by omega⟩, (fun hh => by cases hh), fun i hi => ?_⟩, fun x hx => ?_⟩
    · rw [hlen] at hi
      refine ⟨b, o, rfl, cell_lt (hV i hi).1.1, ?_⟩
      show IaAt W b (o + i * 5) _
      rw [hget i hi]
      exact (hV i hi).1
    · obtain ⟨i, hi, rfl⟩ := List.mem_map.1 hx
      exact (hV i (List.mem_range.1 hi)).2
end
end Go.Proofs.Ytdojafpjipcbjaa
namespace Go.Proofs.Ytdojafpjipcbjaa
open Go.RowKit
set_option linter.unusedVariables false
set_option linter.unusedSimpArgs false
theorem app_any {w : World} {ops : Array Oper} {rest : List Oper} {o : Oper} {a : Act} {Q : Exit → Act → World → Prop} (hgd : o.guard = none) (s x : Operand)
    (ho : o.op = .call { callee := .builtin .append, args := #[s, x], argTypes := #[22, 22] }) (base : Nat) (v : Value) (xs : List Int) (hs : a.eval s = v) (hown : RowI w base 5 .u8 v xs)
    (u : Value) (ys : List Int) (hx : a.eval x = u) (hu : Ints .u8 w u ys) (hl : xs.length + ys.length ≤ 100000) (hbase : base ≤ w.heap.size)
    (h : ∀ v' w', RowI w' base 5 .u8 v' (xs ++ ys) → Below base w w' → wpList Try.prog ops Q rest (a.put o.dst v') w') : wpList Try.prog ops Q (o :: rest) a w := by
  rcases Nat.eq_zero_or_pos ys.length with h0 | h0
  · obtain ⟨i0, hi0, hz0, hz1, hz2⟩ := info_parts info_u8
    obtain rfl : ys = [] := List.length_eq_zero_iff.1 h0
    obtain ⟨ad, c, e, h1, h2, h3, _⟩ := hu
    rcases ad with _ | ad
    · have hc : c = 0 := h3 rfl
      refine wpList_append_own_none hgd s x _ ho base 5 i0 1 Try.underlying22 hi0 v xs.length _ hs hown (hx.trans (by rw [e, hc]; rfl)) ?_
      exact h v w (by rw [List.append_nil]; exact hown) (Below.refl _ _)
    · refine wpList_append_own (P := Try.prog) w hgd s x _ ho base 5 i0 (.int .u8 0) 1 1 Try.underlying22 hi0 hz0 hz1 hz2 rfl (by decide) v xs.length _ hs hown ad 0 c [] (hx.trans e) rfl (fun j u hj => by simp at hj) (fun u hu => by cases hu) ?_ ?_ hbase ?_
      · unfold maxLen; simp at hl; omega
      · simp at hl; omega
      · intro v' w' hown' hg _
        rw [List.append_nil, Nat.add_zero] at hown'
        exact h v' w' (by rw [List.append_nil]; exact hown') ((Below.refl _ _).grown hg hbase (own_ge hown))
  · exact wpList_app_u8 hgd s x ho base v xs hs hown u ys hx hu h0 hl hbase h
theorem boxed (o d s z i : Int) (w : World) : ∃ W0, w.alloc (.cells #[.int .i64 o, .int .i64 d, .int .i64 s, .int .i64 z, .int .i64 i] 25) = W0 ∧ Below w.heap.size w W0 ∧ Box5 W0 w.heap.size o d s z i :=
  ⟨_, rfl, (Below.refl _ _).alloc (Nat.le_refl _) _, Box5.new w o d s z i⟩
set_option maxRecDepth 100000 in
set_option maxHeartbeats 1000000 in
theorem codes_bad (o d s z i : Int) (l : List Int) (v : Value) (w : World) (hi : I64 i) (hv : Ints .u8 w v l) (hok : okI ⟨o, d, s, z, i⟩ = false) (hl : ¬ 1000 < l.length) : Calls Try.prog 4 #[.agg #[.int .i64 o, .int .i64 d, .int .i64 s, .int .i64 z, .int .i64 i], v] w fun e w' => e = .returned (.bool true) ∧ Below w.heap.size w w' := by
  obtain ⟨W0, hW0, hb0, hbx⟩ := boxed o d s z i w
  obtain ⟨⟨q0, q1, q2, q3, q4⟩, _⟩ := hbx.cells
  obtain ⟨va, vc, rfl, hl1, hl2⟩ := hv.shape
  have d0 : decide (1000 < l.length) = false := decide_eq_false hl
  have HB0 := Lib.hid hb0
  have C1 : Hid (∀ wk, Calls Try.prog 11 #[.agg #[.int .i64 o, .int .i64 d, .int .i64 s, .int .i64 z, .int .i64 i]] wk fun e w' => e = .returned (.tuple #[.slice none 0 0, .int .i64 1]) ∧ Below wk.heap.size wk w') := fun wk => encode_bad ⟨o, d, s, z, i⟩ wk hok
  have C2 : Hid (∀ wk, Calls Try.prog 12 #[.agg #[.int .i64 o, .int .i64 d, .int .i64 s, .int .i64 z, .int .i64 i]] wk fun e w' => e = .returned (.tuple #[.slice none 0 0, .int .i64 1]) ∧ Below wk.heap.size wk w') := fun wk => rEncode_bad ⟨o, d, s, z, i⟩ wk hi hok
  have C3 : Hid (∀ wk, Calls Try.prog 13 #[.agg #[.int .i64 o, .int .i64 d, .int .i64 s, .int .i64 z, .int .i64 i]] wk fun e w' => e = .returned (.tuple #[.int .i64 0, .int .i64 1]) ∧ Below wk.heap.size wk w') := fun wk => size_bad ⟨o, d, s, z, i⟩ wk hok
  have C4 : Hid (∀ wk, Calls Try.prog 14 #[.agg #[.int .i64 o, .int .i64 d, .int .i64 s, .int .i64 z, .int .i64 i]] wk fun e w' => e = .returned (.int .i64 1) ∧ Below wk.heap.size wk w') := fun wk => by
    have := validate_any ⟨o, d, s, z, i⟩ wk
    rw [show vaI ⟨o, d, s, z, i⟩ = 1 by unfold vaI; rw [hok]; rfl] at this
    exact this
  have C5 := Lib.hid known_any
  have t0 : ∀ wk : World, (convert 22 9 (.slice none 0 0)).run Try.prog wk = .ok (.string (strOfNums [])) wk := fun wk => (Ints.nil .u8 wk).str
  generalize strOfNums [] = S at *
  have h00 := Since.refl W0
  clear hbx hb0 hok hv
  go_enter Try.func4, Try.ntmps4
  go_wp2_with (first | ((go_at_call 11; with_reducible refine (C1.out _).mono ?_); rintro e w1 ⟨rfl, hb1⟩; have hs1 : Since W0 w1 := hb1; have x0 := hs1.cell q0; have x1 := hs1.cell q1; have x2 := hs1.cell q2; have x3 := hs1.cell q3; have x4 := hs1.cell q4; clear hb1) | ((go_at_call 12; with_reducible refine (C2.out _).mono ?_); rintro e w2 ⟨rfl, hb2⟩; have hs2 : Since W0 w2 := hs1.next hb2; have y0 := hs2.cell q0; have y1 := hs2.cell q1; have y2 := hs2.cell q2; have y3 := hs2.cell q3; have y4 := hs2.cell q4; clear hb2) | ((go_at_call 13; with_reducible refine (C3.out _).mono ?_); rintro e w3 ⟨rfl, hb3⟩; have hs3 : Since W0 w3 := hs2.next hb3; have z0 := hs3.cell q0; have z1 := hs3.cell q1; have z2 := hs3.cell q2; have z3 := hs3.cell q3; have z4 := hs3.cell q4; clear hb3) | ((go_at_call 14; with_reducible refine (C4.out _).mono ?_); rintro e w4 ⟨rfl, hb4⟩; have hs4 : Since W0 w4 := hs3.next hb4; clear hb4) | ((go_at_call 8; with_reducible refine (C5.out _).mono ?_); rintro e w5 ⟨rfl, hb5⟩; have hs5 : Since W0 w5 := hs4.next hb5; clear hb5))
  go_ret
  exact ⟨rfl, below_hop HB0.out hs5⟩
theorem codes_long (o d s z i : Int) (l : List Int) (v : Value) (w : World) (hv : Ints .u8 w v l) (hl : 1000 < l.length) : Calls Try.prog 4 #[.agg #[.int .i64 o, .int .i64 d, .int .i64 s, .int .i64 z, .int .i64 i], v] w fun e w' => e = .returned (.bool true) ∧ Below w.heap.size w w' := by
  obtain ⟨W0, hW0, hb0, hbx⟩ := boxed o d s z i w
  obtain ⟨va, vc, rfl, hl1, hl2⟩ := hv.shape
  have d0 : decide (1000 < l.length) = true := decide_eq_true hl
  have HB0 := Lib.hid hb0
  have C5 := Lib.hid known_any
  clear hbx hb0 hv
  go_enter Try.func4, Try.ntmps4
  go_wp2_with ((go_at_call 8; with_reducible refine (C5.out _).mono ?_); rintro e w5 ⟨rfl, hb5⟩)
  go_ret
  exact ⟨rfl, below_hop HB0.out hb5⟩
set_option maxRecDepth 100000 in
set_option maxHeartbeats 1000000 in
theorem codes_ok (o d s z i : Int) (l : List Int) (v : Value) (w : World) (hi : I64 i) (hv : Ints .u8 w v l) (hby : Byt l) (hok : okI ⟨o, d, s, z, i⟩ = true) (hl : ¬ 1000 < l.length) : Calls Try.prog 4 #[.agg #[.int .i64 o, .int .i64 d, .int .i64 s, .int .i64 z, .int .i64 i], v] w fun e w' => e = .returned (.bool true) ∧ Below w.heap.size w w' := by
  obtain ⟨W0, hW0, hb0, hbx⟩ := boxed o d s z i w
  obtain ⟨⟨q0, q1, q2, q3, q4⟩, _⟩ := hbx.cells
  have HV := Lib.hid hv
  obtain ⟨va, vc, rfl, hl1, hl2⟩ := hv.shape
  have d0 : decide (1000 < l.length) = false := decide_eq_false hl
  have HB0 := Lib.hid hb0
  have C1 : Hid (∀ wk, Calls Try.prog 11 #[.agg #[.int .i64 o, .int .i64 d, .int .i64 s, .int .i64 z, .int .i64 i]] wk fun e w' => ∃ v, e = .returned (.tuple #[v, .int .i64 0]) ∧ RowI w' wk.heap.size 5 .u8 v (encI ⟨o, d, s, z, i⟩) ∧ Below wk.heap.size wk w') := fun wk => encode_ok ⟨o, d, s, z, i⟩ wk hok
  have C2 : Hid (∀ wk, Calls Try.prog 12 #[.agg #[.int .i64 o, .int .i64 d, .int .i64 s, .int .i64 z, .int .i64 i]] wk fun e w' => ∃ v, e = .returned (.tuple #[v, .int .i64 0]) ∧ RowI w' wk.heap.size 5 .u8 v (encI ⟨o, d, s, z, i⟩) ∧ Below wk.heap.size wk w') := fun wk => rEncode_ok ⟨o, d, s, z, i⟩ wk hi hok
  have C3 : Hid (∀ wk, Calls Try.prog 13 #[.agg #[.int .i64 o, .int .i64 d, .int .i64 s, .int .i64 z, .int .i64 i]] wk fun e w' => e = .returned (.tuple #[.int .i64 (encI ⟨o, d, s, z, i⟩).length, .int .i64 0]) ∧ Below wk.heap.size wk w') := fun wk => size_ok ⟨o, d, s, z, i⟩ wk hok
  have C4 : Hid (∀ wk, Calls Try.prog 14 #[.agg #[.int .i64 o, .int .i64 d, .int .i64 s, .int .i64 z, .int .i64 i]] wk fun e w' => e = .returned (.int .i64 0) ∧ Below wk.heap.size wk w') := fun wk => by
    have := validate_any ⟨o, d, s, z, i⟩ wk
    rw [show vaI ⟨o, d, s, z, i⟩ = 0 by unfold vaI; rw [hok]; rfl] at this
    exact this
  have C5 := Lib.hid known_any
  have hen := enc_len hok
  have hbyt : Byt (encI ⟨o, d, s, z, i⟩) := fun k => by
    rcases Nat.lt_or_ge k (encI ⟨o, d, s, z, i⟩).length with h | h
    · rw [List.getD_eq_getElem?_getD, List.getElem?_eq_getElem h]
      exact encI_byte hok _ (List.getElem_mem h)
    · rw [List.getD_eq_getElem?_getD, List.getElem?_eq_none h]; decide
  have HBY := Lib.hid hby
  have HBE := Lib.hid hbyt
  have HD1 : Hid (∀ r, decI (encI ⟨o, d, s, z, i⟩ ++ r) = some (⟨o, d, s, z, i⟩, (encI ⟨o, d, s, z, i⟩).length)) := fun r => decI_enc hok r
  have HD2 : Hid (decI ((encI ⟨o, d, s, z, i⟩).take ((encI ⟨o, d, s, z, i⟩).length - 1)) = none) := decI_short hok
  clear hbx hb0 hv hby hok hbyt
  generalize encI ⟨o, d, s, z, i⟩ = en at *
  obtain ⟨he1, he2⟩ := hen
  have h00 := Since.refl W0
  have D1 : Hid (∀ wk v, Ints .u8 wk v (en ++ l) → Calls Try.prog 9 #[v] wk fun e w' => e = .returned (.tuple #[.agg #[.int .i64 o, .int .i64 d, .int .i64 s, .int .i64 z, .int .i64 i], .int .i64 en.length, .bool true]) ∧ Below wk.heap.size wk w') := fun wk v h => by
    have := decode_any (en ++ l) v wk h (fun k => by
      rcases Nat.lt_or_ge k en.length with hk | hk
      · rw [getD_append_lt hk]; exact HBE.out k
      · rw [getD_append_ge hk]; exact HBY.out _)
    rw [(dec_some (HD1.out l)).1, (dec_some (HD1.out l)).2.1, (dec_some (HD1.out l)).2.2] at this
    exact this
  have D2 : Hid (∀ wk v, Ints .u8 wk v (en.take (en.length - 1)) → Calls Try.prog 9 #[v] wk fun e w' => e = .returned (.tuple #[.agg #[.int .i64 0, .int .i64 0, .int .i64 0, .int .i64 0, .int .i64 0], .int .i64 0, .bool false]) ∧ Below wk.heap.size wk w') := fun wk v h => by
    have := decode_any (en.take (en.length - 1)) v wk h (fun k => by
      rw [List.getD_eq_getElem?_getD, List.getElem?_take]
      split
      · rw [← List.getD_eq_getElem?_getD]; exact HBE.out k
      · decide)
    rw [(dec_none HD2.out).1, (dec_none HD2.out).2.1, (dec_none HD2.out).2.2] at this
    exact this
  have hnz : (((en.length : Int)) == 0) = false := beqF (by omega)
  go_enter Try.func4, Try.ntmps4
  go_upto_region 6 with (first | ((go_at_call 11; with_reducible refine (C1.out _).mono ?_); rintro e w1 ⟨v1, rfl, hr1, hb1⟩; obtain ⟨a1, c1, rfl⟩ := hr1.shape; have hs1 : Since W0 w1 := hb1; have x0 := hs1.cell q0; have x1 := hs1.cell q1; have x2 := hs1.cell q2; have x3 := hs1.cell q3; have x4 := hs1.cell q4; clear hb1) | ((go_at_call 12; with_reducible refine (C2.out _).mono ?_); rintro e w2 ⟨v2, rfl, hr2, hb2⟩; obtain ⟨a2, c2, rfl⟩ := hr2.shape; have hs12 : Since w1 w2 := hb2; have hs2 : Since W0 w2 := hs1.next hb2; have y0 := hs2.cell q0; have y1 := hs2.cell q1; have y2 := hs2.cell q2; have y3 := hs2.cell q3; have y4 := hs2.cell q4; clear hb2) | ((go_at_call 13; with_reducible refine (C3.out _).mono ?_); rintro e w3 ⟨rfl, hb3⟩; have hs23 : Since w2 w3 := hb3; have hs3 : Since W0 w3 := hs2.next hb3; have z0 := hs3.cell q0; have z1 := hs3.cell q1; have z2 := hs3.cell q2; have z3 := hs3.cell q3; have z4 := hs3.cell q4; clear hb3))
  have hr1' := hr1.below (below_hop hs12 hs23)
  have hr2' := hr2.below hs23
  have t1 := (hr1'.ints (by omega)).str
  have t2 := (hr2'.ints (by omega)).str
  have HR1 := Lib.hid hr1'
  clear hr1 hr2 hr1' hr2' hs12 hs23 hs1 hs2 x0 x1 x2 x3 x4 y0 y1 y2 y3 y4
  generalize strOfNums en = S at *
  go_upto_region 12 with ((go_at_call 14; with_reducible refine (C4.out _).mono ?_); rintro e w4 ⟨rfl, hb4⟩)
  have hs4 : Since W0 w4 := hs3.next hb4
  have HR4 := Lib.hid (HR1.out.below hb4)
  have HL4 := Lib.hid (HV.out.stays (below_hop HB0.out hs4))
  have u0 := hs4.cell q0
  have u1 := hs4.cell q1
  have u2 := hs4.cell q2
  have u3 := hs4.cell q3
  have u4 := hs4.cell q4
  have HB4 := Lib.hid (below_hop HB0.out hs4)
  have HLEN : Hid (([] : List Int).length + en.length ≤ 100000) := Lib.hid (by simp; omega)
  have HLEN2 : Hid (en.length + l.length ≤ 100000) := Lib.hid (by omega)
  have HY5 : Hid (en.length ≤ 140737488351232) := Lib.hid (by omega)
  have HY6 : Hid ((en ++ l).length ≤ 140737488351232) := Lib.hid (by rw [List.length_append]; omega)
  clear t1 t2 hb4 hs3 hs4 z0 z1 z2 z3 z4 q0 q1 q2 q3 q4
  go_upto_region 13 with (first | (at_builtin; refine app_any rfl _ _ rfl w4.heap.size _ [] rfl (RowI.lit w4 #[] [] .u8 5 w4.heap.size 0 (Nat.le_refl _) rfl rfl (by unfold maxLen; simp)) _ en rfl ((HR4.out.below bl1).ints HY5.out) HLEN.out (by simp) ?_; intro v5 w5 hr5 hb5; have hr5' : RowI w5 w4.heap.size 5 .u8 v5 en := hr5; have HR5 := Lib.hid hr5'; have HB5 := Lib.hid (((Below.refl w4.heap.size w4).alloc (Nat.le_refl _) (.cells #[] 5)).trans hb5); clear hr5 hr5' hb5) | (at_builtin; refine app_any rfl _ _ rfl w4.heap.size _ en rfl HR5.out _ l rfl (HL4.out.stays HB5.out) HLEN2.out HB5.out.size ?_; intro v6 w6 hr6 hb6; have HR6 := Lib.hid hr6; have HB6 := Lib.hid (HB5.out.trans hb6); clear hr6 hb6) | ((go_at_call 9; with_reducible refine (D1.out _ _ (HR6.out.ints HY6.out)).mono ?_); rintro e w7 ⟨rfl, hb7⟩))
  obtain ⟨W8, hW8⟩ : ∃ W, w7.alloc (.cells #[.int .i64 o, .int .i64 d, .int .i64 s, .int .i64 z, .int .i64 i] 25) = W := ⟨_, rfl⟩
  have hs8 : Below w4.heap.size w4 W8 := by rw [← hW8]; exact HB6.out.trans ((hb7.mono HB6.out.size).alloc (Nat.le_trans HB6.out.size hb7.size) _)
  have hx8 : Box5 W8 w7.heap.size o d s z i := by rw [← hW8]; exact Box5.new w7 o d s z i
  rw [hW8]
  obtain ⟨⟨p0, p1, p2, p3, p4⟩, _⟩ := hx8.cells
  have hI8 := ((HR4.out.below hs8).ints HY5.out).take (m := en.length - 1) (by omega)
  have HD2' := Lib.hid (D2.out W8 _ hI8)
  have HS8 := Lib.hid hs8
  have hle1 : en.length - 1 ≤ c1 := by have := (HR1.out.ints HY5.out).shape; obtain ⟨a', c', e', h', _⟩ := this; cases e'; omega
  have hsub : wrap64 ((en.length : Int) - 1) = ((en.length - 1 : Nat) : Int) := by rw [IntWalk.wrap64_in _ (by omega)]; omega
  clear hW8 hb7 hs8 hx8 hI8
  go_upto_region 14 with ((go_at_call 9; with_reducible refine (HD2'.out).mono ?_); rintro e w9 ⟨rfl, hb9⟩)
  obtain ⟨W9, hW9⟩ : ∃ W, w9.alloc (.cells #[.int .i64 0, .int .i64 0, .int .i64 0, .int .i64 0, .int .i64 0] 25) = W := ⟨_, rfl⟩
  have hs9 : Since W8 W9 := by rw [← hW9]; exact below_hop hb9 ((Below.refl _ _).alloc (Nat.le_refl _) _)
  rw [hW9]
  have hs49 : Since w4 W9 := below_hop HS8.out hs9
  have r0 := hs9.cell p0
  have s0 := hs49.cell u0
  have r1 := hs9.cell p1
  have s1 := hs49.cell u1
  have r2 := hs9.cell p2
  have s2 := hs49.cell u2
  have r3 := hs9.cell p3
  have s3 := hs49.cell u3
  have r4 := hs9.cell p4
  have s4 := hs49.cell u4
  have HB9 := Lib.hid (below_hop HB4.out hs49)
  clear hW9 hb9 hs9 hs49 p0 p1 p2 p3 p4 u0 u1 u2 u3 u4
  go_wp2_with ((go_at_call 8; with_reducible refine (C5.out _).mono ?_); rintro e w10 ⟨rfl, hb10⟩)
  go_ret
  exact ⟨rfl, below_hop HB9.out hb10⟩
theorem wIaCodes (o d s z i : Int) (l : List Int) (v : Value) (w : World) (hi : I64 i) (hv : Ints .u8 w v l) (hby : Byt l) : Calls Try.prog 4 #[.agg #[.int .i64 o, .int .i64 d, .int .i64 s, .int .i64 z, .int .i64 i], v] w fun e w' => e = .returned (.bool true) ∧ Below w.heap.size w w' := by
  by_cases hl : 1000 < l.length
  · exact codes_long o d s z i l v w hv hl
  · cases hok : okI ⟨o, d, s, z, i⟩
    · exact codes_bad o d s z i l v w hi hv hok hl
    · exact codes_ok o d s z i l v w hi hv hby hok hl
end Go.Proofs.Ytdojafpjipcbjaa
namespace Go.Proofs.Ytdojafpjipcbjaa
open Go.ChangeShapes Go.WideShapes Go.RowKit Go.Deep Go.WideElems Go.Joins
set_option linter.unusedVariables false
set_option linter.unusedSimpArgs false
section
variable {H : Type} {enc : TypeId × Value → H} {P : Program} {w : World} {base : Nat} {spare : Nat → Bool} {held : Bool}
theorem array5 {α : Type} {cs : Array α} (h : cs.size = 5) : ∃ c0 c1 c2 c3 c4, cs = #[c0, c1, c2, c3, c4] := by
  obtain ⟨l⟩ := cs
  match l, h with
  | [c0, c1, c2, c3, c4], _ => exact ⟨c0, c1, c2, c3, c4, rfl⟩
theorem trod_five {t : TypeId} {f0 f1 f2 f3 f4 : Field} {fuel : Nat} {cs : List Value} {x : DataW H × List MemPlace} (ht : P.underlying t = some (.struct #[f0, f1, f2, f3, f4])) (h : DataW.trod enc P w base spare held fuel t cs = some x) :
    ∃ y0 y1 y2 y3 y4 n, x = (.agg [y0.1, y1.1, y2.1, y3.1, y4.1], y0.2 ++ (y1.2 ++ (y2.2 ++ (y3.2 ++ y4.2)))) ∧ DataW.trod enc P w base spare held n f0.type ((cs.drop f0.offset).take (P.cellsOf f0.type)) = some y0 ∧
      DataW.trod enc P w base spare held n f1.type ((cs.drop f1.offset).take (P.cellsOf f1.type)) = some y1 ∧ DataW.trod enc P w base spare held n f2.type ((cs.drop f2.offset).take (P.cellsOf f2.type)) = some y2 ∧
      DataW.trod enc P w base spare held n f3.type ((cs.drop f3.offset).take (P.cellsOf f3.type)) = some y3 ∧ DataW.trod enc P w base spare held n f4.type ((cs.drop f4.offset).take (P.cellsOf f4.type)) = some y4 := by
  obtain ⟨xs, n, _, rfl, hl, hlen, hf⟩ := DataW.trod_struct ht h
  match xs, hlen with
  | [y0, y1, y2, y3, y4], _ => exact ⟨y0, y1, y2, y3, y4, n, by simp, by simpa using hf 0 f0 rfl, by simpa using hf 1 f1 rfl, by simpa using hf 2 f2 rfl, by simpa using hf 3 f3 rfl, by simpa using hf 4 f4 rfl⟩
theorem open_agg5 {r : Reach} {b0 : Nat} {t : TypeId} {f0 f1 f2 f3 f4 : Field} {v : Value} {d : DataW H} {p : List MemPlace} (hs : P.underlying t = some (.struct #[f0, f1, f2, f3, f4])) (hone : oneCellFields P #[f0, f1, f2, f3, f4] = true) (hC : P.cellsOf t = 5)
    (hv : Value.okWide P w r b0 t v) (h : DataW.Trod enc P w base spare held t v d p) :
    ∃ (v0 v1 v2 v3 v4 : Value) (y0 y1 y2 y3 y4 : DataW H × List MemPlace) (n : Nat), v = .agg #[v0, v1, v2, v3, v4] ∧ d = .agg [y0.1, y1.1, y2.1, y3.1, y4.1] ∧ p = y0.2 ++ (y1.2 ++ (y2.2 ++ (y3.2 ++ y4.2))) ∧
      DataW.trod enc P w base spare held n f0.type [v0] = some y0 ∧ DataW.trod enc P w base spare held n f1.type [v1] = some y1 ∧ DataW.trod enc P w base spare held n f2.type [v2] = some y2 ∧ DataW.trod enc P w base spare held n f3.type [v3] = some y3 ∧ DataW.trod enc P w base spare held n f4.type [v4] = some y4 := by
  obtain ⟨cs, rfl, hsz⟩ := okWide_struct hs hv
  obtain ⟨c0, c1, c2, c3, c4, rfl⟩ := array5 (hsz.trans hC)
  obtain ⟨fuel, hf⟩ := h
  obtain ⟨y0, y1, y2, y3, y4, n, hx, h0, h1, h2, h3, h4⟩ := trod_five hs hf
  obtain ⟨o0, k0⟩ := hone_of hone 0 f0 rfl
  obtain ⟨o1, k1⟩ := hone_of hone 1 f1 rfl
  obtain ⟨o2, k2⟩ := hone_of hone 2 f2 rfl
  obtain ⟨o3, k3⟩ := hone_of hone 3 f3 rfl
  obtain ⟨o4, k4⟩ := hone_of hone 4 f4 rfl
  simp only [Prod.mk.injEq] at hx
  exact ⟨c0, c1, c2, c3, c4, y0, y1, y2, y3, y4, n, rfl, hx.1, hx.2, by simpa [Value.cells, o0, k0] using h0, by simpa [Value.cells, o1, k1] using h1, by simpa [Value.cells, o2, k2] using h2, by simpa [Value.cells, o3, k3] using h3, by simpa [Value.cells, o4, k4] using h4⟩
end
end Go.Proofs.Ytdojafpjipcbjaa
namespace Go.Proofs.Ytdojafpjipcbjaa
open Go.RowKit Go.Maps
set_option linter.unusedVariables false
set_option linter.unusedSimpArgs false
theorem take_snoc {xs : List Ins} {j : Nat} (h : j < xs.length) : xs.take (j + 1) = xs.take j ++ [xs.getD j default] := by
  rw [List.take_add_one, List.getElem?_eq_getElem h, List.getD_eq_getElem?_getD, List.getElem?_eq_getElem h]; rfl
theorem take_all {xs : List Ins} (h : allI xs) (j : Nat) : allI (xs.take j) := fun x hx => h x (List.mem_of_mem_take hx)
theorem getD_mem {xs : List Ins} {j : Nat} (h : j < xs.length) : xs.getD j default ∈ xs := by
  rw [List.getD_eq_getElem?_getD, List.getElem?_eq_getElem h]; exact List.getElem_mem h
set_option maxRecDepth 100000 in
set_option maxHeartbeats 1000000 in
theorem bytes_no (xs : List Ins) (v : Value) (w : World) (hv : Ias w v xs) (hno : ¬ allI xs) : Calls Try.prog 15 #[v] w fun e w' => e = .returned (.tuple #[.slice none 0 0, .int .i64 1]) ∧ Below w.heap.size w w' := by
  have HV := Lib.hid hv
  have HNO := Lib.hid hno
  obtain ⟨va, vc, rfl, hl1, hl2⟩ := hv.shape
  clear hv hno
  go_enter Try.func15, Try.ntmps15
  go_wp2_with fail
  go_loopw [12] (fun i wr => ∃ j : Nat, j ≤ xs.length ∧ i = .int .i64 j ∧ Hid (∀ k, k < j → okI (xs.getD k default) = true) ∧ Since w wr) (fun i _ => xs.length - (intOf i).toNat)
  case atStart => exact ⟨0, Nat.zero_le _, rfl, Lib.hid (fun k h => absurd h (Nat.not_lt_zero _)), Since.refl _⟩
  case round =>
    obtain ⟨j, hj, rfl, hok, hs⟩ := hrel
    by_cases hlt : j < xs.length
    · obtain ⟨b, q, c, e', hc, hb, x0, x1, x2, x3, x4⟩ := (HV.out.stays hs).at hlt
      cases e'
      have CV := Lib.hid (fun wk => validate_any (xs.getD j default) wk)
      have HJ : Hid (∀ o, okI (xs.getD j default) = o → okI (xs.getD j default) = o) := fun _ h => h
      have hva : vaI (xs.getD j default) = if okI (xs.getD j default) = true then 0 else 1 := rfl
      have HS := Lib.hid hs
      obtain ⟨x, hx⟩ : ∃ x, xs.getD j default = x := ⟨_, rfl⟩
      rw [hx] at x0 x1 x2 x3 x4 CV hva
      obtain ⟨o, d, s, z, i⟩ := x
      have CV2 : Hid (∀ wk, Calls Try.prog 14 #[.agg #[.int .i64 o, .int .i64 d, .int .i64 s, .int .i64 z, .int .i64 i]] wk fun e w' => e = .returned (.int .i64 (vaI ⟨o, d, s, z, i⟩)) ∧ Below wk.heap.size wk w') := CV
      have HX := Lib.hid hx
      clear hx CV HJ hs
      have hlt' : (j : Int) < xs.length := Int.ofNat_lt.2 hlt
      cases ho : okI ⟨o, d, s, z, i⟩
      · rw [show vaI ⟨o, d, s, z, i⟩ = 1 by rw [hva, ho]; rfl] at CV2
        clear hva ho
        go_wp2_with ((go_at_call 14; with_reducible refine (CV2.out _).mono ?_); rintro e w1 ⟨rfl, hb1⟩)
        go_ret2
        exact ⟨rfl, below_hop HS.out (below_hop ((Below.refl _ _).alloc (Nat.le_refl _) _) hb1)⟩
      · rw [show vaI ⟨o, d, s, z, i⟩ = 0 by rw [hva, ho]; rfl] at CV2
        have HO : Hid (∀ k, k < j + 1 → okI (xs.getD k default) = true) := fun k hk => by
          by_cases e : k = j
          · rw [e, HX.out]; exact ho
          · exact hok.out k (by omega)
        clear hva ho
        go_wp2_with ((go_at_call 14; with_reducible refine (CV2.out _).mono ?_); rintro e w1 ⟨rfl, hb1⟩)
        go_roundw
        case rel => exact ⟨j + 1, by omega, by go_num, HO, below_hop HS.out (below_hop ((Below.refl _ _).alloc (Nat.le_refl _) _) hb1)⟩
        case measure => simp [intOf]; omega
    · obtain rfl : j = xs.length := by omega
      refine absurd (fun x hx => ?_) HNO.out
      obtain ⟨k, hk, rfl⟩ := List.mem_iff_getElem.1 hx
      have := hok.out k hk
      rw [List.getD_eq_getElem?_getD, List.getElem?_eq_getElem hk] at this
      exact this
set_option maxRecDepth 100000 in
set_option maxHeartbeats 1000000 in
theorem bytes_yes (xs : List Ins) (v : Value) (w : World) (hv : Ias w v xs) (hyes : allI xs) (hlen : xs.length ≤ 10000) : Calls Try.prog 15 #[v] w fun e w' => ∃ u, e = .returned (.tuple #[u, .int .i64 0]) ∧ RowI w' w.heap.size 5 .u8 u (bysI xs) ∧ Below w.heap.size w w' := by
  have HV := Lib.hid hv
  have HY := Lib.hid hyes
  obtain ⟨va, vc, rfl, hl1, hl2⟩ := hv.shape
  clear hv hyes
  go_enter Try.func15, Try.ntmps15
  go_wp2_with fail
  go_loopw [12] (fun i wr => ∃ j : Nat, j ≤ xs.length ∧ i = .int .i64 j ∧ Since w wr) (fun i _ => xs.length - (intOf i).toNat)
  case atStart => exact ⟨0, Nat.zero_le _, rfl, Since.refl _⟩
  case round =>
    obtain ⟨j, hj, rfl, hs⟩ := hrel
    by_cases hlt : j < xs.length
    · obtain ⟨b, q, c, e', hc, hb, x0, x1, x2, x3, x4⟩ := (HV.out.stays hs).at hlt
      cases e'
      have hok := HY.out _ (getD_mem hlt)
      have CV := Lib.hid (fun wk => validate_any (xs.getD j default) wk)
      rw [show vaI (xs.getD j default) = 0 by unfold vaI; rw [hok]; rfl] at CV
      have HS := Lib.hid hs
      clear hok hs
      generalize xs.getD j default = x at *
      obtain ⟨o, d, s, z, i⟩ := x
      have CV2 : Hid (∀ wk, Calls Try.prog 14 #[.agg #[.int .i64 o, .int .i64 d, .int .i64 s, .int .i64 z, .int .i64 i]] wk fun e w' => e = .returned (.int .i64 0) ∧ Below wk.heap.size wk w') := CV
      clear CV
      have hlt' : (j : Int) < xs.length := Int.ofNat_lt.2 hlt
      go_wp2_with ((go_at_call 14; with_reducible refine (CV2.out _).mono ?_); rintro e w1 ⟨rfl, hb1⟩)
      go_roundw
      case rel => exact ⟨j + 1, by omega, by go_num, below_hop HS.out (below_hop ((Below.refl _ _).alloc (Nat.le_refl _) _) hb1)⟩
      case measure => simp [intOf]; omega
    · obtain rfl : j = xs.length := by omega
      obtain ⟨wo, rfl⟩ : ∃ wo : World, wo = wr := ⟨_, rfl⟩
      have HS := Lib.hid hs
      clear hs
      go_wp2_with fail
      go_loopw [4, 24] (fun u i wr => ∃ j : Nat, j ≤ xs.length ∧ i = .int .i64 j ∧ RowI wr w.heap.size 5 .u8 u (bysI (xs.take j)) ∧ Since w wr) (fun _ i _ => xs.length - (intOf i).toNat)
      case atStart => exact ⟨0, Nat.zero_le _, rfl, RowI.nil _ _ _ _, HS.out⟩
      case round =>
        obtain ⟨j, hj, rfl, hrow, hs⟩ := hrel
        by_cases hlt : j < xs.length
        · obtain ⟨b, q, c, e', hc, hb, x0, x1, x2, x3, x4⟩ := (HV.out.stays hs).at hlt
          cases e'
          have hok := HY.out _ (getD_mem hlt)
          have CB := Lib.hid (fun wk => bytes_any (xs.getD j default) wk hok)
          have HEQ : Hid (bysI (xs.take j) ++ encI (xs.getD j default) = bysI (xs.take (j + 1))) := by show _ = _; rw [take_snoc hlt, bysI_snoc]
          have hen := enc_len hok
          have hbl := bysI_len (take_all HY.out j)
          have htl : (xs.take j).length ≤ 10000 := by rw [List.length_take]; omega
          have HLEN : Hid ((bysI (xs.take j)).length + (encI (xs.getD j default)).length ≤ 100000) := Lib.hid (by omega)
          have HPOS : Hid (0 < (encI (xs.getD j default)).length) := Lib.hid hen.1
          have HY5 : Hid ((encI (xs.getD j default)).length ≤ 140737488351232) := Lib.hid (by omega)
          obtain ⟨ua, uc, rfl⟩ := hrow.shape
          have HROW := Lib.hid hrow
          have HSZ : Hid (w.heap.size ≤ wr.heap.size) := Lib.hid hs.size
          have HS := Lib.hid hs
          clear hok hen hbl htl hrow hs
          generalize xs.getD j default = x at *
          generalize bysI (xs.take j) = bs at *
          obtain ⟨o, d, s, z, i⟩ := x
          have CB2 : Hid (∀ wk, Calls Try.prog 27 #[.agg #[.int .i64 o, .int .i64 d, .int .i64 s, .int .i64 z, .int .i64 i]] wk fun e w' => ∃ v, e = .returned v ∧ RowI w' wk.heap.size 5 .u8 v (encI ⟨o, d, s, z, i⟩) ∧ Below wk.heap.size wk w') := CB
          clear CB
          generalize encI ⟨o, d, s, z, i⟩ = en at *
          have hlt' : (j : Int) < xs.length := Int.ofNat_lt.2 hlt
          go_wp2_with (first | ((go_at_call 27; with_reducible refine (CB2.out _).mono ?_); rintro e w1 ⟨v1, rfl, hr1, hb1⟩; obtain ⟨a1, c1, rfl⟩ := hr1.shape; have HR1 := Lib.hid hr1; have HB1 := Lib.hid (below_hop ((Below.refl wr.heap.size wr).alloc (Nat.le_refl _) _) hb1); clear hr1 hb1) | (at_builtin; refine wpList_app_u8 rfl _ _ rfl w.heap.size _ bs rfl (HROW.out.below HB1.out) _ en rfl (HR1.out.ints HY5.out) HPOS.out HLEN.out (Nat.le_trans HSZ.out HB1.out.size) ?_; intro v9 w9 hr9 hb9; have HR9 := Lib.hid hr9; have HB9 := Lib.hid hb9; clear hr9 hb9))
          go_roundw
          case rel => exact ⟨j + 1, by omega, by go_num, RowI.to HR9.out HEQ.out, since_step (below_hop HS.out HB1.out) HB9.out⟩
          case measure => simp [intOf]; omega
        · obtain rfl : j = xs.length := by omega
          have HROW : Hid (RowI wr w.heap.size 5 .u8 _ (bysI xs)) := Lib.hid (by rw [List.take_length] at hrow; exact hrow)
          have HS := Lib.hid hs
          clear hrow hs
          go_wp2_with fail
          go_ret2
          exact ⟨_, rfl, HROW.out, HS.out⟩
end Go.Proofs.Ytdojafpjipcbjaa
