/- A term without equal nodes: the plain law. The nodes are told in the order of a walk that goes down first; the walk with a stack of its own tells the same. No program in sight. -/
import Derived.Test.YthopdfikikdcbaaNode
namespace Go.Proofs.Ythopdfikikdcbaa
set_option linter.unusedVariables false
set_option linter.unusedSimpArgs false
instance : DecidableEq Nd := fun x y =>
  decidable_of_iff (x.op = y.op ∧ x.width = y.width ∧ x.flags = y.flags ∧ x.args = y.args ∧ x.imm = y.imm) ⟨fun h => by
    obtain ⟨a, b, c, d, e⟩ := x; obtain ⟨a', b', c', d', e'⟩ := y
    simp only at h
    obtain ⟨rfl, rfl, rfl, rfl, rfl⟩ := h; rfl, fun h => by subst h; exact ⟨rfl, rfl, rfl, rfl, rfl⟩⟩
/-- What has been told: the nodes, and for each node of the term its place among them, or -1. -/
structure St where
  out : List Nd
  nos : List Int
def St.no (s : St) (k : Nat) : Int := s.nos.getD k (-1)
def St.told (s : St) (k : Nat) : Prop := 0 ≤ s.no k
instance (s : St) (k : Nat) : Decidable (s.told k) := inferInstanceAs (Decidable (0 ≤ s.no k))
def mapN (s : St) (x : Nd) : Nd := ⟨x.op, x.width, x.flags, x.args.map fun a => s.no a.toNat, x.imm⟩
def addN (out : List Nd) (y : Nd) : List Nd × Nat := if y ∈ out then (out, out.idxOf y) else (out ++ [y], out.length)
def nd (ts : List Nd) (k : Nat) : Nd := ts.getD k default
def tell (ts : List Nd) (k : Nat) (s : St) : St := ⟨(addN s.out (mapN s (nd ts k))).1, s.nos.set k (addN s.out (mapN s (nd ts k))).2⟩
def visit (ts : List Nd) : Nat → Nat → St → St
  | 0, _, s => s
  | f + 1, k, s => if s.told k then s else tell ts k ((nd ts k).args.foldl (fun s a => visit ts f a.toNat s) s)
def vis (ts : List Nd) (k : Nat) (s : St) : St := visit ts (k + 1) k s
/-- The Args of each node are numbers of nodes before it. -/
def Down (ts : List Nd) : Prop := ∀ k, k < ts.length → ∀ a ∈ (nd ts k).args, 0 ≤ a ∧ a < k
structure Inv (ts : List Nd) (s : St) : Prop where
  len : s.nos.length = ts.length
  rng : ∀ k, s.told k → s.no k < s.out.length
  cls : ∀ k, s.told k → ∀ a ∈ (nd ts k).args, s.told a.toNat
  node : ∀ k, s.told k → s.out.getD (s.no k).toNat default = mapN s (nd ts k)
  nod : s.out.Nodup
  src : ∀ i, i < s.out.length → ∃ k, s.told k ∧ s.no k = i
  low : ∀ i, i < s.out.length → ∀ a ∈ (s.out.getD i default).args, 0 ≤ a ∧ a < i
/-- What was told stays as it was told. -/
structure Ext (s s' : St) : Prop where
  out : ∃ l, s'.out = s.out ++ l
  no : ∀ k, s.told k → s'.no k = s.no k
theorem Ext.refl (s : St) : Ext s s := ⟨⟨[], by simp⟩, fun _ _ => rfl⟩
theorem Ext.told {s s' : St} (h : Ext s s') {k : Nat} (hk : s.told k) : s'.told k := by unfold St.told at *; rw [h.no k hk]; exact hk
theorem Ext.trans {a b c : St} (h : Ext a b) (h' : Ext b c) : Ext a c := by
  obtain ⟨l, hl⟩ := h.out
  obtain ⟨l', hl'⟩ := h'.out
  exact ⟨⟨l ++ l', by rw [hl', hl, List.append_assoc]⟩, fun k hk => by rw [h'.no k (h.told hk), h.no k hk]⟩
theorem told_lt {ts : List Nd} {s : St} (hi : Inv ts s) {k : Nat} (hk : s.told k) : k < ts.length := by
  rcases Nat.lt_or_ge k ts.length with h | h
  · exact h
  · exfalso
    unfold St.told St.no at hk
    rw [List.getD_eq_getElem?_getD, List.getElem?_eq_none (by rw [hi.len]; exact h)] at hk
    exact absurd hk (by simp)
theorem addN_len {out : List Nd} {y : Nd} : (addN out y).2 < (addN out y).1.length := by
  unfold addN
  split
  · exact List.idxOf_lt_length_of_mem ‹_›
  · simp
theorem addN_ext {out : List Nd} {y : Nd} : ∃ l, (addN out y).1 = out ++ l := by
  unfold addN
  split
  · exact ⟨[], by simp⟩
  · exact ⟨[y], rfl⟩
theorem addN_get {out : List Nd} {y : Nd} : (addN out y).1.getD (addN out y).2 default = y := by
  unfold addN
  split
  · rename_i h
    rw [List.getD_eq_getElem?_getD, List.getElem?_eq_getElem (List.idxOf_lt_length_of_mem h), List.getElem_idxOf]; rfl
  · rw [List.getD_eq_getElem?_getD, List.getElem?_append_right (Nat.le_refl _), Nat.sub_self]; rfl
theorem addN_nodup {out : List Nd} {y : Nd} (h : out.Nodup) : (addN out y).1.Nodup := by
  unfold addN
  split
  · exact h
  · rw [List.nodup_append]
    refine ⟨h, by simp, ?_⟩
    intro a ha b hb
    simp at hb
    subst hb
    intro e; subst e; exact ‹¬ _› ha
theorem getD_pre {l l' : List Nd} {i : Nat} (h : i < l.length) : (l ++ l').getD i default = l.getD i default := by
  rw [List.getD_eq_getElem?_getD, List.getD_eq_getElem?_getD, List.getElem?_append_left h]
theorem no_tell_self {ts : List Nd} {k : Nat} {s : St} (h : k < s.nos.length) : (tell ts k s).no k = (addN s.out (mapN s (nd ts k))).2 := by
  show (s.nos.set k _).getD k (-1) = _
  rw [List.getD_eq_getElem?_getD, List.getElem?_set_self h]; rfl
theorem no_tell_ne {ts : List Nd} {k j : Nat} {s : St} (h : k ≠ j) : (tell ts k s).no j = s.no j := by
  show (s.nos.set k _).getD j (-1) = s.nos.getD j (-1)
  rw [List.getD_eq_getElem?_getD, List.getD_eq_getElem?_getD, List.getElem?_set_ne h]
theorem mapN_ext {s s' : St} {x : Nd} (h : ∀ a ∈ x.args, s'.no a.toNat = s.no a.toNat) : mapN s' x = mapN s x := by
  unfold mapN
  rw [List.map_congr_left h]
theorem tell_inv {ts : List Nd} {k : Nat} {s : St} (hd : Down ts) (hi : Inv ts s) (hk : k < ts.length) (hu : ¬ s.told k) (ha : ∀ a ∈ (nd ts k).args, s.told a.toNat) :
    Inv ts (tell ts k s) ∧ Ext s (tell ts k s) ∧ (tell ts k s).told k := by
  have hkl : k < s.nos.length := by rw [hi.len]; exact hk
  have hself := no_tell_self (ts := ts) hkl
  have htk : (tell ts k s).told k := by unfold St.told; rw [hself]; omega
  have hext : Ext s (tell ts k s) := ⟨addN_ext, fun j hj => no_tell_ne (fun e => hu (e ▸ hj))⟩
  have hback : ∀ j, j ≠ k → (tell ts k s).told j → s.told j := fun j hj h => by unfold St.told at *; rw [no_tell_ne (fun e => hj e.symm)] at h; exact h
  obtain ⟨l, hl⟩ := hext.out
  have hargs : ∀ j, s.told j → mapN (tell ts k s) (nd ts j) = mapN s (nd ts j) := fun j hj => mapN_ext fun a h => hext.no _ (hi.cls j hj a h)
  refine ⟨⟨by show (s.nos.set k _).length = _; rw [List.length_set]; exact hi.len, ?_, ?_, ?_, addN_nodup hi.nod, ?_, ?_⟩, hext, htk⟩
  · intro j hj
    by_cases e : j = k
    · subst e; rw [hself]; exact Int.ofNat_lt.2 addN_len
    · have h1 := hback j e hj
      rw [hext.no j h1, hl, List.length_append]
      have := hi.rng j h1
      omega
  · intro j hj a haj
    by_cases e : j = k
    · subst e; exact hext.told (ha a haj)
    · exact hext.told (hi.cls j (hback j e hj) a haj)
  · intro j hj
    by_cases e : j = k
    · subst e
      rw [hself, Int.toNat_natCast]
      show (addN _ _).1.getD _ _ = _
      rw [addN_get]
      exact (mapN_ext fun a h => hext.no _ (ha a h)).symm
    · have h1 := hback j e hj
      have h2 := hi.rng j h1
      have h3 : 0 ≤ s.no j := h1
      rw [hext.no j h1, hl, getD_pre (by omega), hi.node j h1, hargs j h1]
  · intro i hlt
    by_cases e : i < s.out.length
    · obtain ⟨j, h1, h2⟩ := hi.src i e
      exact ⟨j, hext.told h1, by rw [hext.no j h1]; exact h2⟩
    · refine ⟨k, htk, ?_⟩
      rw [hself]
      show ((addN s.out (mapN s (nd ts k))).2 : Int) = i
      have hlt' : i < (addN s.out (mapN s (nd ts k))).1.length := hlt
      unfold addN at hlt' ⊢
      split
      · rename_i h; rw [if_pos h] at hlt'; exact absurd hlt' e
      · rename_i h; rw [if_neg h] at hlt'; simp at hlt' ⊢; omega
  · intro i hlt a hai
    by_cases e : i < s.out.length
    · rw [hl, getD_pre e] at hai
      exact hi.low i e a hai
    · have hlt' : i < (addN s.out (mapN s (nd ts k))).1.length := hlt
      have hai' : a ∈ ((addN s.out (mapN s (nd ts k))).1.getD i default).args := hai
      unfold addN at hlt' hai'
      split at hlt'
      · exact absurd hlt' e
      · rename_i h
        rw [if_neg h] at hai'
        simp only [List.length_append, List.length_cons, List.length_nil] at hlt'
        have hi2 : i = s.out.length := by omega
        subst hi2
        rw [List.getD_eq_getElem?_getD, List.getElem?_append_right (Nat.le_refl _), Nat.sub_self] at hai'
        obtain ⟨b, hb, rfl⟩ := List.mem_map.1 (show a ∈ (nd ts k).args.map _ from hai')
        exact ⟨ha b hb, hi.rng _ (ha b hb)⟩
theorem tell_up {ts : List Nd} {k j : Nat} {s : St} (h : k < j) : (tell ts k s).no j = s.no j := no_tell_ne (by omega)
/-- What a walk down from k gives. -/
structure Went (ts : List Nd) (k : Nat) (s s' : St) : Prop where
  inv : Inv ts s'
  ext : Ext s s'
  up : ∀ j, k ≤ j → s'.no j = s.no j
theorem Went.refl {ts : List Nd} {k : Nat} {s : St} (h : Inv ts s) : Went ts k s s := ⟨h, Ext.refl s, fun _ _ => rfl⟩
theorem Went.trans {ts : List Nd} {k : Nat} {a b c : St} (h : Went ts k a b) (h' : Went ts k b c) : Went ts k a c := ⟨h'.inv, h.ext.trans h'.ext, fun j hj => by rw [h'.up j hj, h.up j hj]⟩
theorem told_of_no {s s' : St} {k : Nat} (h : s'.no k = s.no k) : s'.told k ↔ s.told k := by unfold St.told; rw [h]
theorem visit_inv {ts : List Nd} (hd : Down ts) : ∀ (f k : Nat) (s : St), k < f → k < ts.length → Inv ts s → Went ts (k + 1) s (visit ts f k s) ∧ (visit ts f k s).told k
  | 0, k, s, h, _, _ => absurd h (by omega)
  | f + 1, k, s, hf, hk, hi => by
    unfold visit
    by_cases ht : s.told k
    · rw [if_pos ht]; exact ⟨Went.refl hi, ht⟩
    · rw [if_neg ht]
      have key : ∀ (l : List Int) (s : St), (∀ a ∈ l, 0 ≤ a ∧ a < k) → Inv ts s →
          Went ts k s (l.foldl (fun s a => visit ts f a.toNat s) s) ∧ (∀ a ∈ l, (l.foldl (fun s a => visit ts f a.toNat s) s).told a.toNat) := by
        intro l
        induction l with
        | nil => intro s _ hi; exact ⟨Went.refl hi, fun a h => by cases h⟩
        | cons a l ih =>
          intro s hr hi
          have ha := hr a (List.mem_cons_self ..)
          obtain ⟨w1, t1⟩ := visit_inv hd f a.toNat s (by omega) (by omega) hi
          have w1' : Went ts k s (visit ts f a.toNat s) := ⟨w1.inv, w1.ext, fun j hj => w1.up j (by omega)⟩
          rw [List.foldl_cons]
          obtain ⟨w2, t2⟩ := ih _ (fun b hb => hr b (List.mem_cons_of_mem _ hb)) w1.inv
          refine ⟨w1'.trans w2, fun b hb => ?_⟩
          rcases List.mem_cons.1 hb with rfl | hb
          · exact w2.ext.told t1
          · exact t2 b hb
      obtain ⟨w1, t1⟩ := key _ s (hd k hk) hi
      have hu : ¬ ((nd ts k).args.foldl (fun s a => visit ts f a.toNat s) s).told k := by rw [told_of_no (w1.up k (Nat.le_refl _))]; exact ht
      obtain ⟨i2, e2, t2⟩ := tell_inv hd w1.inv hk hu t1
      exact ⟨⟨i2, w1.ext.trans e2, fun j hj => by rw [tell_up (by omega), w1.up j (by omega)]⟩, t2⟩
/-- More fuel makes no difference. -/
theorem visit_fuel {ts : List Nd} (hd : Down ts) : ∀ (f k : Nat) (s : St), k < f → k < ts.length → visit ts f k s = vis ts k s
  | 0, k, s, h, _ => absurd h (by omega)
  | f + 1, k, s, hf, hk => by
    unfold vis
    unfold visit
    by_cases ht : s.told k
    · rw [if_pos ht, if_pos ht]
    · rw [if_neg ht, if_neg ht]
      have key : ∀ (l : List Int) (s : St), (∀ a ∈ l, 0 ≤ a ∧ a < k) → l.foldl (fun s a => visit ts f a.toNat s) s = l.foldl (fun s a => visit ts k a.toNat s) s := by
        intro l
        induction l with
        | nil => intro s _; rfl
        | cons a l ih =>
          intro s hr
          have ha := hr a (List.mem_cons_self ..)
          rw [List.foldl_cons, List.foldl_cons, visit_fuel hd f a.toNat s (by omega) (by omega), visit_fuel hd k a.toNat s (by omega) (by omega)]
          exact ih _ (fun b hb => hr b (List.mem_cons_of_mem _ hb))
      rw [key _ s (hd k hk)]
theorem vis_eq {ts : List Nd} (hd : Down ts) {k : Nat} (hk : k < ts.length) (s : St) : vis ts k s = if s.told k then s else tell ts k ((nd ts k).args.foldl (fun s a => vis ts a.toNat s) s) := by
  unfold vis
  conv => lhs; unfold visit
  have key : ∀ (l : List Int) (s : St), (∀ a ∈ l, 0 ≤ a ∧ a < k) → l.foldl (fun s a => visit ts k a.toNat s) s = l.foldl (fun s a => visit ts (a.toNat + 1) a.toNat s) s := by
    intro l
    induction l with
    | nil => intro s _; rfl
    | cons a l ih =>
      intro s hr
      have ha := hr a (List.mem_cons_self ..)
      rw [List.foldl_cons, List.foldl_cons, visit_fuel hd k a.toNat s (by omega) (by omega)]
      exact ih _ (fun b hb => hr b (List.mem_cons_of_mem _ hb))
  rw [key _ s (hd k hk)]
theorem vis_inv {ts : List Nd} (hd : Down ts) {k : Nat} (hk : k < ts.length) {s : St} (hi : Inv ts s) : Went ts (k + 1) s (vis ts k s) ∧ (vis ts k s).told k := visit_inv hd (k + 1) k s (by omega) hk hi

/-! ### the walk with a stack -/
/-- The first Arg that is not yet told. -/
def missing (s : St) (l : List Int) : Option Int := l.find? fun a => decide (s.no a.toNat < 0)
def stp (ts : List Nd) : List Nat × St → List Nat × St
  | ([], s) => ([], s)
  | (n :: rest, s) => match missing s (nd ts n).args with
    | some a => (a.toNat :: n :: rest, s)
    | none => (rest, tell ts n s)
def runS (ts : List Nd) : Nat → List Nat × St → List Nat × St
  | 0, c => c
  | t + 1, c => runS ts t (stp ts c)
theorem runS_add (ts : List Nd) : ∀ (a b : Nat) (c : List Nat × St), runS ts (a + b) c = runS ts b (runS ts a c)
  | 0, b, c => by rw [Nat.zero_add]; rfl
  | a + 1, b, c => by rw [show a + 1 + b = (a + b) + 1 by omega]; exact runS_add ts a b (stp ts c)
theorem stp_some {ts : List Nd} {n : Nat} {rest : List Nat} {s : St} {a : Int} (h : missing s (nd ts n).args = some a) : stp ts (n :: rest, s) = (a.toNat :: n :: rest, s) := by simp only [stp, h]
theorem stp_none {ts : List Nd} {n : Nat} {rest : List Nat} {s : St} (h : missing s (nd ts n).args = none) : stp ts (n :: rest, s) = (rest, tell ts n s) := by simp only [stp, h]
theorem runS_one (ts : List Nd) (c : List Nat × St) : runS ts 1 c = stp ts c := rfl
theorem missing_none {s : St} {l : List Int} : (∀ a ∈ l, s.told a.toNat) → missing s l = none := by
  intro h
  unfold missing
  rw [List.find?_eq_none]
  intro a ha
  have := h a ha
  unfold St.told at this
  simp; omega
theorem missing_first {s : St} {p q : List Int} {a : Int} (hp : ∀ b ∈ p, s.told b.toNat) (ha : ¬ s.told a.toNat) : missing s (p ++ a :: q) = some a := by
  unfold missing
  rw [List.find?_append, show List.find? (fun a => decide (s.no a.toNat < 0)) p = none from missing_none hp]
  unfold St.told at ha
  rw [List.find?_cons_of_pos (by simp; omega)]; rfl
theorem run_vis {ts : List Nd} (hd : Down ts) : ∀ (k : Nat) (s : St) (rest : List Nat), k < ts.length → Inv ts s → ¬ s.told k → ∃ T, runS ts T (k :: rest, s) = (rest, vis ts k s) := by
  intro k
  induction k using Nat.strongRecOn with
  | _ k ih =>
    intro s rest hk hi hu
    have key : ∀ (q p : List Int) (s : St), p ++ q = (nd ts k).args → (∀ b ∈ p, s.told b.toNat) → Inv ts s → ∃ T, runS ts T (k :: rest, s) = (k :: rest, q.foldl (fun s a => vis ts a.toNat s) s) ∧ ∀ b ∈ (nd ts k).args, (q.foldl (fun s a => vis ts a.toNat s) s).told b.toNat := by
      intro q
      induction q with
      | nil => intro p s hpq hp hi; exact ⟨0, rfl, by rw [← hpq, List.append_nil]; exact hp⟩
      | cons a q ihq =>
        intro p s hpq hp hi
        have hak := hd k hk a (by rw [← hpq]; simp)
        obtain ⟨w1, t1⟩ := vis_inv hd (show a.toNat < ts.length by omega) hi
        have hp' : ∀ b ∈ p ++ [a], (vis ts a.toNat s).told b.toNat := by
          intro b hb
          rcases List.mem_append.1 hb with hb | hb
          · exact w1.ext.told (hp b hb)
          · simp at hb; subst hb; exact t1
        obtain ⟨T2, r2, t2⟩ := ihq (p ++ [a]) (vis ts a.toNat s) (by rw [List.append_assoc]; exact hpq) hp' w1.inv
        by_cases ha : s.told a.toNat
        · have e : vis ts a.toNat s = s := by rw [vis_eq hd (by omega), if_pos ha]
          rw [e] at r2 t2
          refine ⟨T2, ?_, ?_⟩
          · rw [r2, List.foldl_cons, e]
          · rw [List.foldl_cons, e]; exact t2
        · obtain ⟨T1, r1⟩ := ih a.toNat (by omega) s (k :: rest) (by omega) hi ha
          refine ⟨1 + (T1 + T2), ?_, ?_⟩
          · rw [runS_add]
            rw [runS_one, stp_some (by rw [← hpq]; exact missing_first hp ha), runS_add, r1, r2, List.foldl_cons]
          · rw [List.foldl_cons]; exact t2
    obtain ⟨T, r, t⟩ := key _ [] s rfl (fun b hb => by cases hb) hi
    refine ⟨T + 1, ?_⟩
    rw [runS_add, r, runS_one, stp_none (missing_none t), vis_eq hd hk, if_neg hu]
/-- The walk with a stack comes to its end, and till then the stack holds something. -/
theorem runS_end {ts : List Nd} {c : List Nat × St} {s' : St} : ∀ (T : Nat), runS ts T c = ([], s') → ∃ T0, T0 ≤ T ∧ runS ts T0 c = ([], s') ∧ ∀ t, t < T0 → (runS ts t c).1 ≠ []
  | 0, h => ⟨0, Nat.le_refl _, h, fun t ht => absurd ht (by omega)⟩
  | T + 1, h => by
    by_cases e : (runS ts T c).1 = []
    · have h2 : runS ts (T + 1) c = runS ts T c := by
        rw [runS_add, runS_one]
        generalize runS ts T c = d at *
        obtain ⟨d1, d2⟩ := d
        simp only at e
        subst e
        rfl
      obtain ⟨T0, h3, h4, h5⟩ := runS_end T (by rw [← h2]; exact h)
      exact ⟨T0, by omega, h4, h5⟩
    · by_cases a : ∃ t, t < T + 1 ∧ (runS ts t c).1 = []
      · obtain ⟨t, ht, h1⟩ := a
        have : ∀ d, runS ts (t + d) c = runS ts t c := by
          intro d
          induction d with
          | zero => rfl
          | succ d ih =>
            rw [← Nat.add_assoc, runS_add, runS_one, ih]
            generalize runS ts t c = x at *
            obtain ⟨x1, x2⟩ := x
            simp only at h1
            subst h1
            rfl
        have h6 := this (T - t)
        rw [show t + (T - t) = T by omega] at h6
        rw [h6] at e
        exact absurd h1 e
      · exact ⟨T + 1, Nat.le_refl _, h, fun t ht e2 => a ⟨t, ht, e2⟩⟩
def st0 (ts : List Nd) : St := ⟨[], List.replicate ts.length (-1)⟩
theorem st0_told (ts : List Nd) (k : Nat) : ¬ (st0 ts).told k := by
  unfold St.told St.no st0
  rw [List.getD_eq_getElem?_getD, List.getElem?_replicate]
  split <;> simp
theorem st0_inv (ts : List Nd) : Inv ts (st0 ts) :=
  ⟨by simp [st0], fun k h => absurd h (st0_told ts k), fun k h => absurd h (st0_told ts k), fun k h => absurd h (st0_told ts k), by simp [st0], (fun i h => by simp [st0] at h), fun i h => by simp [st0] at h⟩
/-- The nodes that lead to the node k, without equal ones. -/
def shr (ts : List Nd) (k : Nat) : List Nd := (vis ts k (st0 ts)).out
/-- The root has the greatest number of all that its walk has told. -/
theorem vis_top {ts : List Nd} (hd : Down ts) : ∀ (k : Nat) (s : St), k < ts.length → Inv ts s → ∀ j, (vis ts k s).told j → s.told j ∨ (vis ts k s).no j ≤ (vis ts k s).no k := by
  intro k
  induction k using Nat.strongRecOn with
  | _ k ih =>
    intro s hk hi j hj
    have hw := vis_inv hd hk hi
    by_cases ht : s.told k
    · rw [vis_eq hd hk, if_pos ht] at hj; exact Or.inl hj
    have key : ∀ (l : List Int) (s : St), (∀ a ∈ l, 0 ≤ a ∧ a < k) → Inv ts s → Inv ts (l.foldl (fun s a => vis ts a.toNat s) s) ∧ Ext s (l.foldl (fun s a => vis ts a.toNat s) s) ∧ ∀ j, (l.foldl (fun s a => vis ts a.toNat s) s).told j → s.told j ∨ ∃ a ∈ l, (l.foldl (fun s a => vis ts a.toNat s) s).told a.toNat ∧ (l.foldl (fun s a => vis ts a.toNat s) s).no j ≤ (l.foldl (fun s a => vis ts a.toNat s) s).no a.toNat := by
      intro l
      induction l with
      | nil => intro s _ hi; exact ⟨hi, Ext.refl s, fun j h => Or.inl h⟩
      | cons a l ihl =>
        intro s hr hi
        have ha := hr a (List.mem_cons_self ..)
        obtain ⟨w1, t1⟩ := vis_inv hd (show a.toNat < ts.length by omega) hi
        obtain ⟨i2, e2, h2⟩ := ihl (vis ts a.toNat s) (fun b hb => hr b (List.mem_cons_of_mem _ hb)) w1.inv
        rw [List.foldl_cons]
        refine ⟨i2, w1.ext.trans e2, fun j hj => ?_⟩
        rcases h2 j hj with h | ⟨b, hb, h3, h4⟩
        · rcases ih a.toNat (by omega) s (by omega) hi j h with h5 | h5
          · exact Or.inl h5
          · refine Or.inr ⟨a, List.mem_cons_self .., e2.told t1, ?_⟩
            rw [e2.no j h, e2.no _ t1]; exact h5
        · exact Or.inr ⟨b, List.mem_cons_of_mem _ hb, h3, h4⟩
    obtain ⟨i1, e1, h1⟩ := key _ s (hd k hk) hi
    by_cases e : j = k
    · subst e; exact Or.inr (Int.le_refl _)
    have hv : vis ts k s = tell ts k ((nd ts k).args.foldl (fun s a => vis ts a.toNat s) s) := by rw [vis_eq hd hk, if_neg ht]
    have hno : ∀ i, i ≠ k → (vis ts k s).no i = ((nd ts k).args.foldl (fun s a => vis ts a.toNat s) s).no i := fun i hi => by rw [hv]; exact no_tell_ne (fun e => hi e.symm)
    have hj1 : ((nd ts k).args.foldl (fun s a => vis ts a.toNat s) s).told j := by unfold St.told at *; rw [hno j e] at hj; exact hj
    rcases h1 j hj1 with h | ⟨a, ha, h3, h4⟩
    · exact Or.inl h
    · right
      have hak := hd k hk a ha
      have hlow := hw.1.inv.low ((vis ts k s).no k).toNat (by have := hw.1.inv.rng k hw.2; have h0 : 0 ≤ (vis ts k s).no k := hw.2; omega) ((vis ts k s).no a.toNat) (by
        rw [hw.1.inv.node k hw.2]
        exact List.mem_map.2 ⟨a, ha, rfl⟩)
      have h0 : 0 ≤ (vis ts k s).no k := hw.2
      rw [hno a.toNat (by omega)] at hlow
      rw [hno j e]
      omega
theorem shr_root {ts : List Nd} (hd : Down ts) {k : Nat} (hk : k < ts.length) : (vis ts k (st0 ts)).no k = ((shr ts k).length : Int) - 1 ∧ 1 ≤ (shr ts k).length := by
  obtain ⟨w, t⟩ := vis_inv hd hk (st0_inv ts)
  have h1 := w.inv.rng k t
  have h0 : 0 ≤ (vis ts k (st0 ts)).no k := t
  have hlen : (shr ts k).length = (vis ts k (st0 ts)).out.length := rfl
  rw [hlen]
  refine ⟨?_, by omega⟩
  obtain ⟨j, hj, hn⟩ := w.inv.src ((vis ts k (st0 ts)).out.length - 1) (by omega)
  rcases vis_top hd k (st0 ts) hk (st0_inv ts) j hj with h | h
  · exact absurd h (st0_told ts j)
  · omega
theorem shr_down {ts : List Nd} (hd : Down ts) {k : Nat} (hk : k < ts.length) : Down (shr ts k) := fun i hi a ha => (vis_inv hd hk (st0_inv ts)).1.inv.low i hi a ha
theorem shr_run {ts : List Nd} (hd : Down ts) {k : Nat} (hk : k < ts.length) : ∃ T s', runS ts T ([k], st0 ts) = ([], s') ∧ s'.out = shr ts k ∧ ∀ t, t < T → (runS ts t ([k], st0 ts)).1 ≠ [] := by
  obtain ⟨T, h⟩ := run_vis hd k (st0 ts) [] hk (st0_inv ts) (st0_told ts k)
  obtain ⟨T0, _, h2, h3⟩ := runS_end T h
  exact ⟨T0, _, h2, rfl, h3⟩

/-! ### shared again it is the same -/
/-- The state in which the first m nodes of o have been told, each as itself. -/
def csq (o : List Nd) (m : Nat) : St := ⟨o.take m, (List.range o.length).map fun i => if i < m then (i : Int) else -1⟩
theorem csq_no {o : List Nd} {m i : Nat} (hi : i < o.length) : (csq o m).no i = if i < m then (i : Int) else -1 := by
  show ((List.range o.length).map _).getD i (-1) = _
  rw [List.getD_eq_getElem?_getD, List.getElem?_map, List.getElem?_range hi]; rfl
theorem csq_told {o : List Nd} {m i : Nat} (hi : i < o.length) : (csq o m).told i ↔ i < m := by
  unfold St.told
  rw [csq_no hi]
  split <;> omega
theorem csq_zero (o : List Nd) : csq o 0 = st0 o := by
  unfold csq st0
  congr 1
  apply List.ext_getElem
  · simp
  · intro i h1 h2
    simp
theorem Ext.len {s s' : St} (h : Ext s s') : s.out.length ≤ s'.out.length ∧ s.out = s'.out.take s.out.length := by
  obtain ⟨l, hl⟩ := h.out
  rw [hl]
  simp
theorem sim {ts : List Nd} (hd : Down ts) {F : St} (hF : Inv ts F) : ∀ (k : Nat) (s : St), k < ts.length → Inv ts s → Ext (vis ts k s) F → vis F.out (F.no k).toNat (csq F.out s.out.length) = csq F.out (vis ts k s).out.length := by
  have hdF : Down F.out := fun i hi a ha => hF.low i hi a ha
  intro k
  induction k using Nat.strongRecOn with
  | _ k ih =>
    intro s hk hi hE
    have hw := vis_inv hd hk hi
    have hkF : F.told k := hE.told hw.2
    have hkn : 0 ≤ F.no k := hkF
    have hkr := hF.rng k hkF
    have hglt : (F.no k).toNat < F.out.length := by omega
    by_cases ht : s.told k
    · have e : vis ts k s = s := by rw [vis_eq hd hk, if_pos ht]
      rw [e] at hE ⊢
      have h1 := hi.rng k ht
      have h2 := hE.no k ht
      rw [vis_eq hdF hglt, if_pos ((csq_told hglt).2 (by omega))]
    have hv : vis ts k s = tell ts k ((nd ts k).args.foldl (fun s a => vis ts a.toNat s) s) := by rw [vis_eq hd hk, if_neg ht]
    -- the Args, one behind the other
    have key : ∀ (l : List Int) (s : St), (∀ a ∈ l, 0 ≤ a ∧ a < k) → Inv ts s → Ext (l.foldl (fun s a => vis ts a.toNat s) s) F →
        Inv ts (l.foldl (fun s a => vis ts a.toNat s) s) ∧ Ext s (l.foldl (fun s a => vis ts a.toNat s) s) ∧ (∀ a ∈ l, (l.foldl (fun s a => vis ts a.toNat s) s).told a.toNat) ∧ (∀ j, k ≤ j → (l.foldl (fun s a => vis ts a.toNat s) s).no j = s.no j) ∧
        (l.map fun a => F.no a.toNat).foldl (fun s b => vis F.out b.toNat s) (csq F.out s.out.length) = csq F.out (l.foldl (fun s a => vis ts a.toNat s) s).out.length := by
      intro l
      induction l with
      | nil => intro s _ hi _; exact ⟨hi, Ext.refl s, (fun a h => by cases h), (fun _ _ => rfl), rfl⟩
      | cons a l ihl =>
        intro s hr hi hE
        have ha := hr a (List.mem_cons_self ..)
        have hal : a.toNat < ts.length := by omega
        obtain ⟨w1, t1⟩ := vis_inv hd hal hi
        rw [List.foldl_cons] at hE ⊢
        have e2 : Ext (vis ts a.toNat s) (l.foldl (fun s a => vis ts a.toNat s) (vis ts a.toNat s)) := by
          have : ∀ (l : List Int) (s : St), (∀ a ∈ l, 0 ≤ a ∧ a < k) → Inv ts s → Ext s (l.foldl (fun s a => vis ts a.toNat s) s) := by
            intro l
            induction l with
            | nil => intro s _ _; exact Ext.refl s
            | cons a l ihl =>
              intro s hr hi
              have ha := hr a (List.mem_cons_self ..)
              obtain ⟨w1, t1⟩ := vis_inv hd (show a.toNat < ts.length by omega) hi
              rw [List.foldl_cons]
              exact w1.ext.trans (ihl _ (fun b hb => hr b (List.mem_cons_of_mem _ hb)) w1.inv)
          exact this l _ (fun b hb => hr b (List.mem_cons_of_mem _ hb)) w1.inv
        obtain ⟨i3, e3, t3, u3, r3⟩ := ihl (vis ts a.toNat s) (fun b hb => hr b (List.mem_cons_of_mem _ hb)) w1.inv hE
        refine ⟨i3, w1.ext.trans e3, ?_, ?_, ?_⟩
        · intro b hb
          rcases List.mem_cons.1 hb with rfl | hb
          · exact e3.told t1
          · exact t3 b hb
        · intro j hj; rw [u3 j hj, w1.up j (by omega)]
        · rw [List.map_cons, List.foldl_cons, ih a.toNat (by omega) s hal hi (e2.trans hE), r3]
    have hEf : Ext ((nd ts k).args.foldl (fun s a => vis ts a.toNat s) s) (vis ts k s) := by
      have h0 : ∀ (l : List Int) (s : St), (∀ a ∈ l, 0 ≤ a ∧ a < k) → Inv ts s → Inv ts (l.foldl (fun s a => vis ts a.toNat s) s) ∧ (∀ a ∈ l, (l.foldl (fun s a => vis ts a.toNat s) s).told a.toNat) ∧ Ext s (l.foldl (fun s a => vis ts a.toNat s) s) ∧ (∀ j, k ≤ j → (l.foldl (fun s a => vis ts a.toNat s) s).no j = s.no j) := by
        intro l
        induction l with
        | nil => intro s _ hi; exact ⟨hi, (fun a h => by cases h), Ext.refl s, fun _ _ => rfl⟩
        | cons a l ihl =>
          intro s hr hi
          have ha := hr a (List.mem_cons_self ..)
          obtain ⟨w1, t1⟩ := vis_inv hd (show a.toNat < ts.length by omega) hi
          obtain ⟨i2, t2, e2, u2⟩ := ihl (vis ts a.toNat s) (fun b hb => hr b (List.mem_cons_of_mem _ hb)) w1.inv
          rw [List.foldl_cons]
          refine ⟨i2, fun b hb => ?_, w1.ext.trans e2, fun j hj => by rw [u2 j hj, w1.up j (by omega)]⟩
          rcases List.mem_cons.1 hb with rfl | hb
          · exact e2.told t1
          · exact t2 b hb
      obtain ⟨i2, t2, e2, u2⟩ := h0 _ s (hd k hk) hi
      rw [hv]
      exact (tell_inv hd i2 hk (by rw [told_of_no (u2 k (Nat.le_refl _))]; exact ht) t2).2.1
    obtain ⟨i1, e1, t1, u1, r1⟩ := key _ s (hd k hk) hi (hEf.trans hE)
    have hE1 := hEf.trans hE
    generalize hs1 : (nd ts k).args.foldl (fun s a => vis ts a.toNat s) s = s1 at *
    have hnode : nd F.out (F.no k).toNat = mapN F (nd ts k) := hF.node k hkF
    have hmap : mapN F (nd ts k) = mapN s1 (nd ts k) := mapN_ext fun a ha => hE1.no _ (t1 a ha)
    have hargs : (nd F.out (F.no k).toNat).args = (nd ts k).args.map fun a => F.no a.toNat := by rw [hnode]; rfl
    have hlen1 := hE1.len
    -- where the node stands
    have hidx : s1.told k ↔ False := by
      rw [told_of_no (u1 k (Nat.le_refl _))]; exact ⟨ht, False.elim⟩
    have hkno : F.no k = ((addN s1.out (mapN s1 (nd ts k))).2 : Int) := by
      have hkl : k < s1.nos.length := by rw [i1.len]; exact hk
      have h1 := hE.no k hw.2
      rw [hv, no_tell_self hkl] at h1
      exact h1
    have hout : (vis ts k s).out = (addN s1.out (mapN s1 (nd ts k))).1 := by rw [hv]; rfl
    -- is it told already?
    by_cases hm : (F.no k).toNat < s.out.length
    · rw [vis_eq hdF hglt, if_pos ((csq_told hglt).2 hm)]
      have hle := e1.len.1
      have hin : mapN s1 (nd ts k) ∈ s1.out := by
        rw [← hmap, ← hnode, hlen1.2]
        unfold nd
        have h3 : (F.no k).toNat < (F.out.take s1.out.length).length := by rw [List.length_take]; omega
        have h4 : (F.out.take s1.out.length)[(F.no k).toNat] = F.out.getD (F.no k).toNat default := by
          rw [List.getElem_take, List.getD_eq_getElem?_getD, List.getElem?_eq_getElem hglt]; rfl
        rw [← h4]
        exact List.getElem_mem h3
      have hsame : (vis ts k s).out = s1.out := by rw [hout]; unfold addN; rw [if_pos hin]
      rw [hsame]
      -- the Args told nothing new
      have hcs : ∀ (l : List Int), (∀ b ∈ l, 0 ≤ b ∧ b < (s.out.length : Int)) → l.foldl (fun s b => vis F.out b.toNat s) (csq F.out s.out.length) = csq F.out s.out.length := by
        intro l
        induction l with
        | nil => intro _; rfl
        | cons b l ihl =>
          intro h
          have hb := h b (List.mem_cons_self ..)
          have h5 := (hE1.len.1)
          have hbl : b.toNat < F.out.length := by omega
          rw [List.foldl_cons, vis_eq hdF hbl, if_pos ((csq_told hbl).2 (by omega))]
          exact ihl fun c hc => h c (List.mem_cons_of_mem _ hc)
      have h6 := hcs ((nd ts k).args.map fun a => F.no a.toNat) (fun b hb => by
        have := hF.low (F.no k).toNat hglt b (by show b ∈ (nd F.out (F.no k).toNat).args; rw [hargs]; exact hb)
        omega)
      rw [h6] at r1
      exact r1
    · rw [vis_eq hdF hglt, if_neg (fun h => hm ((csq_told hglt).1 h)), hargs, r1]
      -- the node itself
      have hself : mapN (csq F.out s1.out.length) (nd F.out (F.no k).toNat) = mapN s1 (nd ts k) := by
        rw [hnode, ← hmap]
        unfold mapN
        simp only [Nd.mk.injEq, true_and, and_true, List.map_map]
        apply List.map_congr_left
        intro a ha
        have h7 := t1 a ha
        have h8 := i1.rng _ h7
        have h9 : 0 ≤ s1.no a.toNat := h7
        have h10 := hE1.no _ h7
        show (csq F.out s1.out.length).no (F.no a.toNat).toNat = F.no a.toNat
        rw [h10, csq_no (by omega), if_pos (by omega)]
        omega
      have htl : (F.out.take s1.out.length) = s1.out := hlen1.2.symm
      unfold tell
      rw [hself]
      show St.mk (addN (F.out.take s1.out.length) (mapN s1 (nd ts k))).1 ((csq F.out s1.out.length).nos.set (F.no k).toNat (addN (F.out.take s1.out.length) (mapN s1 (nd ts k))).2) = _
      rw [htl, ← hkno, hout]
      by_cases hin : mapN s1 (nd ts k) ∈ s1.out
      · have ha : (addN s1.out (mapN s1 (nd ts k))).1 = s1.out := by unfold addN; rw [if_pos hin]
        rw [ha]
        have hlt2 : (F.no k).toNat < s1.out.length := by
          have := @addN_len s1.out (mapN s1 (nd ts k))
          rw [ha] at this
          omega
        unfold csq
        rw [htl]
        congr 1
        apply List.ext_getElem (by simp)
        intro i h1 h2
        rw [List.getElem_set]
        split
        · rename_i e; subst e; simp; rw [if_pos hlt2]; omega
        · rfl
      · have ha : (addN s1.out (mapN s1 (nd ts k))) = (s1.out ++ [mapN s1 (nd ts k)], s1.out.length) := by unfold addN; rw [if_neg hin]
        rw [ha] at hkno ⊢
        have hkeq : (F.no k).toNat = s1.out.length := by rw [hkno]; simp
        unfold csq
        congr 1
        · rw [List.length_append, List.length_singleton]
          show _ = F.out.take (s1.out.length + 1)
          have hlt3 : s1.out.length < F.out.length := by omega
          rw [List.take_succ_eq_append_getElem hlt3, htl]
          congr 2
          rw [← hmap, ← hnode]
          unfold nd
          rw [hkeq, List.getD_eq_getElem?_getD, List.getElem?_eq_getElem hlt3]; rfl
        · rw [hkeq]
          apply List.ext_getElem (by simp)
          intro i h1 h2
          rw [List.getElem_set]
          simp only [List.length_append, List.length_singleton, List.getElem_map, List.getElem_range]
          split
          · rename_i e; subst e; rw [if_pos (by omega)]; omega
          · rename_i e
            by_cases h3 : i < s1.out.length
            · rw [if_pos h3, if_pos (by omega)]
            · rw [if_neg h3, if_neg (by omega)]
/-- Shared again it is the same. -/
theorem shr_again {ts : List Nd} (hd : Down ts) {k : Nat} (hk : k < ts.length) : shr (shr ts k) ((shr ts k).length - 1) = shr ts k := by
  obtain ⟨w, t⟩ := vis_inv hd hk (st0_inv ts)
  have h := sim hd w.inv k (st0 ts) hk (st0_inv ts) (Ext.refl _)
  obtain ⟨r1, r2⟩ := shr_root hd hk
  have hz : (st0 ts).out.length = 0 := rfl
  rw [hz, csq_zero, r1] at h
  have e : (((shr ts k).length : Int) - 1).toNat = (shr ts k).length - 1 := by omega
  rw [e] at h
  have h2 := congrArg St.out h
  show (vis (shr ts k) ((shr ts k).length - 1) (st0 (shr ts k))).out = shr ts k
  exact h2.trans (List.take_length)
end Go.Proofs.Ythopdfikikdcbaa
