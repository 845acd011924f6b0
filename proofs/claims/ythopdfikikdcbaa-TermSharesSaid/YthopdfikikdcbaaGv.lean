/- The walk down a term with any step: what it makes of a state and of the numbers told; plain. -/
import Derived.Test.YthopdfikikdcbaaShp
namespace Go.Proofs.Ythopdfikikdcbaa
set_option linter.unusedVariables false
set_option linter.unusedSimpArgs false
section
variable {σ : Type}
def gno (l : List Int) (k : Nat) : Int := l.getD k (-1)
/-- The Args, one after another: the state behind them and their numbers. -/
def gargs (g : Nat → σ × List Int → σ × List Int) : List Int → σ × List Int → (σ × List Int) × List Int
  | [], c => (c, [])
  | a :: l, c => ((gargs g l (g a.toNat c)).1, gno (g a.toNat c).2 a.toNat :: (gargs g l (g a.toNat c)).2)
/-- The node k with other Args. -/
def gn (ts : List Nd) (k : Nat) (l : List Int) : Nd := ⟨(nd ts k).op, (nd ts k).width, (nd ts k).flags, l, (nd ts k).imm⟩
def gput (step : σ → Nd → σ × Int) (ts : List Nd) (k : Nat) (r : (σ × List Int) × List Int) : σ × List Int :=
  ((step r.1.1 (gn ts k r.2)).1, r.1.2.set k (step r.1.1 (gn ts k r.2)).2)
def gvis (step : σ → Nd → σ × Int) (ts : List Nd) : Nat → Nat → σ × List Int → σ × List Int
  | 0, _, c => c
  | f + 1, k, c => if 0 ≤ gno c.2 k then c else gput step ts k (gargs (gvis step ts f) (nd ts k).args c)
theorem gargs_snoc (g : Nat → σ × List Int → σ × List Int) (a : Int) : ∀ (l : List Int) (c : σ × List Int),
    gargs g (l ++ [a]) c = (g a.toNat (gargs g l c).1, (gargs g l c).2 ++ [gno (g a.toNat (gargs g l c).1).2 a.toNat])
  | [], c => rfl
  | b :: l, c => by
    show ((gargs g (l ++ [a]) (g b.toNat c)).1, gno (g b.toNat c).2 b.toNat :: (gargs g (l ++ [a]) (g b.toNat c)).2) = _
    rw [gargs_snoc g a l]; rfl
theorem gargs_take (g : Nat → σ × List Int → σ × List Int) (l : List Int) (c : σ × List Int) (j : Nat) (h : j < l.length) :
    gargs g (l.take (j + 1)) c = (g (l.getD j 0).toNat (gargs g (l.take j) c).1, (gargs g (l.take j) c).2 ++ [gno (g (l.getD j 0).toNat (gargs g (l.take j) c).1).2 (l.getD j 0).toNat]) := by
  have e : l.take (j + 1) = l.take j ++ [l.getD j 0] := by
    rw [List.take_succ_eq_append_getElem h, List.getD_eq_getElem?_getD, List.getElem?_eq_getElem h]; rfl
  rw [e, gargs_snoc]
theorem gargs_len (g : Nat → σ × List Int → σ × List Int) : ∀ (l : List Int) (c : σ × List Int), (gargs g l c).2.length = l.length
  | [], c => rfl
  | a :: l, c => by
    show (gno (g a.toNat c).2 a.toNat :: (gargs g l (g a.toNat c)).2).length = _
    rw [List.length_cons, gargs_len g l, List.length_cons]
theorem gno_set_self {l : List Int} {k : Nat} {x : Int} (h : k < l.length) : gno (l.set k x) k = x := by
  unfold gno; rw [List.getD_eq_getElem?_getD, List.getElem?_set_self h]; rfl
theorem gno_set_ne {l : List Int} {k j : Nat} {x : Int} (h : k ≠ j) : gno (l.set k x) j = gno l j := by
  unfold gno; rw [List.getD_eq_getElem?_getD, List.getD_eq_getElem?_getD, List.getElem?_set_ne h]
/-- The node k as it is handed to the step. -/
def gnd (ts : List Nd) (k : Nat) (nos : List Int) : Nd := gn ts k ((nd ts k).args.map fun a => gno nos a.toNat)
/-- What holds of the state and the numbers is kept by the step. -/
structure GJ (step : σ → Nd → σ × Int) (ts : List Nd) (J : σ → List Int → Prop) : Prop where
  len : ∀ {s : σ} {nos : List Int}, J s nos → nos.length = ts.length
  step : ∀ {s : σ} {nos : List Int} {k : Nat}, J s nos → k < ts.length → gno nos k < 0 → (∀ a ∈ (nd ts k).args, 0 ≤ gno nos a.toNat) →
    J (step s (gnd ts k nos)).1 (nos.set k (step s (gnd ts k nos)).2) ∧ 0 ≤ (step s (gnd ts k nos)).2
structure GW (J : σ → List Int → Prop) (m : Nat) (c c' : σ × List Int) : Prop where
  j : J c'.1 c'.2
  keep : ∀ i, 0 ≤ gno c.2 i → gno c'.2 i = gno c.2 i
  up : ∀ i, m ≤ i → gno c'.2 i = gno c.2 i
variable {step : σ → Nd → σ × Int} {ts : List Nd} {J : σ → List Int → Prop}
theorem GW.refl {m : Nat} {c : σ × List Int} (h : J c.1 c.2) : GW J m c c := ⟨h, fun _ _ => rfl, fun _ _ => rfl⟩
theorem GW.trans {m : Nat} {a b c : σ × List Int} (h : GW J m a b) (h' : GW J m b c) : GW J m a c :=
  ⟨h'.j, fun i hi => by rw [h'.keep i (by rw [h.keep i hi]; exact hi), h.keep i hi], fun i hi => by rw [h'.up i hi, h.up i hi]⟩
theorem GW.mono {m n : Nat} {a b : σ × List Int} (h : GW J m a b) (hm : m ≤ n) : GW J n a b := ⟨h.j, h.keep, fun i hi => h.up i (by omega)⟩
theorem gargs_ok {g : Nat → σ × List Int → σ × List Int} {m : Nat} (hg : ∀ a c, a < m → J c.1 c.2 → GW J (a + 1) c (g a c) ∧ 0 ≤ gno (g a c).2 a) :
    ∀ (l : List Int) (c : σ × List Int), (∀ a ∈ l, 0 ≤ a ∧ a < (m : Int)) → J c.1 c.2 →
    GW J m c (gargs g l c).1 ∧ (gargs g l c).2 = (l.map fun a => gno (gargs g l c).1.2 a.toNat) ∧ ∀ a ∈ l, 0 ≤ gno (gargs g l c).1.2 a.toNat
  | [], c, _, hj => ⟨GW.refl hj, rfl, fun a h => by cases h⟩
  | a :: l, c, hr, hj => by
    have ha := hr a (List.mem_cons_self ..)
    obtain ⟨w1, t1⟩ := hg a.toNat c (by omega) hj
    obtain ⟨w2, e2, t2⟩ := gargs_ok hg l (g a.toNat c) (fun b hb => hr b (List.mem_cons_of_mem _ hb)) w1.j
    have e3 : gno (gargs g l (g a.toNat c)).1.2 a.toNat = gno (g a.toNat c).2 a.toNat := w2.keep _ t1
    refine ⟨(w1.mono (by omega)).trans w2, ?_, ?_⟩
    · show gno (g a.toNat c).2 a.toNat :: (gargs g l (g a.toNat c)).2 = gno (gargs g l (g a.toNat c)).1.2 a.toNat :: (l.map fun a_1 => gno (gargs g l (g a.toNat c)).1.2 a_1.toNat)
      rw [← e2, e3]
    · intro b hb
      show 0 ≤ gno (gargs g l (g a.toNat c)).1.2 b.toNat
      rcases List.mem_cons.1 hb with rfl | hb
      · rw [e3]; exact t1
      · exact t2 b hb
theorem gput_eq {k : Nat} {c : σ × List Int} {r : (σ × List Int) × List Int} (h : r.2 = (nd ts k).args.map fun a => gno r.1.2 a.toNat) :
    gput step ts k r = ((step r.1.1 (gnd ts k r.1.2)).1, r.1.2.set k (step r.1.1 (gnd ts k r.1.2)).2) := by
  unfold gput gnd; rw [← h]
theorem gvis_ok (hd : Down ts) (hJ : GJ step ts J) : ∀ (f k : Nat) (c : σ × List Int), k < f → k < ts.length → J c.1 c.2 →
    GW J (k + 1) c (gvis step ts f k c) ∧ 0 ≤ gno (gvis step ts f k c).2 k
  | 0, k, c, h, _, _ => absurd h (by omega)
  | f + 1, k, c, hf, hk, hj => by
    unfold gvis
    by_cases ht : 0 ≤ gno c.2 k
    · rw [if_pos ht]; exact ⟨GW.refl hj, ht⟩
    · rw [if_neg ht]
      obtain ⟨w1, e1, t1⟩ := gargs_ok (g := gvis step ts f) (m := k) (fun a c ha hc => gvis_ok hd hJ f a c (by omega) (by omega) hc) (nd ts k).args c (hd k hk) hj
      generalize hr : gargs (gvis step ts f) (nd ts k).args c = r at *
      have hu : gno r.1.2 k < 0 := by rw [w1.up k (Nat.le_refl _)]; omega
      obtain ⟨j2, n2⟩ := hJ.step w1.j hk hu t1
      have hl : k < r.1.2.length := by rw [hJ.len w1.j]; exact hk
      rw [gput_eq (c := c) e1]
      refine ⟨⟨j2, fun i hi => ?_, fun i hi => ?_⟩, ?_⟩
      · show gno (r.1.2.set k _) i = _
        rw [gno_set_ne (by intro h; subst h; exact ht hi), w1.keep i hi]
      · show gno (r.1.2.set k _) i = _
        rw [gno_set_ne (by omega), w1.up i (by omega)]
      · show 0 ≤ gno (r.1.2.set k _) k
        rw [gno_set_self hl]; exact n2
/-- What the walk finds at a node: the Args told, the step's node. -/
theorem gvis_args (hd : Down ts) (hJ : GJ step ts J) {f k : Nat} {c : σ × List Int} (hf : k ≤ f) (hk : k < ts.length) (hj : J c.1 c.2) (l : List Int) (hl : ∀ a ∈ l, 0 ≤ a ∧ a < (k : Int)) :
    GW J k c (gargs (gvis step ts f) l c).1 ∧ (gargs (gvis step ts f) l c).2 = (l.map fun a => gno (gargs (gvis step ts f) l c).1.2 a.toNat) ∧ ∀ a ∈ l, 0 ≤ gno (gargs (gvis step ts f) l c).1.2 a.toNat :=
  gargs_ok (g := gvis step ts f) (m := k) (fun a c ha hc => gvis_ok hd hJ f a c (by omega) (by omega) hc) l c hl hj
end
/-- The builder's own step. -/
def stepA (o : List Nd) (y : Nd) : List Nd × Int := ((addN o y).1, ((addN o y).2 : Int))
theorem gjA {ts : List Nd} (hd : Down ts) : GJ stepA ts (fun o nos => Inv ts ⟨o, nos⟩) :=
  ⟨fun h => h.len, fun {s nos k} h hk hu ha => by
    have := tell_inv (s := ⟨s, nos⟩) hd h hk (by show ¬ 0 ≤ gno nos k; omega) ha
    exact ⟨this.1, by show (0 : Int) ≤ ((addN _ _).2 : Int); omega⟩⟩
theorem gvis_A {ts : List Nd} (hd : Down ts) : ∀ (f k : Nat) (s : St), k < f → k < ts.length → Inv ts s → gvis stepA ts f k (s.out, s.nos) = ((visit ts f k s).out, (visit ts f k s).nos)
  | 0, k, s, h, _, _ => absurd h (by omega)
  | f + 1, k, s, hf, hk, hi => by
    unfold gvis visit
    by_cases ht : s.told k
    · rw [if_pos ht, if_pos (show 0 ≤ gno s.nos k from ht)]
    · rw [if_neg ht, if_neg (show ¬ 0 ≤ gno s.nos k from ht)]
      have key : ∀ (l : List Int) (s : St), (∀ a ∈ l, 0 ≤ a ∧ a < (k : Int)) → Inv ts s →
          (gargs (gvis stepA ts f) l (s.out, s.nos)).1 = ((l.foldl (fun s a => visit ts f a.toNat s) s).out, (l.foldl (fun s a => visit ts f a.toNat s) s).nos) := by
        intro l
        induction l with
        | nil => intro s _ _; rfl
        | cons a l ih =>
          intro s hr hi
          have ha := hr a (List.mem_cons_self ..)
          show (gargs (gvis stepA ts f) l (gvis stepA ts f a.toNat (s.out, s.nos))).1 = _
          rw [gvis_A hd f a.toNat s (by omega) (by omega) hi, List.foldl_cons]
          exact ih _ (fun b hb => hr b (List.mem_cons_of_mem _ hb)) (visit_inv hd f a.toNat s (by omega) (by omega) hi).1.inv
      obtain ⟨w1, e1, t1⟩ := gvis_args (f := f) hd (gjA hd) (by omega) hk (c := (s.out, s.nos)) hi (nd ts k).args (hd k hk)
      rw [gput_eq (c := (s.out, s.nos)) e1, key _ s (hd k hk) hi]
      rfl
/-- The nodes that lead to k, as the builder tells them. -/
theorem gvis_shr {ts : List Nd} (hd : Down ts) {k : Nat} (hk : k < ts.length) : (gvis stepA ts (k + 1) k ([], List.replicate ts.length (-1))).1 = shr ts k := by
  have h := gvis_A hd (k + 1) k (st0 ts) (by omega) hk (st0_inv ts)
  exact congrArg Prod.fst h
end Go.Proofs.Ythopdfikikdcbaa
