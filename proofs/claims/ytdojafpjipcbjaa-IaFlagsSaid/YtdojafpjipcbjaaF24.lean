/- One step and some steps of a machine of the second set, plainly; flags that are not asked. -/
import Derived.Laws.AppendOwnNone
import Derived.Deep.MidRow
import Derived.Laws.ResultCell
import Derived.Test.YtdojafpjipcbjaaF13
import Derived.Test.YtdojafpjipcbjaaF19
import Derived.Test.YtdojafpjipcbjaaF23
namespace Go.Proofs.Ytdojafpjipcbjaa
open Go.RowKit
set_option linter.unusedVariables false
set_option linter.unusedSimpArgs false
/-- A machine behind the instruction x of n bytes. -/
def stpX (x : Ins) (n : Nat) (c : Mac) : Mac :=
  match exM x (max x.z 16) c with
  | none => { c with e := 3 }
  | some c' => if c'.e = 0 then { c' with a := (c'.a + n + (if jmpB x c.f = true then x.i else 0)) % 4294967296 } else c'
/-- A machine behind one instruction. -/
def stepM (c : Mac) : Mac :=
  if c.a.toNat < c.m.length ∧ decB (c.m.drop c.a.toNat) = true then stpX (decX (c.m.drop c.a.toNat)) (decN (c.m.drop c.a.toNat)) c else { c with e := 3 }
def machE (c : Mac) : Int := if 32768 < c.m.length ∨ c.f < 0 ∨ 15 < c.f then 1 else 0
/-- Two machines that are equal but for their flags. -/
structure Fq (p q : Mac) : Prop where
  r : p.r = q.r
  a : p.a = q.a
  m : p.m = q.m
  e : p.e = q.e
def OFq : Option Mac → Option Mac → Prop
  | some a, some b => Fq a b
  | none, none => True
  | _, _ => False
/-- Some flags, but those that are asked. -/
def mixF (k f g : Int) : Int := bits .or .i64 (bits .and .i64 g (15 - k)) (bits .and .i64 f k)
theorem rdT_in (c : Int) : rdT c = 0 ∨ rdT c = 8 ∨ rdT c = 1 ∨ rdT c = 2 ∨ rdT c = 3 ∨ rdT c = 4 ∨ rdT c = 12 ∨ rdT c = 14 := by
  unfold rdT; repeat' split
  all_goals simp
theorem mix_fin : ∀ f g : Fin 16, ∀ k : Fin 16, 0 ≤ mixF ((k : Nat) : Int) ((f : Nat) : Int) ((g : Nat) : Int) ∧ mixF ((k : Nat) : Int) ((f : Nat) : Int) ((g : Nat) : Int) ≤ 15 := by decide +kernel
theorem ho_fin : ∀ f g c : Fin 16, isC ((c : Nat) : Int) = true → hoB ((c : Nat) : Int) (mixF (rdT ((c : Nat) : Int)) ((f : Nat) : Int) ((g : Nat) : Int)) = hoB ((c : Nat) : Int) ((f : Nat) : Int) := by decide +kernel
theorem fin16 {n : Int} (h0 : 0 ≤ n) (h1 : n ≤ 15) : ∃ k : Fin 16, n = ((k : Nat) : Int) := ⟨⟨n.toNat, by omega⟩, by show n = (n.toNat : Int); omega⟩
theorem mix_bd {k f g : Int} (hk : 0 ≤ k ∧ k ≤ 15) (hf : 0 ≤ f ∧ f ≤ 15) (hg : 0 ≤ g ∧ g ≤ 15) : 0 ≤ mixF k f g ∧ mixF k f g ≤ 15 := by
  obtain ⟨k, rfl⟩ := fin16 hk.1 hk.2
  obtain ⟨f, rfl⟩ := fin16 hf.1 hf.2
  obtain ⟨g, rfl⟩ := fin16 hg.1 hg.2
  exact mix_fin f g k
theorem ho_mix {c f g : Int} (hc : isC c = true) (hf : 0 ≤ f ∧ f ≤ 15) (hg : 0 ≤ g ∧ g ≤ 15) : hoB c (mixF (rdT c) f g) = hoB c f := by
  obtain ⟨f, rfl⟩ := fin16 hf.1 hf.2
  obtain ⟨g, rfl⟩ := fin16 hg.1 hg.2
  obtain ⟨h1, h2, _⟩ := (isC_iff c).1 hc
  obtain ⟨c, rfl⟩ := fin16 h1 h2
  exact ho_fin f g c hc
theorem ite_ofq {p : Prop} [Decidable p] {a b a' b' : Option Mac} (h1 : p → OFq a a') (h2 : ¬ p → OFq b b') : OFq (if p then a else b) (if p then a' else b') := by
  by_cases h : p
  · rw [if_pos h, if_pos h]; exact h1 h
  · rw [if_neg h, if_neg h]; exact h2 h
theorem exO_fq (o : Int) (d s : Nat) (i z : Int) (r : List Int) (f g a : Int) (m : List Int) (e : Int) (h29 : o = 29 → hoB s f = hoB s g) (h31 : o = 31 → hoB i f = hoB i g) :
    OFq (exO o d s i z ⟨r, f, a, m, e⟩) (exO o d s i z ⟨r, g, a, m, e⟩) := by
  by_cases e29 : o = 29
  · subst e29
    show OFq (some (ex_29 d s i z ⟨r, f, a, m, e⟩)) (some (ex_29 d s i z ⟨r, g, a, m, e⟩))
    simp only [ex_29, h29 rfl]
    exact ⟨rfl, rfl, rfl, rfl⟩
  by_cases e31 : o = 31
  · subst e31
    show OFq (some (ex_31 d s i z ⟨r, f, a, m, e⟩)) (some (ex_31 d s i z ⟨r, g, a, m, e⟩))
    simp only [ex_31, h31 rfl]
    cases hoB i g <;> exact ⟨rfl, rfl, rfl, rfl⟩
  have hl : ∀ k, OFq (ldM d s k i z ⟨r, f, a, m, e⟩) (ldM d s k i z ⟨r, g, a, m, e⟩) := fun k => by
    unfold ldM
    by_cases hg : (atM ⟨r, f, a, m, e⟩ s i).toNat + k ≤ m.length
    · rw [if_pos hg, if_pos (show (atM ⟨r, g, a, m, e⟩ s i).toNat + k ≤ m.length from hg)]; exact ⟨rfl, rfl, rfl, rfl⟩
    · rw [if_neg hg, if_neg (show ¬ (atM ⟨r, g, a, m, e⟩ s i).toNat + k ≤ m.length from hg)]; trivial
  have hs : ∀ k, OFq (stM d s k i z ⟨r, f, a, m, e⟩) (stM d s k i z ⟨r, g, a, m, e⟩) := fun k => by
    unfold stM
    by_cases hg : (atM ⟨r, f, a, m, e⟩ d i).toNat + k ≤ m.length
    · rw [if_pos hg, if_pos (show (atM ⟨r, g, a, m, e⟩ d i).toNat + k ≤ m.length from hg)]; exact ⟨rfl, rfl, rfl, rfl⟩
    · rw [if_neg hg, if_neg (show ¬ (atM ⟨r, g, a, m, e⟩ d i).toNat + k ≤ m.length from hg)]; trivial
  have hsh : ∀ o, OFq (some (shM o z d ⟨r, f, a, m, e⟩)) (some (shM o z d ⟨r, g, a, m, e⟩)) := fun o => by
    by_cases hz : r.getD 1 0 % 32 = 0
    · simp only [shM, hz, if_true]; exact ⟨rfl, rfl, rfl, rfl⟩
    · simp only [shM, hz, if_false]; exact ⟨rfl, rfl, rfl, rfl⟩
  have hdU : OFq (divU d ⟨r, f, a, m, e⟩) (divU d ⟨r, g, a, m, e⟩) := by
    unfold divU
    by_cases hg : r.getD d 0 ≤ r.getD 2 0
    · simp only [hg, if_true]; trivial
    · simp only [hg, if_false]; exact ⟨rfl, rfl, rfl, rfl⟩
  have hdS : OFq (divS d ⟨r, f, a, m, e⟩) (divS d ⟨r, g, a, m, e⟩) := by
    unfold divS
    show OFq (if idF (idA ⟨r, f, a, m, e⟩) (sg32 (r.getD d 0)) = true then _ else _) (if idF (idA ⟨r, f, a, m, e⟩) (sg32 (r.getD d 0)) = true then _ else _)
    cases idF (idA ⟨r, f, a, m, e⟩) (sg32 (r.getD d 0))
    · exact ⟨rfl, rfl, rfl, rfl⟩
    · trivial
  have hok : ∀ c c' : Mac, Fq c c' → OFq (some c) (some c') := fun _ _ h => h
  unfold exO
  repeat' (with_reducible refine ite_ofq (fun _ => ?_) (fun _ => ?_))
  all_goals first | exact hl _ | exact hs _ | exact hsh _ | exact hdU | exact hdS | exact hok _ _ ⟨rfl, rfl, rfl, rfl⟩ | (exfalso; omega)
theorem stpX_fq {x : Ins} (n : Nat) {c c' : Mac} (h : Fq c c') (h29 : x.o = 29 → hoB x.s.toNat c.f = hoB x.s.toNat c'.f) (h31 : x.o = 31 → hoB x.i c.f = hoB x.i c'.f) (h32 : x.o = 32 → hoB x.s c.f = hoB x.s c'.f) : Fq (stpX x n c) (stpX x n c') := by
  obtain ⟨r, f, a, m, e⟩ := c
  obtain ⟨r', g, a', m', e'⟩ := c'
  obtain ⟨h1, h2, h3, h4⟩ := h
  dsimp only at h1 h2 h3 h4 h29 h31 h32
  subst h1 h2 h3 h4
  have hj : jmpB x f = jmpB x g := by
    unfold jmpB
    by_cases e2 : x.o = 32
    · rw [h32 e2]
    · simp only [e2, if_false]
  have := exO_fq x.o x.d.toNat x.s.toNat x.i (max x.z 16) r f g a m e h29 h31
  unfold stpX exM
  revert this
  generalize exO x.o x.d.toNat x.s.toNat x.i (max x.z 16) ⟨r, f, a, m, e⟩ = A
  generalize exO x.o x.d.toNat x.s.toNat x.i (max x.z 16) ⟨r, g, a, m, e⟩ = B
  intro hAB
  match A, B, hAB with
  | none, none, _ => exact ⟨rfl, rfl, rfl, rfl⟩
  | some p, some q, hpq =>
    obtain ⟨h1, h2, h3, h4⟩ := (show Fq p q from hpq)
    dsimp only
    rw [← h4, ← h2, hj]
    by_cases he : p.e = 0
    · rw [if_pos he, if_pos he]; exact ⟨h1, rfl, h3, rfl⟩
    · rw [if_neg he, if_neg he]; exact ⟨h1, h2, h3, h4⟩
/-- Flags that are not asked do not matter. -/
theorem stepM_fq {c : Mac} {g : Int} (hal : c.a.toNat < c.m.length) (hd : decB (c.m.drop c.a.toNat) = true) (hok : okI (decX (c.m.drop c.a.toNat)) = true) (hf : 0 ≤ c.f ∧ c.f ≤ 15) (hg : 0 ≤ g ∧ g ≤ 15) : Fq (stepM c) (stepM { c with f := mixF (rdX (decX (c.m.drop c.a.toNat))) c.f g }) := by
  have e1 : stepM c = stpX (decX (c.m.drop c.a.toNat)) (decN (c.m.drop c.a.toNat)) c := if_pos ⟨hal, hd⟩
  have e2 : stepM { c with f := mixF (rdX (decX (c.m.drop c.a.toNat))) c.f g } = stpX (decX (c.m.drop c.a.toNat)) (decN (c.m.drop c.a.toNat)) { c with f := mixF (rdX (decX (c.m.drop c.a.toNat))) c.f g } := if_pos ⟨hal, hd⟩
  rw [e1, e2]
  generalize decX (c.m.drop c.a.toNat) = x at *
  have hfit : fitI x = true := by simp only [okI, Bool.and_eq_true] at hok; exact hok.2
  obtain ⟨h1, h2, h3, h4, h5⟩ := ok_facts hfit
  have h6 : x.o = 32 → isC x.s = true := fun e => by
    unfold fitI at hfit
    simp only [e] at hfit
    simp at hfit
    exact hfit.2.1
  have hr : rdX x = rdT (rdC x) := by simp [rdX, hok]
  rw [hr]
  have key : ∀ k, rdC x = k → isC k = true → hoB k (mixF (rdT (rdC x)) c.f g) = hoB k c.f := fun k e hc => by rw [e]; exact ho_mix hc hf hg
  refine stpX_fq _ ⟨rfl, rfl, rfl, rfl⟩ (fun e => ?_) (fun e => ?_) (fun e => ?_)
  · have e9 : ((x.s.toNat : Nat) : Int) = x.s := by omega
    rw [e9]
    exact (key x.s (by simp [rdC, e]) (h4 e)).symm
  · exact (key x.i (by simp [rdC, e]) (h5 e)).symm
  · exact (key x.s (by simp [rdC, e]) (h6 e)).symm
end Go.Proofs.Ytdojafpjipcbjaa
namespace Go.Proofs.Ytdojafpjipcbjaa
open Go.RowKit
set_option linter.unusedVariables false
set_option linter.unusedSimpArgs false
theorem app_any {w : World} {ops : Array Oper} {rest : List Oper} {o : Oper} {a : Act} {Q : Exit → Act → World → Prop} (hgd : o.guard = none) (s x : Operand)
    (ho : o.op = .call { callee := .builtin .append, args := #[s, x], argTypes := #[22, 22] }) (base : Nat) (v : Value) (xs : List Int) (hs : a.eval s = v) (hown : RowI w base 5 .u8 v xs)
    (u : Value) (ys : List Int) (hx : a.eval x = u) (hu : Ints .u8 w u ys) (hl : xs.length + ys.length ≤ 100000) (hbase : base ≤ w.heap.size)
    (h : ∀ v' w', RowI w' base 5 .u8 v' (xs ++ ys) → Below base w w' → wpList Try.prog ops Q rest (a.put o.dst v') w') : wpList Try.prog ops Q (o :: rest) a w := by
  rcases Nat.eq_zero_or_pos ys.length with h0 | h0
  · obtain ⟨i0, hi0, hz0, hz1, hz2⟩ := info_parts info_u8
    obtain rfl : ys = [] := List.length_eq_zero_iff.1 h0
    obtain ⟨ad, c, e, h1, h2, h3, _⟩ := hu
    rcases ad with _ | ad
    · have hc : c = 0 := h3 rfl
      refine wpList_append_own_none hgd s x _ ho base 5 i0 1 Try.underlying22 hi0 v xs.length _ hs hown (hx.trans (by rw [e, hc]; rfl)) ?_
      exact h v w (by rw [List.append_nil]; exact hown) (Below.refl _ _)
    · refine wpList_append_own (P := Try.prog) w hgd s x _ ho base 5 i0 (.int .u8 0) 1 1 Try.underlying22 hi0 hz0 hz1 hz2 rfl (by decide) v xs.length _ hs hown ad 0 c [] (hx.trans e) rfl (fun j u hj => by simp at hj) (fun u hu => by cases hu) ?_ ?_ hbase ?_
      · unfold maxLen; simp at hl; omega
      · simp at hl; omega
      · intro v' w' hown' hg _
        rw [List.append_nil, Nat.add_zero] at hown'
        exact h v' w' (by rw [List.append_nil]; exact hown') ((Below.refl _ _).grown hg hbase (own_ge hown))
  · exact wpList_app_u8 hgd s x ho base v xs hs hown u ys hx hu h0 hl hbase h
end Go.Proofs.Ytdojafpjipcbjaa
namespace Go.Proofs.Ytdojafpjipcbjaa
open Go.RowKit
set_option linter.unusedVariables false
set_option linter.unusedSimpArgs false
theorem CellsAt.setCells {w : World} {b : Nat} {cs ds : List Value} (h : CellsAt w b cs) (hl : ds.length = cs.length) : CellsAt (w.setCells b 0 ds) b ds := by
  intro k v hk
  have hkl : k < ds.length := (List.getElem?_eq_some_iff.1 hk).1
  have hs : ∀ j, j < ds.length → (w.cell? ⟨b, 0 + j, none⟩).isSome = true := fun j hj => by
    rw [Nat.zero_add, (h j _ (List.getElem?_eq_getElem (by omega))).1]; rfl
  have h1 := World.cell?_setCells_in b ds 0 w hs k hkl
  rw [Nat.zero_add] at h1
  refine ⟨by rw [h1, ← hk, List.getElem?_eq_getElem hkl], ?_⟩
  rw [World.frozen?_setCells]
  exact (h k _ (List.getElem?_eq_getElem (by omega))).2
theorem size_setCells' (b : Nat) : ∀ (vs : List Value) (o : Nat) (w : World), (w.setCells b o vs).heap.size = w.heap.size
  | [], _, _ => rfl
  | v :: r, o, w => by rw [World.setCells, size_setCells' b r]; simp [World.setCell]
theorem Ch.setCells {T M : Nat} {mv : Value} {w : World} : ∀ (vs : List Value) (o : Nat) (W : World), Ch T M mv w W → Ch T M mv w (W.setCells M o vs)
  | [], _, _, h => h
  | v :: r, o, W, h => Ch.setCells r (o + 1) _ (h.setM o v)
theorem OInts.setCells {k : IntKind} {w : World} {D b : Nat} {xs : List Int} (h : OInts k w D xs) (hD : D ≠ b) (vs : List Value) : OInts k (w.setCells b 0 vs) D xs :=
  ⟨by rw [size_setCells']; exact h.1, fun i hi => ⟨by rw [World.cell?_setCells_out b vs 0 w _ (fun e _ => absurd e hD)]; exact h.cell hi, by rw [World.frozen?_setCells]; exact h.free hi⟩⟩
/-- A machine is put back. -/
theorem MM.restore {base M : Nat} {mv : Value} {c c' : Mac} {W : World} (h : MM base M mv c' W) (hm : c'.m = c.m) (hr : c.r.length = 32) (hb : ∀ k, 0 ≤ c.r.getD k 0 ∧ c.r.getD k 0 < 4294967296) (hf : 0 ≤ c.f ∧ c.f ≤ 15) (ha : 0 ≤ c.a ∧ c.a < 4294967296) : MM base M mv c (W.setCells M 0 (macC c mv)) := by
  refine ⟨h.m.setCells (by simp [macC, hr, h.rl]), ?_, h.bm, hr, hb, by rw [← hm]; exact h.ml, by rw [← hm]; exact h.mb, hf, ha⟩
  rw [← hm]
  refine h.v.imp id (fun ⟨D, cap, e, h1, h2, h3, h5, h6⟩ => ⟨D, cap, e, h1, h2, h3, h5, h6.setCells h3 _⟩)
theorem ok_size {x : Ins} (h : okI x = true) : x.z = 8 ∨ x.z = 16 ∨ x.z = 32 := by
  have h2 : (szI x.o).contains x.z = true := by unfold okI at h; simp only [Bool.and_eq_true] at h; exact h.1
  unfold szI at h2
  repeat' split at h2
  all_goals (simp at h2; try omega)
theorem fit_imm {x : Ins} (hk : okI x = true) : I64 x.i := by
  have h := ok_fit hk
  have hp : pwZ x.z ≤ 4294967296 := by rcases ok_size hk with e | e | e <;> rw [e] <;> decide
  unfold fitI fitJ at h
  unfold I64
  by_cases c1 : x.o = 0 ∨ (7 ≤ x.o ∧ x.o ≤ 13) ∨ x.o = 20
  · rw [if_pos c1] at h
    simp only [isR, isM, isL, isC, isB, isW4, inZ, Bool.and_eq_true, Bool.or_eq_true, decide_eq_true_eq, beq_iff_eq, bne_iff_ne] at h; omega
  rw [if_neg c1] at h; clear c1
  by_cases c1 : x.o = 1 ∨ (14 ≤ x.o ∧ x.o ≤ 19)
  · rw [if_pos c1] at h
    simp only [isR, isM, isL, isC, isB, isW4, inZ, Bool.and_eq_true, Bool.or_eq_true, decide_eq_true_eq, beq_iff_eq, bne_iff_ne] at h; omega
  rw [if_neg c1] at h; clear c1
  by_cases c1 : x.o = 2 ∨ x.o = 4 ∨ x.o = 5
  · rw [if_pos c1] at h
    simp only [isR, isM, isL, isC, isB, isW4, inZ, Bool.and_eq_true, Bool.or_eq_true, decide_eq_true_eq, beq_iff_eq, bne_iff_ne] at h; omega
  rw [if_neg c1] at h; clear c1
  by_cases c1 : x.o = 3
  · rw [if_pos c1] at h
    simp only [isR, isM, isL, isC, isB, isW4, inZ, Bool.and_eq_true, Bool.or_eq_true, decide_eq_true_eq, beq_iff_eq, bne_iff_ne] at h; omega
  rw [if_neg c1] at h; clear c1
  by_cases c1 : x.o = 6
  · rw [if_pos c1] at h
    simp only [isR, isM, isL, isC, isB, isW4, inZ, Bool.and_eq_true, Bool.or_eq_true, decide_eq_true_eq, beq_iff_eq, bne_iff_ne] at h; omega
  rw [if_neg c1] at h; clear c1
  by_cases c1 : 21 ≤ x.o ∧ x.o ≤ 27
  · rw [if_pos c1] at h
    simp only [isR, isM, isL, isC, isB, isW4, inZ, Bool.and_eq_true, Bool.or_eq_true, decide_eq_true_eq, beq_iff_eq, bne_iff_ne] at h; omega
  rw [if_neg c1] at h; clear c1
  by_cases c1 : x.o = 28 ∨ x.o = 34 ∨ x.o = 35 ∨ x.o = 36
  · rw [if_pos c1] at h
    simp only [isR, isM, isL, isC, isB, isW4, inZ, Bool.and_eq_true, Bool.or_eq_true, decide_eq_true_eq, beq_iff_eq, bne_iff_ne] at h; omega
  rw [if_neg c1] at h; clear c1
  by_cases c1 : x.o = 29
  · rw [if_pos c1] at h
    simp only [isR, isM, isL, isC, isB, isW4, inZ, Bool.and_eq_true, Bool.or_eq_true, decide_eq_true_eq, beq_iff_eq, bne_iff_ne] at h; omega
  rw [if_neg c1] at h; clear c1
  by_cases c1 : x.o = 30
  · rw [if_pos c1] at h
    simp only [isR, isM, isL, isC, isB, isW4, inZ, Bool.and_eq_true, Bool.or_eq_true, decide_eq_true_eq, beq_iff_eq, bne_iff_ne] at h; omega
  rw [if_neg c1] at h; clear c1
  by_cases c1 : x.o = 31
  · rw [if_pos c1] at h
    simp only [isR, isM, isL, isC, isB, isW4, inZ, Bool.and_eq_true, Bool.or_eq_true, decide_eq_true_eq, beq_iff_eq, bne_iff_ne] at h; omega
  rw [if_neg c1] at h; clear c1
  by_cases c1 : x.o = 32
  · rw [if_pos c1] at h
    simp only [isR, isM, isL, isC, isB, isW4, inZ, Bool.and_eq_true, Bool.or_eq_true, decide_eq_true_eq, beq_iff_eq, bne_iff_ne] at h; omega
  rw [if_neg c1] at h; clear c1
  by_cases c1 : x.o = 33
  · rw [if_pos c1] at h
    simp only [isR, isM, isL, isC, isB, isW4, inZ, Bool.and_eq_true, Bool.or_eq_true, decide_eq_true_eq, beq_iff_eq, bne_iff_ne] at h; omega
  rw [if_neg c1] at h; clear c1
  cases h
theorem dec_facts {l : List Int} (h : decB l = true) : okI (decX l) = true ∧ decN l ≤ l.length := by
  unfold decB at h
  unfold decX decN
  cases e : decI l with
  | none => rw [e] at h; cases h
  | some p =>
    obtain ⟨x, n⟩ := p
    obtain ⟨h1, h2, _, _⟩ := decI_is e
    exact ⟨h1, h2⟩
theorem CellsAt.range {w : World} {b : Nat} {cs : List Value} (h : CellsAt w b cs) : w.rangeAt b 0 cs := fun j v hj => by rw [Nat.zero_add]; exact (h j v hj).1
theorem CellsAt.there {w : World} {b : Nat} {cs ds : List Value} (h : CellsAt w b cs) (hl : ds.length = cs.length) : w.there b 0 ds.toArray.size := fun j hj => by
  have := h j _ (List.getElem?_eq_getElem (by rw [← hl]; simpa using hj))
  rw [Nat.zero_add]
  exact ⟨by rw [this.1]; rfl, this.2⟩
theorem CellsAt.below {w w' : World} {b : Nat} {cs : List Value} (h : CellsAt w b cs) (h0 : 0 < cs.length) (hb : Below w.heap.size w w') : CellsAt w' b cs := h.block (hb.block b (h.lt h0))
/-- The block of a value that was boxed. -/
theorem box_cells (w : World) (cs : List Value) (t : TypeId) : Below w.heap.size w (w.alloc (.cells cs.toArray t)) ∧ CellsAt (w.alloc (.cells cs.toArray t)) w.heap.size cs :=
  ⟨(Below.refl _ _).alloc (Nat.le_refl _) _, cellsAt_of (t := t) (newest w _ t)⟩
/-- A new variable that was written whole. -/
theorem row_cells (w : World) (old : Array Value) (cs : List Value) (t : TypeId) : Below w.heap.size w ((w.alloc (.cells old t)).setRow w.heap.size cs.toArray) ∧ CellsAt ((w.alloc (.cells old t)).setRow w.heap.size cs.toArray) w.heap.size cs ∧ ((w.alloc (.cells old t)).setRow w.heap.size cs.toArray).heap.size = w.heap.size + 1 :=
  ⟨below_setRow ((Below.refl w.heap.size w).alloc (Nat.le_refl _) _) (Nat.le_refl _) _, cellsAt_of (t := t) (setRow_heap (w.alloc (.cells old t)) w.heap.size old cs.toArray t (0, 0) (newest w old t)), by simp⟩
theorem below_setCells {B b : Nat} {a : World} (hb : B ≤ b) : ∀ (vs : List Value) (o : Nat) (w : World), Below B a w → Below B a (w.setCells b o vs)
  | [], _, _, h => h
  | v :: r, o, w, h => below_setCells hb r (o + 1) _ (h.setCell (p := ⟨b, o, none⟩) hb v)
/-- A result that is a variable of many cells. -/
theorem load_cells {P : Program} {w : World} {b : Nat} {cs : List Value} {ty : TypeId} {d : TypeDesc} (h : CellsAt w b cs) (hu : P.underlying ty = some d) (hd : d.isRow = true) (hi : (P.info? ty).map (·.size) = some cs.length) : (loadVar ty ⟨b, 0, none⟩).run P w = .ok (.agg cs.toArray) w :=
  run_loadVar_mid w b 0 ty cs d h.range hu hd hi
theorem res1 {P : Program} {fn : Func} {p : Tmp} {ty : TypeId} {tmps : Array Value} {w : World} {b : Nat} {cs : List Value} {d : TypeDesc} (hf : fn.results = #[.cell p ty]) (hp : tmps.getD p undef = .pointer (some ⟨b, 0, none⟩)) (h : CellsAt w b cs) (hu : P.underlying ty = some d) (hd : d.isRow = true) (hi : (P.info? ty).map (·.size) = some cs.length) :
    (results fn tmps).run P w = .ok (.agg cs.toArray) w := by
  have hp' : tmps[p]?.getD undef = .pointer (some ⟨b, 0, none⟩) := by simpa using hp
  simp [results, hf, hp', asAddr, load_cells h hu hd hi]
theorem res2 {P : Program} {fn : Func} {p u : Tmp} {ty : TypeId} {tmps : Array Value} {w : World} {b : Nat} {cs : List Value} {d : TypeDesc} {v : Value} (hf : fn.results = #[.cell p ty, .tmp u]) (hp : tmps.getD p undef = .pointer (some ⟨b, 0, none⟩)) (hv : tmps.getD u undef = v) (h : CellsAt w b cs) (hu : P.underlying ty = some d) (hd : d.isRow = true) (hi : (P.info? ty).map (·.size) = some cs.length) :
    (results fn tmps).run P w = .ok (.tuple #[.agg cs.toArray, v]) w := by
  rw [results_cell_tmp hf, hp, hv]
  simp [asAddr, load_cells h hu hd hi, Result.andThen]
/-- What is asked of a machine's numbers. -/
structure MOk (c : Mac) : Prop where
  rl : c.r.length = 32
  rb : ∀ k, 0 ≤ c.r.getD k 0 ∧ c.r.getD k 0 < 4294967296
  ab : 0 ≤ c.a ∧ c.a < 4294967296
  mb : Byt c.m
theorem MM.ok {base M : Nat} {mv : Value} {c : Mac} {w : World} (h : MM base M mv c w) : MOk c := ⟨h.rl, h.rb, h.ab, h.mb⟩
/-- Memory of the call's own. -/
def MemO (base : Nat) (w : World) (mv : Value) (m : List Int) : Prop :=
  (m = [] ∧ mv = .slice none 0 0) ∨ ∃ D cap, mv = .slice (some ⟨D, 0, none⟩) m.length cap ∧ m.length ≤ cap ∧ cap ≤ 9223372036854775807 ∧ base ≤ D ∧ OInts .u8 w D m
theorem MemO.below {base : Nat} {w w' : World} {mv : Value} {m : List Int} (h : MemO base w mv m) (hb : Below w.heap.size w w') : MemO base w' mv m :=
  h.imp id fun ⟨D, cap, e, h1, h2, h5, h6⟩ => ⟨D, cap, e, h1, h2, h5, h6.below hb⟩
theorem OInts.setO {k : IntKind} {w : World} {D b j : Nat} {xs : List Int} (h : OInts k w D xs) (hD : D ≠ b) (u : Value) : OInts k (w.setCell ⟨b, j, none⟩ u) D xs :=
  ⟨by simpa [World.setCell] using h.1, fun i hi => ⟨by rw [World.cell?_setCell_other _ _ _ _ (by intro hh; cases hh; exact hD rfl)]; exact h.cell hi, by rw [World.frozen?_setCell]; exact h.free hi⟩⟩
theorem MemO.set {base b j : Nat} {w : World} {mv : Value} {m : List Int} (h : MemO base w mv m) (hb : b < base) (u : Value) : MemO base (w.setCell ⟨b, j, none⟩ u) mv m :=
  h.imp id fun ⟨D, cap, e, h1, h2, h5, h6⟩ => ⟨D, cap, e, h1, h2, h5, h6.setO (by omega) u⟩
theorem MemO.setCells {base b : Nat} {w : World} {mv : Value} {m : List Int} (h : MemO base w mv m) (hb : b < base) (vs : List Value) : MemO base (w.setCells b 0 vs) mv m :=
  h.imp id fun ⟨D, cap, e, h1, h2, h5, h6⟩ => ⟨D, cap, e, h1, h2, h5, h6.setCells (by omega) vs⟩
theorem MemO.setCellsO {base b : Nat} {w : World} {mv : Value} {m : List Int} (h : MemO base w mv m) (hb : mv.ownBlock ≠ some b) (vs : List Value) : MemO base (w.setCells b 0 vs) mv m :=
  h.imp id fun ⟨D, cap, e, h1, h2, h5, h6⟩ => ⟨D, cap, e, h1, h2, h5, h6.setCells (fun e' => hb (by rw [e, e']; rfl)) vs⟩
theorem MemO.own {base : Nat} {w : World} {mv : Value} {m : List Int} (h : MemO base w mv m) (k : Nat) (hk : mv.ownBlock = some k) : base ≤ k ∧ k < w.heap.size := by
  rcases h with ⟨_, e⟩ | ⟨D, cap, e, _, _, h5, h6⟩
  · rw [e] at hk; cases hk
  · rw [e] at hk
    have : D = k := by injection hk
    subst this
    exact ⟨h5, h6.1⟩
theorem MemO.low {base base' : Nat} {w : World} {mv : Value} {m : List Int} (h : MemO base w mv m) (hb : base' ≤ base) : MemO base' w mv m :=
  h.imp id fun ⟨D, cap, e, h1, h2, h5, h6⟩ => ⟨D, cap, e, h1, h2, Nat.le_trans hb h5, h6⟩
theorem MemO.ints {base : Nat} {w : World} {mv : Value} {m : List Int} (h : MemO base w mv m) (hl : m.length ≤ 100000) : Ints .u8 w mv m := by
  rcases h with ⟨e, e2⟩ | ⟨D, cap, e, h1, h2, h5, h6⟩
  · rw [e, e2]; exact ⟨none, 0, by simp, by simp, by decide, fun _ => rfl, fun i hi => absurd hi (by simp)⟩
  · rw [e]
    exact ⟨some ⟨D, 0, none⟩, cap, rfl, h1, ⟨by omega, by omega⟩, (fun hh => by cases hh), fun i hi => ⟨D, 0, rfl, h6.1, by simpa using h6.cell hi⟩⟩
theorem RowI.memO {w : World} {base : Nat} {v : Value} {xs : List Int} (h : RowI w base 5 .u8 v xs) : MemO base w v xs := by
  obtain ⟨_, ⟨rfl, h0⟩ | ⟨g, cap, cur, rfl, hb, hg, h1, h2, h3, h4⟩⟩ := h
  · exact Or.inl ⟨List.length_eq_zero_iff.1 h0, rfl⟩
  · refine Or.inr ⟨g, cap, rfl, h1, by unfold maxLen at h2; omega, hb, ?_, fun i hi => ?_⟩
    · rcases Nat.lt_or_ge g w.heap.size with h | h
      · exact h
      · rw [Array.getElem?_eq_none h] at hg; cases hg
    · have e1 : w.cell? ⟨g, i, none⟩ = cur.toList[i]? := by simp [World.cell?, hg]
      have e2 : (cur.toList.take (xs.length * 1))[i]? = cur.toList[i]? := by rw [List.getElem?_take, if_pos (by omega)]
      refine ⟨?_, by simp [World.frozen?, hg]⟩
      rw [e1, ← e2, h4, List.getElem?_map, List.getElem?_eq_getElem hi, List.getD_eq_getElem?_getD, List.getElem?_eq_getElem hi]
      rfl
/-- The machine in block M, its memory being its own. -/
theorem MM.of {base M : Nat} {mv : Value} {c : Mac} {w : World} (h : CellsAt w M (macC c mv)) (hm : MemO base w mv c.m) (hM : mv.ownBlock ≠ some M) (hb : base ≤ M) (ho : MOk c) (hl : c.m.length ≤ 32768) (hf : 0 ≤ c.f ∧ c.f ≤ 15) : MM base M mv c w :=
  ⟨h, hm.imp id fun ⟨D, cap, e, h1, h2, h5, h6⟩ => ⟨D, cap, e, h1, h2, (fun e' => hM (by rw [e, e']; rfl)), h5, h6⟩, hb, ho.rl, ho.rb, hl, ho.mb, hf, ho.ab⟩
theorem MM.memO {base M : Nat} {mv : Value} {c : Mac} {w : World} (h : MM base M mv c w) : MemO base w mv c.m :=
  h.v.imp id fun ⟨D, cap, e, h1, h2, h3, h5, h6⟩ => ⟨D, cap, e, h1, h2, h5, h6⟩
theorem macC_len {c : Mac} (h : c.r.length = 32) (mv : Value) : (macC c mv).length = 36 := by simp [macC, h]
theorem macC_set {c : Mac} (h : c.r.length = 32) (mv mv' : Value) : (macC c mv).set 34 mv' = macC c mv' := by
  unfold macC
  rw [List.set_append_right _ _ (by simp [h])]
  simp [h]
theorem macC_setF {c : Mac} (h : c.r.length = 32) (mv : Value) (f : Int) : (macC c mv).set 32 (.int .i64 f) = macC { c with f := f } mv := by
  unfold macC
  rw [List.set_append_right _ _ (by simp [h])]
  simp [h]
theorem macC_ones {c : Mac} {mv : Value} (hmv : ∃ a l k, mv = .slice a l k) : (macC c mv).toArray.all (·.oneCell') = true := by
  obtain ⟨a, l, k, rfl⟩ := hmv
  refine all_oneCell_toArray fun v hv => ?_
  unfold macC at hv
  rcases List.mem_append.1 hv with hv | hv
  · obtain ⟨y, _, rfl⟩ := List.mem_map.1 hv
    rfl
  · simp only [List.mem_cons, List.not_mem_nil, or_false] at hv
    rcases hv with rfl | rfl | rfl | rfl <;> rfl
theorem Ints.isSlice {k : IntKind} {w : World} {v : Value} {xs : List Int} (h : Ints k w v xs) : ∃ a l c, v = .slice a l c := by
  obtain ⟨a, c, rfl, _⟩ := h
  exact ⟨_, _, _, rfl⟩
theorem MemO.isSlice {base : Nat} {w : World} {mv : Value} {m : List Int} (h : MemO base w mv m) : ∃ a l c, mv = .slice a l c := by
  rcases h with ⟨_, e⟩ | ⟨D, cap, e, _⟩ <;> exact ⟨_, _, _, e⟩
/-- The four cells behind the registers. -/
theorem CellsAt.tail4 {w : World} {b : Nat} {c : Mac} {mv : Value} (h : CellsAt w b (macC c mv)) (hr : c.r.length = 32) (k : Nat) (v : Value) (hv : ([.int .i64 c.f, .int .u32 c.a, mv, .int .i64 c.e] : List Value)[k]? = some v) : w.cell? ⟨b, 32 + k, none⟩ = some v ∧ w.frozen? ⟨b, 32 + k, none⟩ = false := by
  refine h (32 + k) v ?_
  unfold macC
  rw [List.getElem?_append_right (by simp [hr])]
  simp only [List.length_map, hr, Nat.add_sub_cancel_left]
  exact hv
/-- The same four, with their places. -/
theorem CellsAt.tails {w : World} {b : Nat} {c : Mac} {mv : Value} (h : CellsAt w b (macC c mv)) (hr : c.r.length = 32) :
    (w.cell? ⟨b, 32, none⟩ = some (.int .i64 c.f) ∧ w.frozen? ⟨b, 32, none⟩ = false) ∧ (w.cell? ⟨b, 33, none⟩ = some (.int .u32 c.a) ∧ w.frozen? ⟨b, 33, none⟩ = false) ∧ (w.cell? ⟨b, 34, none⟩ = some mv ∧ w.frozen? ⟨b, 34, none⟩ = false) ∧ (w.cell? ⟨b, 35, none⟩ = some (.int .i64 c.e) ∧ w.frozen? ⟨b, 35, none⟩ = false) :=
  ⟨h.tail4 hr 0 _ rfl, h.tail4 hr 1 _ rfl, h.tail4 hr 2 _ rfl, h.tail4 hr 3 _ rfl⟩
/-- A machine without anything. -/
def mac0 : Mac := ⟨List.replicate 32 0, 0, 0, [], 0⟩
end Go.Proofs.Ytdojafpjipcbjaa
