/- The walk with a stack: what holds of its states; plain. -/
import Derived.Test.YthopdfikikdcbaaShr
namespace Go.Proofs.Ythopdfikikdcbaa
set_option linter.unusedVariables false
set_option linter.unusedSimpArgs false
structure StkOk (ts : List Nd) (st : List Nat) (s : St) : Prop where
  lt : ∀ n ∈ st, n < ts.length
  dec : st.Pairwise (· < ·)
  un : ∀ n ∈ st, gno s.nos n < 0
  len : s.nos.length = ts.length
  sz : s.out.length ≤ cnt s.nos
theorem missing_mem {s : St} {l : List Int} {a : Int} (h : missing s l = some a) : a ∈ l ∧ s.no a.toNat < 0 := by
  unfold missing at h
  have h1 := List.mem_of_find?_eq_some h
  have h2 := List.find?_some h
  exact ⟨h1, by simpa using h2⟩
theorem stk_push {ts : List Nd} {n : Nat} {rest : List Nat} {s : St} {a : Int} (h : StkOk ts (n :: rest) s) (hd : Down ts) (hm : missing s (nd ts n).args = some a) : StkOk ts (a.toNat :: n :: rest) s := by
  obtain ⟨hmem, hneg⟩ := missing_mem hm
  have hn := h.lt n (List.mem_cons_self ..)
  have ha := hd n hn a hmem
  refine ⟨?_, ?_, ?_, h.len, h.sz⟩
  · intro m hm
    rcases List.mem_cons.1 hm with rfl | hm
    · omega
    · exact h.lt m hm
  · rw [List.pairwise_cons]
    refine ⟨fun m hm => ?_, h.dec⟩
    rcases List.mem_cons.1 hm with rfl | hm
    · omega
    · have := (List.pairwise_cons.1 h.dec).1 m hm; omega
  · intro m hm
    rcases List.mem_cons.1 hm with rfl | hm
    · exact hneg
    · exact h.un m hm
theorem addN_len1 (o : List Nd) (y : Nd) : (addN o y).1.length ≤ o.length + 1 := by unfold addN; split <;> simp
theorem stk_pop {ts : List Nd} {n : Nat} {rest : List Nat} {s : St} (h : StkOk ts (n :: rest) s) : StkOk ts rest (tell ts n s) := by
  have hn := h.lt n (List.mem_cons_self ..)
  have hu := h.un n (List.mem_cons_self ..)
  have hnl : n < s.nos.length := by rw [h.len]; exact hn
  refine ⟨fun m hm => h.lt m (List.mem_cons_of_mem _ hm), (List.pairwise_cons.1 h.dec).2, fun m hm => ?_, by show (s.nos.set n _).length = _; rw [List.length_set]; exact h.len, ?_⟩
  · have := (List.pairwise_cons.1 h.dec).1 m hm
    show gno (s.nos.set n _) m < 0
    rw [gno_set_ne (by omega)]
    exact h.un m (List.mem_cons_of_mem _ hm)
  · show (addN s.out (mapN s (nd ts n))).1.length ≤ cnt (s.nos.set n ((addN s.out (mapN s (nd ts n))).2 : Int))
    rw [cnt_set s.nos n _ hnl hu (by omega)]
    have := addN_len1 s.out (mapN s (nd ts n))
    have := h.sz
    omega
theorem stk_step {ts : List Nd} {st : List Nat} {s : St} (h : StkOk ts st s) (hd : Down ts) : StkOk ts (stp ts (st, s)).1 (stp ts (st, s)).2 := by
  cases st with
  | nil => exact h
  | cons n rest =>
    cases hm : missing s (nd ts n).args with
    | some a => rw [stp_some hm]; exact stk_push h hd hm
    | none => rw [stp_none hm]; exact stk_pop h
theorem stk_run {ts : List Nd} (hd : Down ts) {k : Nat} (hk : k < ts.length) : ∀ (t : Nat), StkOk ts (runS ts t ([k], st0 ts)).1 (runS ts t ([k], st0 ts)).2
  | 0 => ⟨fun n hn => by simp [runS] at hn; omega, by simp [runS], fun n hn => by
      have : gno (st0 ts).nos n = -1 := gno_repl _ _
      show gno (st0 ts).nos n < 0
      omega, by simp [runS, st0], by simp [runS, st0]⟩
  | t + 1 => by
    rw [runS_add, runS_one]
    exact stk_step (stk_run hd hk t) hd
theorem dec_len : ∀ (l : List Nat) (lo n : Nat), l.Pairwise (· < ·) → (∀ x ∈ l, lo ≤ x ∧ x < n) → l.length + lo ≤ n ∨ l = []
  | [], lo, n, _, _ => .inr rfl
  | x :: l, lo, n, h, hr => by
    have hx := hr x (List.mem_cons_self ..)
    have h2 := List.pairwise_cons.1 h
    rcases dec_len l (x + 1) n h2.2 (fun y hy => ⟨by have := h2.1 y hy; omega, (hr y (List.mem_cons_of_mem _ hy)).2⟩) with h3 | h3
    · exact .inl (by simp; omega)
    · subst h3; exact .inl (by simp; omega)
theorem StkOk.short {ts : List Nd} {st : List Nat} {s : St} (h : StkOk ts st s) : st.length ≤ ts.length := by
  rcases dec_len st 0 ts.length h.dec (fun x hx => ⟨Nat.zero_le _, h.lt x hx⟩) with h1 | h1
  · omega
  · subst h1; simp
/-- The number of the missing Arg, or -1. -/
def misN (s : St) (l : List Int) : Int := (missing s l).getD (-1)
theorem misN_cons (s : St) (a : Int) (l : List Int) : misN s (a :: l) = if gno s.nos a.toNat < 0 then a else misN s l := by
  unfold misN missing
  rw [List.find?_cons]
  by_cases h : gno s.nos a.toNat < 0
  · rw [if_pos h]
    have : decide (s.no a.toNat < 0) = true := decide_eq_true h
    rw [this]; rfl
  · rw [if_neg h]
    have : decide (s.no a.toNat < 0) = false := decide_eq_false h
    rw [this]
theorem misN_drop (s : St) (l : List Int) (c : Nat) (h : c < l.length) : misN s (l.drop c) = if gno s.nos (l.getD c 0).toNat < 0 then l.getD c 0 else misN s (l.drop (c + 1)) := by
  rw [List.drop_eq_getElem_cons h, misN_cons, List.getD_eq_getElem?_getD, List.getElem?_eq_getElem h]; rfl
theorem misN_some {s : St} {l : List Int} {a : Int} (h : missing s l = some a) : misN s l = a := by unfold misN; rw [h]; rfl
theorem misN_none {s : St} {l : List Int} (h : missing s l = none) : misN s l = -1 := by unfold misN; rw [h]; rfl
theorem shared_end {ts : List Nd} (hd : Down ts) {k : Nat} (hk : k < ts.length) : ∃ T0, (∀ t, t < T0 → (runS ts t ([k], st0 ts)).1 ≠ []) ∧ runS ts T0 ([k], st0 ts) = ([], vis ts k (st0 ts)) := by
  obtain ⟨T, hT⟩ := run_vis hd k (st0 ts) [] hk (st0_inv ts) (st0_told ts k)
  obtain ⟨T0, _, h1, h2⟩ := runS_end T hT
  exact ⟨T0, h2, h1⟩
end Go.Proofs.Ythopdfikikdcbaa
