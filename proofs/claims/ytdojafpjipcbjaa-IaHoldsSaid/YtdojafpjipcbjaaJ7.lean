/- Bytes of an instruction are read as it: the plain law, operation by operation (no program in sight). -/
import Derived.Test.YtdojafpjipcbjaaJ2
namespace Go.Proofs.Ytdojafpjipcbjaa
set_option linter.unusedVariables false
set_option linter.unusedSimpArgs false
theorem qIb9 {p : Prop} (h : p := by
  first | (simp [gsP, movP, secP, grpP, oneI, grpI]; done) | (simp only [gsR, secR, twoR, grpI, n0]; simp; done) | (simp only [gsR, secR, twoR, grpI, n0]; simp; omega) | (simp; done) | (simp; omega) | (intro b hb; simp at hb; omega)) : p := h
theorem qIb8 {p : Prop} (h : p := by
  subst hz
  all_goals refine ⟨?_, ?_, ?_, ?_⟩
  all_goals first | (simp [gsP, movP, secP, grpP, oneI, grpI, f1, f2, f3, d4, w4, ll]; done) | (simp only [gsR, secR, twoR, grpI, n0, n1, n2, n4, f1, f2, f3, w4]; simp [gq, f4, f5]; done) | (simp; done) | (intro b hb; simp only [List.mem_cons] at hb; rcases hb with rfl | hb; omega; first | exact lb b hb | (rcases hb with rfl | hb; omega; first | exact lb b hb | (rcases hb with rfl | hb; omega; exact lb b hb)))) : p := h
theorem qIb7 {p : Prop} (h : p := by
  first | (simp [gsP, movP, secP, grpP, oneI, grpI, f1, f2, f3, d4, w4, ll]; done) | (simp only [gsR, secR, twoR, grpI, n0, n1, n4, f1, f2, f3, w4]; simp [gq, f4, f5]; done) | (simp; done) | (intro b hb; simp only [List.mem_cons] at hb; rcases hb with rfl | hb; omega; first | exact lb b hb | (rcases hb with rfl | hb; omega; first | exact lb b hb | (rcases hb with rfl | hb; omega; exact lb b hb)))) : p := h
theorem qIb6 {p : Prop} (h : p := by
  first | (simp [gsP, movP, secP, grpP, oneI, grpI, f1, f2, f3, ep, eg]; done) | (simp only [gsR, secR, twoR, grpI, n0, n1, n2, f1, f2, f3]; simp [ep, eg]; done) | (simp; done) | (intro b hb; simp at hb; omega)) : p := h
theorem qIb5 {p : Prop} (h : p := by
  first | (simp [gsP, movP, secP, grpP, oneI, grpI, f1, f2, f3, rd, ll]; done) | (simp only [gsR, secR, twoR, grpI, n0, n1, f1, f2, f3]; simp [n4]; done) | (simp; done) | (intro b hb; simp only [List.mem_cons] at hb; rcases hb with rfl | hb; omega; rcases hb with rfl | hb; omega; exact lb b hb)) : p := h
theorem qIb4 {p : Prop} (h : p := by
  first | (simp [gsP, movP, secP, grpP, oneI, grpI, rd, ll]; done) | (simp only [gsR, secR, twoR, grpI, n0]; simp [n4]; done) | (simp; done) | (intro b hb; simp only [List.mem_cons] at hb; rcases hb with rfl | hb; omega; exact lb b hb)) : p := h
theorem qIb3 {p : Prop} (h : p := by
  first | (simp [gsP, movP, secP, grpP, oneI, grpI, sb]; done) | (simp only [gsR, secR, twoR, grpI, n0, n1, sb]; simp [sb]; done) | (simp only [gsR, secR, twoR, grpI, n0, n1, sb]; simp; omega) | (simp; done) | (simp; omega) | (intro b hb; simp at hb; omega)) : p := h
theorem qIb2 {p : Prop} (h : p := by
  first | (simp [gsP, movP, secP, grpP, oneI, grpI, d4, w4, ll]; done) | (simp only [gsR, secR, twoR, grpI, n0, n1]; simp [n4, w4]; done) | (simp; done) | (intro b hb; simp only [List.mem_cons] at hb; rcases hb with rfl | hb; omega; first | exact lb b hb | (rcases hb with rfl | hb; omega; exact lb b hb))) : p := h
theorem qIb1 {p : Prop} (h : p := by
  first | (simp [gsP, movP, secP, grpP, oneI, grpI, f1, f2, f3]; done) | (simp only [gsR, secR, twoR, grpI, n0, n1, f1, f2, f3]; simp [f1, f2, f3]; done) | (simp only [gsR, secR, twoR, grpI, n0, n1, f1, f2, f3]; simp; omega) | (simp; done) | (simp; omega) | (intro b hb; simp at hb; omega)) : p := h
theorem qIb0 {p : Prop} (h : p := by
  first | (simp [gsP, movP, secP, grpP, oneI, grpI, f1, f2, f3]; done) | (simp only [gsR, secR, twoR, grpI, n0, n1, n2, f1, f2, f3]; simp [f1, f2, f3]; done) | (simp only [gsR, secR, twoR, grpI, n0, n1, n2, f1, f2, f3]; simp; omega) | (simp; done) | (simp; omega) | (intro b hb; simp at hb; omega)) : p := h
theorem mr_f {r m : Int} (h1 : 0 ≤ r) (h2 : r ≤ 7) (h3 : 0 ≤ m) (h4 : m ≤ 7) : rF (mrB r m) = r ∧ mF (mrB r m) = m ∧ mrB r m / 64 = 3 ∧ 192 ≤ mrB r m ∧ mrB r m < 256 := by unfold rF mF mrB; omega
theorem mm_f {r m : Int} (h1 : 0 ≤ r) (h2 : r ≤ 7) (h3 : 0 ≤ m) (h4 : m ≤ 7) : rF ((128 + 8 * r + m) % 256) = r ∧ mF ((128 + 8 * r + m) % 256) = m ∧ (128 + 8 * r + m) % 256 / 64 = 2 ∧ 128 ≤ (128 + 8 * r + m) % 256 ∧ (128 + 8 * r + m) % 256 < 192 := by unfold rF mF; omega
theorem rd4 (i : Int) (r : List Int) : rdB (leB i 4 ++ r) 4 = i % 4294967296 := rdB_leB i 4 r
theorem rd2 (i : Int) (r : List Int) : rdB (leB i 2 ++ r) 2 = i % 65536 := rdB_leB i 2 r
theorem sg_w {i : Int} (h1 : -2147483648 ≤ i) (h2 : i ≤ 2147483647) : sg32 (i % 4294967296) = i := by unfold sg32; split <;> omega
theorem sg_b {i : Int} (h1 : -128 ≤ i) (h2 : i ≤ 127) : sg8 (i % 256) = i := by unfold sg8; split <;> omega
theorem leB_byte (n : Int) (k : Nat) : ∀ b ∈ leB n k, 0 ≤ b ∧ b < 256 := by
  induction k generalizing n with
  | zero => intro b hb; cases hb
  | succ k ih =>
    intro b hb
    rcases List.mem_cons.1 hb with rfl | hb
    · omega
    · exact ih _ b hb
theorem ok_fit {x : Ins} (h : okI x = true) : fitI x = true := by unfold okI at h; simp only [Bool.and_eq_true] at h; exact h.2
theorem ok_sz {x : Ins} (h : okI x = true) : x.z ∈ szI x.o := by unfold okI at h; simp only [Bool.and_eq_true] at h; simpa using h.1
theorem ok_op {x : Ins} (h : okI x = true) : 0 ≤ x.o ∧ x.o ≤ 36 := by
  by_cases c : 0 ≤ x.o ∧ x.o ≤ 36
  · exact c
  · have := ok_sz h
    unfold szI at this
    rw [if_neg (by omega), if_neg (by omega), if_neg (by omega), if_neg (by omega), if_neg (by omega), if_neg (by omega), if_neg (by omega), if_neg (by omega)] at this
    cases this
theorem nm_1 {c : List Int} {n : Nat} {a : Int} (h : c[n]? = some a) : nmR c n 1 = a := by
  obtain ⟨hl, he⟩ := List.getElem?_eq_some_iff.1 h
  unfold nmR
  rw [if_pos (by omega), List.drop_eq_getElem_cons hl, he]
  show a + 256 * rdB _ 0 = a
  unfold rdB; omega
theorem nm_k {c : List Int} {n k : Nat} {i : Int} {r : List Int} (h : c.drop n = leB i k ++ r) (hn : n + k ≤ c.length) : nmR c n k = i % 256 ^ k := by
  unfold nmR; rw [if_pos hn, h, rdB_leB]
/-- What an instruction and its bytes are to each other. -/
def RdOk (x : Ins) (r : List Int) : Prop := gsP (bodyI x ++ r) (if x.z = 16 then 16 else 32) = (x, (bodyI x).length) ∧ gsR (bodyI x ++ r) (if x.z = 16 then 16 else 32) = x ∧ (bodyI x ++ r).getD 0 0 ≠ 102 ∧ ∀ b ∈ bodyI x, 0 ≤ b ∧ b < 256
theorem gs_0 (d s z i : Int) (rest : List Int) (h : okI ⟨0, d, s, z, i⟩ = true) : RdOk ⟨0, d, s, z, i⟩ rest := by
  have hz := ok_sz h
  have hf := ok_fit h
  clear h
  simp [szI] at hz
  simp [fitI, fitJ, isR, isM, isL, isC, isB, isW4, inZ, pwZ] at hf
  unfold RdOk
  have b1 : 0 ≤ d ∧ d ≤ 7 ∧ 0 ≤ s ∧ s ≤ 7 ∧ i = 0 := by omega
  obtain ⟨d1, d2, s1, s2, rfl⟩ := b1
  obtain ⟨f1, f2, f3, f4, f5⟩ := mr_f (r := s) (m := d) (by omega) (by omega) (by omega) (by omega)
  have e : ∀ z, bodyI ⟨0, d, s, z, 0⟩ = [137, mrB s d] := fun _ => rfl
  rw [e]
  generalize mrB s d = q at *
  clear e hf
  simp only [List.cons_append, List.nil_append]
  have n0 := nm_1 (c := 137 :: q :: rest) (n := 0) (show _ = some _ from rfl)
  have n1 := nm_1 (c := 137 :: q :: rest) (n := 1) (show _ = some _ from rfl)
  rcases hz with rfl | rfl
  all_goals refine ⟨?_, ?_, ?_, ?_⟩
  all_goals exact qIb1
theorem gs_1 (d s z i : Int) (rest : List Int) (h : okI ⟨1, d, s, z, i⟩ = true) : RdOk ⟨1, d, s, z, i⟩ rest := by
  have hz := ok_sz h
  have hf := ok_fit h
  clear h
  simp [szI] at hz
  unfold RdOk
  rcases hz with rfl | rfl
  · have ep : pwZ 32 = 4294967296 := rfl
    simp [fitI, fitJ, isR, isM, isL, isC, isB, isW4, inZ] at hf
    have b1 : 0 ≤ d ∧ d ≤ 7 ∧ s = 0 ∧ 0 ≤ i ∧ i ≤ 4294967295 := by omega
    obtain ⟨d1, d2, rfl, i1, i2⟩ := b1
    have em : i % 4294967296 = i := by omega
    have rd := rd4 i rest
    rw [em] at rd
    have lb := leB_byte i 4
    have ll := leB_length i 4
    clear hf em
    rcases (show d = 0 ∨ d = 1 ∨ d = 2 ∨ d = 3 ∨ d = 4 ∨ d = 5 ∨ d = 6 ∨ d = 7 by omega) with rfl | rfl | rfl | rfl | rfl | rfl | rfl | rfl
    · have e : bodyI ⟨1, 0, 0, 32, i⟩ = 184 :: leB i 4 := rfl
      rw [e]
      simp only [List.cons_append, List.nil_append]
      have n0 := nm_1 (c := 184 :: (leB i 4 ++ rest)) (n := 0) (show _ = some _ from rfl)
      have n4 : nmR (184 :: (leB i 4 ++ rest)) 1 4 = i := by have := nm_k (c := 184 :: (leB i 4 ++ rest)) (n := 1) (k := 4) (i := i) (r := rest) rfl (by simp [leB_length] <;> omega); rw [this]; omega
      refine ⟨?_, ?_, ?_, ?_⟩
      all_goals exact qIb4
    · have e : bodyI ⟨1, 1, 0, 32, i⟩ = 185 :: leB i 4 := rfl
      rw [e]
      simp only [List.cons_append, List.nil_append]
      have n0 := nm_1 (c := 185 :: (leB i 4 ++ rest)) (n := 0) (show _ = some _ from rfl)
      have n4 : nmR (185 :: (leB i 4 ++ rest)) 1 4 = i := by have := nm_k (c := 185 :: (leB i 4 ++ rest)) (n := 1) (k := 4) (i := i) (r := rest) rfl (by simp [leB_length] <;> omega); rw [this]; omega
      refine ⟨?_, ?_, ?_, ?_⟩
      all_goals exact qIb4
    · have e : bodyI ⟨1, 2, 0, 32, i⟩ = 186 :: leB i 4 := rfl
      rw [e]
      simp only [List.cons_append, List.nil_append]
      have n0 := nm_1 (c := 186 :: (leB i 4 ++ rest)) (n := 0) (show _ = some _ from rfl)
      have n4 : nmR (186 :: (leB i 4 ++ rest)) 1 4 = i := by have := nm_k (c := 186 :: (leB i 4 ++ rest)) (n := 1) (k := 4) (i := i) (r := rest) rfl (by simp [leB_length] <;> omega); rw [this]; omega
      refine ⟨?_, ?_, ?_, ?_⟩
      all_goals exact qIb4
    · have e : bodyI ⟨1, 3, 0, 32, i⟩ = 187 :: leB i 4 := rfl
      rw [e]
      simp only [List.cons_append, List.nil_append]
      have n0 := nm_1 (c := 187 :: (leB i 4 ++ rest)) (n := 0) (show _ = some _ from rfl)
      have n4 : nmR (187 :: (leB i 4 ++ rest)) 1 4 = i := by have := nm_k (c := 187 :: (leB i 4 ++ rest)) (n := 1) (k := 4) (i := i) (r := rest) rfl (by simp [leB_length] <;> omega); rw [this]; omega
      refine ⟨?_, ?_, ?_, ?_⟩
      all_goals exact qIb4
    · have e : bodyI ⟨1, 4, 0, 32, i⟩ = 188 :: leB i 4 := rfl
      rw [e]
      simp only [List.cons_append, List.nil_append]
      have n0 := nm_1 (c := 188 :: (leB i 4 ++ rest)) (n := 0) (show _ = some _ from rfl)
      have n4 : nmR (188 :: (leB i 4 ++ rest)) 1 4 = i := by have := nm_k (c := 188 :: (leB i 4 ++ rest)) (n := 1) (k := 4) (i := i) (r := rest) rfl (by simp [leB_length] <;> omega); rw [this]; omega
      refine ⟨?_, ?_, ?_, ?_⟩
      all_goals exact qIb4
    · have e : bodyI ⟨1, 5, 0, 32, i⟩ = 189 :: leB i 4 := rfl
      rw [e]
      simp only [List.cons_append, List.nil_append]
      have n0 := nm_1 (c := 189 :: (leB i 4 ++ rest)) (n := 0) (show _ = some _ from rfl)
      have n4 : nmR (189 :: (leB i 4 ++ rest)) 1 4 = i := by have := nm_k (c := 189 :: (leB i 4 ++ rest)) (n := 1) (k := 4) (i := i) (r := rest) rfl (by simp [leB_length] <;> omega); rw [this]; omega
      refine ⟨?_, ?_, ?_, ?_⟩
      all_goals exact qIb4
    · have e : bodyI ⟨1, 6, 0, 32, i⟩ = 190 :: leB i 4 := rfl
      rw [e]
      simp only [List.cons_append, List.nil_append]
      have n0 := nm_1 (c := 190 :: (leB i 4 ++ rest)) (n := 0) (show _ = some _ from rfl)
      have n4 : nmR (190 :: (leB i 4 ++ rest)) 1 4 = i := by have := nm_k (c := 190 :: (leB i 4 ++ rest)) (n := 1) (k := 4) (i := i) (r := rest) rfl (by simp [leB_length] <;> omega); rw [this]; omega
      refine ⟨?_, ?_, ?_, ?_⟩
      all_goals exact qIb4
    · have e : bodyI ⟨1, 7, 0, 32, i⟩ = 191 :: leB i 4 := rfl
      rw [e]
      simp only [List.cons_append, List.nil_append]
      have n0 := nm_1 (c := 191 :: (leB i 4 ++ rest)) (n := 0) (show _ = some _ from rfl)
      have n4 : nmR (191 :: (leB i 4 ++ rest)) 1 4 = i := by have := nm_k (c := 191 :: (leB i 4 ++ rest)) (n := 1) (k := 4) (i := i) (r := rest) rfl (by simp [leB_length] <;> omega); rw [this]; omega
      refine ⟨?_, ?_, ?_, ?_⟩
      all_goals exact qIb4
  · have ep : pwZ 16 = 65536 := rfl
    simp [fitI, fitJ, isR, isM, isL, isC, isB, isW4, inZ] at hf
    have b1 : 0 ≤ d ∧ d ≤ 7 ∧ s = 0 ∧ 0 ≤ i ∧ i ≤ 65535 := by omega
    obtain ⟨d1, d2, rfl, i1, i2⟩ := b1
    have em : i % 65536 = i := by omega
    have rd := rd2 i rest
    rw [em] at rd
    have lb := leB_byte i 2
    have ll := leB_length i 2
    clear hf em
    rcases (show d = 0 ∨ d = 1 ∨ d = 2 ∨ d = 3 ∨ d = 4 ∨ d = 5 ∨ d = 6 ∨ d = 7 by omega) with rfl | rfl | rfl | rfl | rfl | rfl | rfl | rfl
    · have e : bodyI ⟨1, 0, 0, 16, i⟩ = 184 :: leB i 2 := rfl
      rw [e]
      simp only [List.cons_append, List.nil_append]
      have n0 := nm_1 (c := 184 :: (leB i 2 ++ rest)) (n := 0) (show _ = some _ from rfl)
      have n4 : nmR (184 :: (leB i 2 ++ rest)) 1 2 = i := by have := nm_k (c := 184 :: (leB i 2 ++ rest)) (n := 1) (k := 2) (i := i) (r := rest) rfl (by simp [leB_length] <;> omega); rw [this]; omega
      refine ⟨?_, ?_, ?_, ?_⟩
      all_goals exact qIb4
    · have e : bodyI ⟨1, 1, 0, 16, i⟩ = 185 :: leB i 2 := rfl
      rw [e]
      simp only [List.cons_append, List.nil_append]
      have n0 := nm_1 (c := 185 :: (leB i 2 ++ rest)) (n := 0) (show _ = some _ from rfl)
      have n4 : nmR (185 :: (leB i 2 ++ rest)) 1 2 = i := by have := nm_k (c := 185 :: (leB i 2 ++ rest)) (n := 1) (k := 2) (i := i) (r := rest) rfl (by simp [leB_length] <;> omega); rw [this]; omega
      refine ⟨?_, ?_, ?_, ?_⟩
      all_goals exact qIb4
    · have e : bodyI ⟨1, 2, 0, 16, i⟩ = 186 :: leB i 2 := rfl
      rw [e]
      simp only [List.cons_append, List.nil_append]
      have n0 := nm_1 (c := 186 :: (leB i 2 ++ rest)) (n := 0) (show _ = some _ from rfl)
      have n4 : nmR (186 :: (leB i 2 ++ rest)) 1 2 = i := by have := nm_k (c := 186 :: (leB i 2 ++ rest)) (n := 1) (k := 2) (i := i) (r := rest) rfl (by simp [leB_length] <;> omega); rw [this]; omega
      refine ⟨?_, ?_, ?_, ?_⟩
      all_goals exact qIb4
    · have e : bodyI ⟨1, 3, 0, 16, i⟩ = 187 :: leB i 2 := rfl
      rw [e]
      simp only [List.cons_append, List.nil_append]
      have n0 := nm_1 (c := 187 :: (leB i 2 ++ rest)) (n := 0) (show _ = some _ from rfl)
      have n4 : nmR (187 :: (leB i 2 ++ rest)) 1 2 = i := by have := nm_k (c := 187 :: (leB i 2 ++ rest)) (n := 1) (k := 2) (i := i) (r := rest) rfl (by simp [leB_length] <;> omega); rw [this]; omega
      refine ⟨?_, ?_, ?_, ?_⟩
      all_goals exact qIb4
    · have e : bodyI ⟨1, 4, 0, 16, i⟩ = 188 :: leB i 2 := rfl
      rw [e]
      simp only [List.cons_append, List.nil_append]
      have n0 := nm_1 (c := 188 :: (leB i 2 ++ rest)) (n := 0) (show _ = some _ from rfl)
      have n4 : nmR (188 :: (leB i 2 ++ rest)) 1 2 = i := by have := nm_k (c := 188 :: (leB i 2 ++ rest)) (n := 1) (k := 2) (i := i) (r := rest) rfl (by simp [leB_length] <;> omega); rw [this]; omega
      refine ⟨?_, ?_, ?_, ?_⟩
      all_goals exact qIb4
    · have e : bodyI ⟨1, 5, 0, 16, i⟩ = 189 :: leB i 2 := rfl
      rw [e]
      simp only [List.cons_append, List.nil_append]
      have n0 := nm_1 (c := 189 :: (leB i 2 ++ rest)) (n := 0) (show _ = some _ from rfl)
      have n4 : nmR (189 :: (leB i 2 ++ rest)) 1 2 = i := by have := nm_k (c := 189 :: (leB i 2 ++ rest)) (n := 1) (k := 2) (i := i) (r := rest) rfl (by simp [leB_length] <;> omega); rw [this]; omega
      refine ⟨?_, ?_, ?_, ?_⟩
      all_goals exact qIb4
    · have e : bodyI ⟨1, 6, 0, 16, i⟩ = 190 :: leB i 2 := rfl
      rw [e]
      simp only [List.cons_append, List.nil_append]
      have n0 := nm_1 (c := 190 :: (leB i 2 ++ rest)) (n := 0) (show _ = some _ from rfl)
      have n4 : nmR (190 :: (leB i 2 ++ rest)) 1 2 = i := by have := nm_k (c := 190 :: (leB i 2 ++ rest)) (n := 1) (k := 2) (i := i) (r := rest) rfl (by simp [leB_length] <;> omega); rw [this]; omega
      refine ⟨?_, ?_, ?_, ?_⟩
      all_goals exact qIb4
    · have e : bodyI ⟨1, 7, 0, 16, i⟩ = 191 :: leB i 2 := rfl
      rw [e]
      simp only [List.cons_append, List.nil_append]
      have n0 := nm_1 (c := 191 :: (leB i 2 ++ rest)) (n := 0) (show _ = some _ from rfl)
      have n4 : nmR (191 :: (leB i 2 ++ rest)) 1 2 = i := by have := nm_k (c := 191 :: (leB i 2 ++ rest)) (n := 1) (k := 2) (i := i) (r := rest) rfl (by simp [leB_length] <;> omega); rw [this]; omega
      refine ⟨?_, ?_, ?_, ?_⟩
      all_goals exact qIb4
theorem gs_2 (d s z i : Int) (rest : List Int) (h : okI ⟨2, d, s, z, i⟩ = true) : RdOk ⟨2, d, s, z, i⟩ rest := by
  have hz := ok_sz h
  have hf := ok_fit h
  clear h
  simp [szI] at hz
  simp [fitI, fitJ, isR, isM, isL, isC, isB, isW4, inZ, pwZ] at hf
  unfold RdOk
  have b1 : 0 ≤ d ∧ d ≤ 7 ∧ 0 ≤ s ∧ s ≤ 7 ∧ -2147483648 ≤ i ∧ i ≤ 2147483647 := by omega
  obtain ⟨d1, d2, s1, s2, i1, i2⟩ := b1
  obtain ⟨f1, f2, f3, f4, f5⟩ := mm_f (r := d) (m := s) (by omega) (by omega) (by omega) (by omega)
  have e : ∀ z, bodyI ⟨2, d, s, z, i⟩ = 139 :: ((128 + 8 * d + s) % 256) :: leB i 4 := fun _ => rfl
  rw [e]
  generalize (128 + 8 * d + s) % 256 = q at *
  clear e hf
  simp only [List.cons_append, List.nil_append]
  have n0 := nm_1 (c := 139 :: q :: (leB i 4 ++ rest)) (n := 0) (show _ = some _ from rfl)
  have n1 := nm_1 (c := 139 :: q :: (leB i 4 ++ rest)) (n := 1) (show _ = some _ from rfl)
  have n4 : nmR (139 :: q :: (leB i 4 ++ rest)) 2 4 = i % 4294967296 := nm_k (i := i) (r := rest) rfl (by simp [leB_length] <;> omega)
  have d4 := rd4 i rest
  have w4 := sg_w i1 i2
  have lb := leB_byte i 4
  have ll := leB_length i 4
  have gq : ¬ 192 ≤ q := by omega
  rcases hz with rfl | rfl
  all_goals refine ⟨?_, ?_, ?_, ?_⟩
  all_goals exact qIb7
theorem gs_3 (d s z i : Int) (rest : List Int) (h : okI ⟨3, d, s, z, i⟩ = true) : RdOk ⟨3, d, s, z, i⟩ rest := by
  have hz := ok_sz h
  have hf := ok_fit h
  clear h
  simp [szI] at hz
  simp [fitI, fitJ, isR, isM, isL, isC, isB, isW4, inZ, pwZ] at hf
  unfold RdOk
  have b1 : 0 ≤ d ∧ d ≤ 7 ∧ 0 ≤ s ∧ s ≤ 7 ∧ -2147483648 ≤ i ∧ i ≤ 2147483647 := by omega
  obtain ⟨d1, d2, s1, s2, i1, i2⟩ := b1
  obtain ⟨f1, f2, f3, f4, f5⟩ := mm_f (r := s) (m := d) (by omega) (by omega) (by omega) (by omega)
  have e : ∀ z, bodyI ⟨3, d, s, z, i⟩ = 137 :: ((128 + 8 * s + d) % 256) :: leB i 4 := fun _ => rfl
  rw [e]
  generalize (128 + 8 * s + d) % 256 = q at *
  clear e hf
  simp only [List.cons_append, List.nil_append]
  have n0 := nm_1 (c := 137 :: q :: (leB i 4 ++ rest)) (n := 0) (show _ = some _ from rfl)
  have n1 := nm_1 (c := 137 :: q :: (leB i 4 ++ rest)) (n := 1) (show _ = some _ from rfl)
  have n4 : nmR (137 :: q :: (leB i 4 ++ rest)) 2 4 = i % 4294967296 := nm_k (i := i) (r := rest) rfl (by simp [leB_length] <;> omega)
  have d4 := rd4 i rest
  have w4 := sg_w i1 i2
  have lb := leB_byte i 4
  have ll := leB_length i 4
  have gq : ¬ 192 ≤ q := by omega
  rcases hz with rfl | rfl
  all_goals refine ⟨?_, ?_, ?_, ?_⟩
  all_goals exact qIb7
theorem gs_4 (d s z i : Int) (rest : List Int) (h : okI ⟨4, d, s, z, i⟩ = true) : RdOk ⟨4, d, s, z, i⟩ rest := by
  have hz := ok_sz h
  have hf := ok_fit h
  clear h
  simp [szI] at hz
  simp [fitI, fitJ, isR, isM, isL, isC, isB, isW4, inZ, pwZ] at hf
  unfold RdOk
  have b1 : 0 ≤ d ∧ d ≤ 7 ∧ 0 ≤ s ∧ s ≤ 7 ∧ -2147483648 ≤ i ∧ i ≤ 2147483647 := by omega
  obtain ⟨d1, d2, s1, s2, i1, i2⟩ := b1
  obtain ⟨f1, f2, f3, f4, f5⟩ := mm_f (r := d) (m := s) (by omega) (by omega) (by omega) (by omega)
  have e : ∀ z, bodyI ⟨4, d, s, z, i⟩ = 15 :: 182 :: ((128 + 8 * d + s) % 256) :: leB i 4 := fun _ => rfl
  rw [e]
  generalize (128 + 8 * d + s) % 256 = q at *
  clear e hf
  simp only [List.cons_append, List.nil_append]
  have n0 := nm_1 (c := 15 :: 182 :: q :: (leB i 4 ++ rest)) (n := 0) (show _ = some _ from rfl)
  have n1 := nm_1 (c := 15 :: 182 :: q :: (leB i 4 ++ rest)) (n := 1) (show _ = some _ from rfl)
  have n2 := nm_1 (c := 15 :: 182 :: q :: (leB i 4 ++ rest)) (n := 2) (show _ = some _ from rfl)
  have n4 : nmR (15 :: 182 :: q :: (leB i 4 ++ rest)) 3 4 = i % 4294967296 := nm_k (i := i) (r := rest) rfl (by simp [leB_length] <;> omega)
  have d4 := rd4 i rest
  have w4 := sg_w i1 i2
  have lb := leB_byte i 4
  have ll := leB_length i 4
  have gq : ¬ 192 ≤ q := by omega
  exact qIb8
theorem gs_5 (d s z i : Int) (rest : List Int) (h : okI ⟨5, d, s, z, i⟩ = true) : RdOk ⟨5, d, s, z, i⟩ rest := by
  have hz := ok_sz h
  have hf := ok_fit h
  clear h
  simp [szI] at hz
  simp [fitI, fitJ, isR, isM, isL, isC, isB, isW4, inZ, pwZ] at hf
  unfold RdOk
  have b1 : 0 ≤ d ∧ d ≤ 7 ∧ 0 ≤ s ∧ s ≤ 7 ∧ -2147483648 ≤ i ∧ i ≤ 2147483647 := by omega
  obtain ⟨d1, d2, s1, s2, i1, i2⟩ := b1
  obtain ⟨f1, f2, f3, f4, f5⟩ := mm_f (r := d) (m := s) (by omega) (by omega) (by omega) (by omega)
  have e : ∀ z, bodyI ⟨5, d, s, z, i⟩ = 15 :: 183 :: ((128 + 8 * d + s) % 256) :: leB i 4 := fun _ => rfl
  rw [e]
  generalize (128 + 8 * d + s) % 256 = q at *
  clear e hf
  simp only [List.cons_append, List.nil_append]
  have n0 := nm_1 (c := 15 :: 183 :: q :: (leB i 4 ++ rest)) (n := 0) (show _ = some _ from rfl)
  have n1 := nm_1 (c := 15 :: 183 :: q :: (leB i 4 ++ rest)) (n := 1) (show _ = some _ from rfl)
  have n2 := nm_1 (c := 15 :: 183 :: q :: (leB i 4 ++ rest)) (n := 2) (show _ = some _ from rfl)
  have n4 : nmR (15 :: 183 :: q :: (leB i 4 ++ rest)) 3 4 = i % 4294967296 := nm_k (i := i) (r := rest) rfl (by simp [leB_length] <;> omega)
  have d4 := rd4 i rest
  have w4 := sg_w i1 i2
  have lb := leB_byte i 4
  have ll := leB_length i 4
  have gq : ¬ 192 ≤ q := by omega
  exact qIb8
theorem gs_6 (d s z i : Int) (rest : List Int) (h : okI ⟨6, d, s, z, i⟩ = true) : RdOk ⟨6, d, s, z, i⟩ rest := by
  have hz := ok_sz h
  have hf := ok_fit h
  clear h
  simp [szI] at hz
  simp [fitI, fitJ, isR, isM, isL, isC, isB, isW4, inZ, pwZ] at hf
  unfold RdOk
  have b1 : 0 ≤ d ∧ d ≤ 7 ∧ 0 ≤ s ∧ s ≤ 7 ∧ -2147483648 ≤ i ∧ i ≤ 2147483647 := by omega
  obtain ⟨d1, d2, s1, s2, i1, i2⟩ := b1
  obtain ⟨f1, f2, f3, f4, f5⟩ := mm_f (r := s) (m := d) (by omega) (by omega) (by omega) (by omega)
  have e : ∀ z, bodyI ⟨6, d, s, z, i⟩ = 136 :: ((128 + 8 * s + d) % 256) :: leB i 4 := fun _ => rfl
  rw [e]
  generalize (128 + 8 * s + d) % 256 = q at *
  clear e hf
  simp only [List.cons_append, List.nil_append]
  have n0 := nm_1 (c := 136 :: q :: (leB i 4 ++ rest)) (n := 0) (show _ = some _ from rfl)
  have n1 := nm_1 (c := 136 :: q :: (leB i 4 ++ rest)) (n := 1) (show _ = some _ from rfl)
  have n4 : nmR (136 :: q :: (leB i 4 ++ rest)) 2 4 = i % 4294967296 := nm_k (i := i) (r := rest) rfl (by simp [leB_length] <;> omega)
  have d4 := rd4 i rest
  have w4 := sg_w i1 i2
  have lb := leB_byte i 4
  have ll := leB_length i 4
  have gq : ¬ 192 ≤ q := by omega
  subst hz
  all_goals refine ⟨?_, ?_, ?_, ?_⟩
  all_goals exact qIb7
theorem gs_7 (d s z i : Int) (rest : List Int) (h : okI ⟨7, d, s, z, i⟩ = true) : RdOk ⟨7, d, s, z, i⟩ rest := by
  have hz := ok_sz h
  have hf := ok_fit h
  clear h
  simp [szI] at hz
  simp [fitI, fitJ, isR, isM, isL, isC, isB, isW4, inZ, pwZ] at hf
  unfold RdOk
  have b1 : 0 ≤ d ∧ d ≤ 7 ∧ 0 ≤ s ∧ s ≤ 7 ∧ i = 0 := by omega
  obtain ⟨d1, d2, s1, s2, rfl⟩ := b1
  obtain ⟨f1, f2, f3, f4, f5⟩ := mr_f (r := s) (m := d) (by omega) (by omega) (by omega) (by omega)
  have e : ∀ z, bodyI ⟨7, d, s, z, 0⟩ = [1, mrB s d] := fun _ => rfl
  rw [e]
  generalize mrB s d = q at *
  clear e hf
  simp only [List.cons_append, List.nil_append]
  have n0 := nm_1 (c := 1 :: q :: rest) (n := 0) (show _ = some _ from rfl)
  have n1 := nm_1 (c := 1 :: q :: rest) (n := 1) (show _ = some _ from rfl)
  rcases hz with rfl | rfl
  all_goals refine ⟨?_, ?_, ?_, ?_⟩
  all_goals exact qIb1
theorem gs_8 (d s z i : Int) (rest : List Int) (h : okI ⟨8, d, s, z, i⟩ = true) : RdOk ⟨8, d, s, z, i⟩ rest := by
  have hz := ok_sz h
  have hf := ok_fit h
  clear h
  simp [szI] at hz
  simp [fitI, fitJ, isR, isM, isL, isC, isB, isW4, inZ, pwZ] at hf
  unfold RdOk
  have b1 : 0 ≤ d ∧ d ≤ 7 ∧ 0 ≤ s ∧ s ≤ 7 ∧ i = 0 := by omega
  obtain ⟨d1, d2, s1, s2, rfl⟩ := b1
  obtain ⟨f1, f2, f3, f4, f5⟩ := mr_f (r := s) (m := d) (by omega) (by omega) (by omega) (by omega)
  have e : ∀ z, bodyI ⟨8, d, s, z, 0⟩ = [9, mrB s d] := fun _ => rfl
  rw [e]
  generalize mrB s d = q at *
  clear e hf
  simp only [List.cons_append, List.nil_append]
  have n0 := nm_1 (c := 9 :: q :: rest) (n := 0) (show _ = some _ from rfl)
  have n1 := nm_1 (c := 9 :: q :: rest) (n := 1) (show _ = some _ from rfl)
  rcases hz with rfl | rfl
  all_goals refine ⟨?_, ?_, ?_, ?_⟩
  all_goals exact qIb1
theorem gs_9 (d s z i : Int) (rest : List Int) (h : okI ⟨9, d, s, z, i⟩ = true) : RdOk ⟨9, d, s, z, i⟩ rest := by
  have hz := ok_sz h
  have hf := ok_fit h
  clear h
  simp [szI] at hz
  simp [fitI, fitJ, isR, isM, isL, isC, isB, isW4, inZ, pwZ] at hf
  unfold RdOk
  have b1 : 0 ≤ d ∧ d ≤ 7 ∧ 0 ≤ s ∧ s ≤ 7 ∧ i = 0 := by omega
  obtain ⟨d1, d2, s1, s2, rfl⟩ := b1
  obtain ⟨f1, f2, f3, f4, f5⟩ := mr_f (r := s) (m := d) (by omega) (by omega) (by omega) (by omega)
  have e : ∀ z, bodyI ⟨9, d, s, z, 0⟩ = [33, mrB s d] := fun _ => rfl
  rw [e]
  generalize mrB s d = q at *
  clear e hf
  simp only [List.cons_append, List.nil_append]
  have n0 := nm_1 (c := 33 :: q :: rest) (n := 0) (show _ = some _ from rfl)
  have n1 := nm_1 (c := 33 :: q :: rest) (n := 1) (show _ = some _ from rfl)
  rcases hz with rfl | rfl
  all_goals refine ⟨?_, ?_, ?_, ?_⟩
  all_goals exact qIb1
theorem gs_10 (d s z i : Int) (rest : List Int) (h : okI ⟨10, d, s, z, i⟩ = true) : RdOk ⟨10, d, s, z, i⟩ rest := by
  have hz := ok_sz h
  have hf := ok_fit h
  clear h
  simp [szI] at hz
  simp [fitI, fitJ, isR, isM, isL, isC, isB, isW4, inZ, pwZ] at hf
  unfold RdOk
  have b1 : 0 ≤ d ∧ d ≤ 7 ∧ 0 ≤ s ∧ s ≤ 7 ∧ i = 0 := by omega
  obtain ⟨d1, d2, s1, s2, rfl⟩ := b1
  obtain ⟨f1, f2, f3, f4, f5⟩ := mr_f (r := s) (m := d) (by omega) (by omega) (by omega) (by omega)
  have e : ∀ z, bodyI ⟨10, d, s, z, 0⟩ = [41, mrB s d] := fun _ => rfl
  rw [e]
  generalize mrB s d = q at *
  clear e hf
  simp only [List.cons_append, List.nil_append]
  have n0 := nm_1 (c := 41 :: q :: rest) (n := 0) (show _ = some _ from rfl)
  have n1 := nm_1 (c := 41 :: q :: rest) (n := 1) (show _ = some _ from rfl)
  rcases hz with rfl | rfl
  all_goals refine ⟨?_, ?_, ?_, ?_⟩
  all_goals exact qIb1
theorem gs_11 (d s z i : Int) (rest : List Int) (h : okI ⟨11, d, s, z, i⟩ = true) : RdOk ⟨11, d, s, z, i⟩ rest := by
  have hz := ok_sz h
  have hf := ok_fit h
  clear h
  simp [szI] at hz
  simp [fitI, fitJ, isR, isM, isL, isC, isB, isW4, inZ, pwZ] at hf
  unfold RdOk
  have b1 : 0 ≤ d ∧ d ≤ 7 ∧ 0 ≤ s ∧ s ≤ 7 ∧ i = 0 := by omega
  obtain ⟨d1, d2, s1, s2, rfl⟩ := b1
  obtain ⟨f1, f2, f3, f4, f5⟩ := mr_f (r := s) (m := d) (by omega) (by omega) (by omega) (by omega)
  have e : ∀ z, bodyI ⟨11, d, s, z, 0⟩ = [49, mrB s d] := fun _ => rfl
  rw [e]
  generalize mrB s d = q at *
  clear e hf
  simp only [List.cons_append, List.nil_append]
  have n0 := nm_1 (c := 49 :: q :: rest) (n := 0) (show _ = some _ from rfl)
  have n1 := nm_1 (c := 49 :: q :: rest) (n := 1) (show _ = some _ from rfl)
  rcases hz with rfl | rfl
  all_goals refine ⟨?_, ?_, ?_, ?_⟩
  all_goals exact qIb1
theorem gs_12 (d s z i : Int) (rest : List Int) (h : okI ⟨12, d, s, z, i⟩ = true) : RdOk ⟨12, d, s, z, i⟩ rest := by
  have hz := ok_sz h
  have hf := ok_fit h
  clear h
  simp [szI] at hz
  simp [fitI, fitJ, isR, isM, isL, isC, isB, isW4, inZ, pwZ] at hf
  unfold RdOk
  have b1 : 0 ≤ d ∧ d ≤ 7 ∧ 0 ≤ s ∧ s ≤ 7 ∧ i = 0 := by omega
  obtain ⟨d1, d2, s1, s2, rfl⟩ := b1
  obtain ⟨f1, f2, f3, f4, f5⟩ := mr_f (r := s) (m := d) (by omega) (by omega) (by omega) (by omega)
  have e : ∀ z, bodyI ⟨12, d, s, z, 0⟩ = [57, mrB s d] := fun _ => rfl
  rw [e]
  generalize mrB s d = q at *
  clear e hf
  simp only [List.cons_append, List.nil_append]
  have n0 := nm_1 (c := 57 :: q :: rest) (n := 0) (show _ = some _ from rfl)
  have n1 := nm_1 (c := 57 :: q :: rest) (n := 1) (show _ = some _ from rfl)
  rcases hz with rfl | rfl
  all_goals refine ⟨?_, ?_, ?_, ?_⟩
  all_goals exact qIb1
theorem gs_13 (d s z i : Int) (rest : List Int) (h : okI ⟨13, d, s, z, i⟩ = true) : RdOk ⟨13, d, s, z, i⟩ rest := by
  have hz := ok_sz h
  have hf := ok_fit h
  clear h
  simp [szI] at hz
  simp [fitI, fitJ, isR, isM, isL, isC, isB, isW4, inZ, pwZ] at hf
  unfold RdOk
  have b1 : 0 ≤ d ∧ d ≤ 7 ∧ 0 ≤ s ∧ s ≤ 7 ∧ i = 0 := by omega
  obtain ⟨d1, d2, s1, s2, rfl⟩ := b1
  obtain ⟨f1, f2, f3, f4, f5⟩ := mr_f (r := s) (m := d) (by omega) (by omega) (by omega) (by omega)
  have e : ∀ z, bodyI ⟨13, d, s, z, 0⟩ = [133, mrB s d] := fun _ => rfl
  rw [e]
  generalize mrB s d = q at *
  clear e hf
  simp only [List.cons_append, List.nil_append]
  have n0 := nm_1 (c := 133 :: q :: rest) (n := 0) (show _ = some _ from rfl)
  have n1 := nm_1 (c := 133 :: q :: rest) (n := 1) (show _ = some _ from rfl)
  rcases hz with rfl | rfl
  all_goals refine ⟨?_, ?_, ?_, ?_⟩
  all_goals exact qIb1
theorem gs_14 (d s z i : Int) (rest : List Int) (h : okI ⟨14, d, s, z, i⟩ = true) : RdOk ⟨14, d, s, z, i⟩ rest := by
  have hz := ok_sz h
  have hf := ok_fit h
  clear h
  simp [szI] at hz
  unfold RdOk
  rcases hz with rfl | rfl
  · have ep : pwZ 32 = 4294967296 := rfl
    simp [fitI, fitJ, isR, isM, isL, isC, isB, isW4, inZ] at hf
    have b1 : 0 ≤ d ∧ d ≤ 7 ∧ s = 0 ∧ 0 ≤ i ∧ i ≤ 4294967295 := by omega
    obtain ⟨d1, d2, rfl, i1, i2⟩ := b1
    obtain ⟨f1, f2, f3, f4, f5⟩ := mr_f (r := 0) (m := d) (by omega) (by omega) (by omega) (by omega)
    have em : i % 4294967296 = i := by omega
    have rd := rd4 i rest
    rw [em] at rd
    have lb := leB_byte i 4
    have ll := leB_length i 4
    have es : sgB i 32 = if 2147483648 ≤ i then i - 4294967296 else i := rfl
    clear hf
    by_cases hs : -128 ≤ sgB i 32 ∧ sgB i 32 ≤ 127
    · have e : bodyI ⟨14, d, 0, 32, i⟩ = [131, mrB 0 d, i % 256] := by simp [bodyI, hs, digI]
      have eg : sg8 (i % 256) % 4294967296 = i := by unfold sg8; rw [es] at hs; split at hs <;> split <;> omega
      rw [e]
      generalize mrB 0 d = q at *
      have hi : 0 ≤ i % 256 ∧ i % 256 < 256 := by omega
      generalize i % 256 = j at *
      clear e es hs em
      simp only [List.cons_append, List.nil_append]
      have n0 := nm_1 (c := 131 :: q :: j :: rest) (n := 0) (show _ = some _ from rfl)
      have n1 := nm_1 (c := 131 :: q :: j :: rest) (n := 1) (show _ = some _ from rfl)
      have n2 := nm_1 (c := 131 :: q :: j :: rest) (n := 2) (show _ = some _ from rfl)
      refine ⟨?_, ?_, ?_, ?_⟩
      all_goals exact qIb6
    · have e : bodyI ⟨14, d, 0, 32, i⟩ = 129 :: mrB 0 d :: leB i 4 := by simp [bodyI, hs, digI]
      rw [e]
      generalize mrB 0 d = q at *
      clear e es hs
      simp only [List.cons_append, List.nil_append]
      have n0 := nm_1 (c := 129 :: q :: (leB i 4 ++ rest)) (n := 0) (show _ = some _ from rfl)
      have n1 := nm_1 (c := 129 :: q :: (leB i 4 ++ rest)) (n := 1) (show _ = some _ from rfl)
      have n4 : nmR (129 :: q :: (leB i 4 ++ rest)) 2 4 = i := by have := nm_k (c := 129 :: q :: (leB i 4 ++ rest)) (n := 2) (k := 4) (i := i) (r := rest) rfl (by simp [leB_length] <;> omega); rw [this]; omega
      clear em
      refine ⟨?_, ?_, ?_, ?_⟩
      all_goals exact qIb5
  · have ep : pwZ 16 = 65536 := rfl
    simp [fitI, fitJ, isR, isM, isL, isC, isB, isW4, inZ] at hf
    have b1 : 0 ≤ d ∧ d ≤ 7 ∧ s = 0 ∧ 0 ≤ i ∧ i ≤ 65535 := by omega
    obtain ⟨d1, d2, rfl, i1, i2⟩ := b1
    obtain ⟨f1, f2, f3, f4, f5⟩ := mr_f (r := 0) (m := d) (by omega) (by omega) (by omega) (by omega)
    have em : i % 65536 = i := by omega
    have rd := rd2 i rest
    rw [em] at rd
    have lb := leB_byte i 2
    have ll := leB_length i 2
    have es : sgB i 16 = if 32768 ≤ i then i - 65536 else i := rfl
    clear hf
    by_cases hs : -128 ≤ sgB i 16 ∧ sgB i 16 ≤ 127
    · have e : bodyI ⟨14, d, 0, 16, i⟩ = [131, mrB 0 d, i % 256] := by simp [bodyI, hs, digI]
      have eg : sg8 (i % 256) % 65536 = i := by unfold sg8; rw [es] at hs; split at hs <;> split <;> omega
      rw [e]
      generalize mrB 0 d = q at *
      have hi : 0 ≤ i % 256 ∧ i % 256 < 256 := by omega
      generalize i % 256 = j at *
      clear e es hs em
      simp only [List.cons_append, List.nil_append]
      have n0 := nm_1 (c := 131 :: q :: j :: rest) (n := 0) (show _ = some _ from rfl)
      have n1 := nm_1 (c := 131 :: q :: j :: rest) (n := 1) (show _ = some _ from rfl)
      have n2 := nm_1 (c := 131 :: q :: j :: rest) (n := 2) (show _ = some _ from rfl)
      refine ⟨?_, ?_, ?_, ?_⟩
      all_goals exact qIb6
    · have e : bodyI ⟨14, d, 0, 16, i⟩ = 129 :: mrB 0 d :: leB i 2 := by simp [bodyI, hs, digI]
      rw [e]
      generalize mrB 0 d = q at *
      clear e es hs
      simp only [List.cons_append, List.nil_append]
      have n0 := nm_1 (c := 129 :: q :: (leB i 2 ++ rest)) (n := 0) (show _ = some _ from rfl)
      have n1 := nm_1 (c := 129 :: q :: (leB i 2 ++ rest)) (n := 1) (show _ = some _ from rfl)
      have n4 : nmR (129 :: q :: (leB i 2 ++ rest)) 2 2 = i := by have := nm_k (c := 129 :: q :: (leB i 2 ++ rest)) (n := 2) (k := 2) (i := i) (r := rest) rfl (by simp [leB_length] <;> omega); rw [this]; omega
      clear em
      refine ⟨?_, ?_, ?_, ?_⟩
      all_goals exact qIb5
theorem gs_15 (d s z i : Int) (rest : List Int) (h : okI ⟨15, d, s, z, i⟩ = true) : RdOk ⟨15, d, s, z, i⟩ rest := by
  have hz := ok_sz h
  have hf := ok_fit h
  clear h
  simp [szI] at hz
  unfold RdOk
  rcases hz with rfl | rfl
  · have ep : pwZ 32 = 4294967296 := rfl
    simp [fitI, fitJ, isR, isM, isL, isC, isB, isW4, inZ] at hf
    have b1 : 0 ≤ d ∧ d ≤ 7 ∧ s = 0 ∧ 0 ≤ i ∧ i ≤ 4294967295 := by omega
    obtain ⟨d1, d2, rfl, i1, i2⟩ := b1
    obtain ⟨f1, f2, f3, f4, f5⟩ := mr_f (r := 1) (m := d) (by omega) (by omega) (by omega) (by omega)
    have em : i % 4294967296 = i := by omega
    have rd := rd4 i rest
    rw [em] at rd
    have lb := leB_byte i 4
    have ll := leB_length i 4
    have es : sgB i 32 = if 2147483648 ≤ i then i - 4294967296 else i := rfl
    clear hf
    by_cases hs : -128 ≤ sgB i 32 ∧ sgB i 32 ≤ 127
    · have e : bodyI ⟨15, d, 0, 32, i⟩ = [131, mrB 1 d, i % 256] := by simp [bodyI, hs, digI]
      have eg : sg8 (i % 256) % 4294967296 = i := by unfold sg8; rw [es] at hs; split at hs <;> split <;> omega
      rw [e]
      generalize mrB 1 d = q at *
      have hi : 0 ≤ i % 256 ∧ i % 256 < 256 := by omega
      generalize i % 256 = j at *
      clear e es hs em
      simp only [List.cons_append, List.nil_append]
      have n0 := nm_1 (c := 131 :: q :: j :: rest) (n := 0) (show _ = some _ from rfl)
      have n1 := nm_1 (c := 131 :: q :: j :: rest) (n := 1) (show _ = some _ from rfl)
      have n2 := nm_1 (c := 131 :: q :: j :: rest) (n := 2) (show _ = some _ from rfl)
      refine ⟨?_, ?_, ?_, ?_⟩
      all_goals exact qIb6
    · have e : bodyI ⟨15, d, 0, 32, i⟩ = 129 :: mrB 1 d :: leB i 4 := by simp [bodyI, hs, digI]
      rw [e]
      generalize mrB 1 d = q at *
      clear e es hs
      simp only [List.cons_append, List.nil_append]
      have n0 := nm_1 (c := 129 :: q :: (leB i 4 ++ rest)) (n := 0) (show _ = some _ from rfl)
      have n1 := nm_1 (c := 129 :: q :: (leB i 4 ++ rest)) (n := 1) (show _ = some _ from rfl)
      have n4 : nmR (129 :: q :: (leB i 4 ++ rest)) 2 4 = i := by have := nm_k (c := 129 :: q :: (leB i 4 ++ rest)) (n := 2) (k := 4) (i := i) (r := rest) rfl (by simp [leB_length] <;> omega); rw [this]; omega
      clear em
      refine ⟨?_, ?_, ?_, ?_⟩
      all_goals exact qIb5
  · have ep : pwZ 16 = 65536 := rfl
    simp [fitI, fitJ, isR, isM, isL, isC, isB, isW4, inZ] at hf
    have b1 : 0 ≤ d ∧ d ≤ 7 ∧ s = 0 ∧ 0 ≤ i ∧ i ≤ 65535 := by omega
    obtain ⟨d1, d2, rfl, i1, i2⟩ := b1
    obtain ⟨f1, f2, f3, f4, f5⟩ := mr_f (r := 1) (m := d) (by omega) (by omega) (by omega) (by omega)
    have em : i % 65536 = i := by omega
    have rd := rd2 i rest
    rw [em] at rd
    have lb := leB_byte i 2
    have ll := leB_length i 2
    have es : sgB i 16 = if 32768 ≤ i then i - 65536 else i := rfl
    clear hf
    by_cases hs : -128 ≤ sgB i 16 ∧ sgB i 16 ≤ 127
    · have e : bodyI ⟨15, d, 0, 16, i⟩ = [131, mrB 1 d, i % 256] := by simp [bodyI, hs, digI]
      have eg : sg8 (i % 256) % 65536 = i := by unfold sg8; rw [es] at hs; split at hs <;> split <;> omega
      rw [e]
      generalize mrB 1 d = q at *
      have hi : 0 ≤ i % 256 ∧ i % 256 < 256 := by omega
      generalize i % 256 = j at *
      clear e es hs em
      simp only [List.cons_append, List.nil_append]
      have n0 := nm_1 (c := 131 :: q :: j :: rest) (n := 0) (show _ = some _ from rfl)
      have n1 := nm_1 (c := 131 :: q :: j :: rest) (n := 1) (show _ = some _ from rfl)
      have n2 := nm_1 (c := 131 :: q :: j :: rest) (n := 2) (show _ = some _ from rfl)
      refine ⟨?_, ?_, ?_, ?_⟩
      all_goals exact qIb6
    · have e : bodyI ⟨15, d, 0, 16, i⟩ = 129 :: mrB 1 d :: leB i 2 := by simp [bodyI, hs, digI]
      rw [e]
      generalize mrB 1 d = q at *
      clear e es hs
      simp only [List.cons_append, List.nil_append]
      have n0 := nm_1 (c := 129 :: q :: (leB i 2 ++ rest)) (n := 0) (show _ = some _ from rfl)
      have n1 := nm_1 (c := 129 :: q :: (leB i 2 ++ rest)) (n := 1) (show _ = some _ from rfl)
      have n4 : nmR (129 :: q :: (leB i 2 ++ rest)) 2 2 = i := by have := nm_k (c := 129 :: q :: (leB i 2 ++ rest)) (n := 2) (k := 2) (i := i) (r := rest) rfl (by simp [leB_length] <;> omega); rw [this]; omega
      clear em
      refine ⟨?_, ?_, ?_, ?_⟩
      all_goals exact qIb5
theorem gs_16 (d s z i : Int) (rest : List Int) (h : okI ⟨16, d, s, z, i⟩ = true) : RdOk ⟨16, d, s, z, i⟩ rest := by
  have hz := ok_sz h
  have hf := ok_fit h
  clear h
  simp [szI] at hz
  unfold RdOk
  rcases hz with rfl | rfl
  · have ep : pwZ 32 = 4294967296 := rfl
    simp [fitI, fitJ, isR, isM, isL, isC, isB, isW4, inZ] at hf
    have b1 : 0 ≤ d ∧ d ≤ 7 ∧ s = 0 ∧ 0 ≤ i ∧ i ≤ 4294967295 := by omega
    obtain ⟨d1, d2, rfl, i1, i2⟩ := b1
    obtain ⟨f1, f2, f3, f4, f5⟩ := mr_f (r := 4) (m := d) (by omega) (by omega) (by omega) (by omega)
    have em : i % 4294967296 = i := by omega
    have rd := rd4 i rest
    rw [em] at rd
    have lb := leB_byte i 4
    have ll := leB_length i 4
    have es : sgB i 32 = if 2147483648 ≤ i then i - 4294967296 else i := rfl
    clear hf
    by_cases hs : -128 ≤ sgB i 32 ∧ sgB i 32 ≤ 127
    · have e : bodyI ⟨16, d, 0, 32, i⟩ = [131, mrB 4 d, i % 256] := by simp [bodyI, hs, digI]
      have eg : sg8 (i % 256) % 4294967296 = i := by unfold sg8; rw [es] at hs; split at hs <;> split <;> omega
      rw [e]
      generalize mrB 4 d = q at *
      have hi : 0 ≤ i % 256 ∧ i % 256 < 256 := by omega
      generalize i % 256 = j at *
      clear e es hs em
      simp only [List.cons_append, List.nil_append]
      have n0 := nm_1 (c := 131 :: q :: j :: rest) (n := 0) (show _ = some _ from rfl)
      have n1 := nm_1 (c := 131 :: q :: j :: rest) (n := 1) (show _ = some _ from rfl)
      have n2 := nm_1 (c := 131 :: q :: j :: rest) (n := 2) (show _ = some _ from rfl)
      refine ⟨?_, ?_, ?_, ?_⟩
      all_goals exact qIb6
    · have e : bodyI ⟨16, d, 0, 32, i⟩ = 129 :: mrB 4 d :: leB i 4 := by simp [bodyI, hs, digI]
      rw [e]
      generalize mrB 4 d = q at *
      clear e es hs
      simp only [List.cons_append, List.nil_append]
      have n0 := nm_1 (c := 129 :: q :: (leB i 4 ++ rest)) (n := 0) (show _ = some _ from rfl)
      have n1 := nm_1 (c := 129 :: q :: (leB i 4 ++ rest)) (n := 1) (show _ = some _ from rfl)
      have n4 : nmR (129 :: q :: (leB i 4 ++ rest)) 2 4 = i := by have := nm_k (c := 129 :: q :: (leB i 4 ++ rest)) (n := 2) (k := 4) (i := i) (r := rest) rfl (by simp [leB_length] <;> omega); rw [this]; omega
      clear em
      refine ⟨?_, ?_, ?_, ?_⟩
      all_goals exact qIb5
  · have ep : pwZ 16 = 65536 := rfl
    simp [fitI, fitJ, isR, isM, isL, isC, isB, isW4, inZ] at hf
    have b1 : 0 ≤ d ∧ d ≤ 7 ∧ s = 0 ∧ 0 ≤ i ∧ i ≤ 65535 := by omega
    obtain ⟨d1, d2, rfl, i1, i2⟩ := b1
    obtain ⟨f1, f2, f3, f4, f5⟩ := mr_f (r := 4) (m := d) (by omega) (by omega) (by omega) (by omega)
    have em : i % 65536 = i := by omega
    have rd := rd2 i rest
    rw [em] at rd
    have lb := leB_byte i 2
    have ll := leB_length i 2
    have es : sgB i 16 = if 32768 ≤ i then i - 65536 else i := rfl
    clear hf
    by_cases hs : -128 ≤ sgB i 16 ∧ sgB i 16 ≤ 127
    · have e : bodyI ⟨16, d, 0, 16, i⟩ = [131, mrB 4 d, i % 256] := by simp [bodyI, hs, digI]
      have eg : sg8 (i % 256) % 65536 = i := by unfold sg8; rw [es] at hs; split at hs <;> split <;> omega
      rw [e]
      generalize mrB 4 d = q at *
      have hi : 0 ≤ i % 256 ∧ i % 256 < 256 := by omega
      generalize i % 256 = j at *
      clear e es hs em
      simp only [List.cons_append, List.nil_append]
      have n0 := nm_1 (c := 131 :: q :: j :: rest) (n := 0) (show _ = some _ from rfl)
      have n1 := nm_1 (c := 131 :: q :: j :: rest) (n := 1) (show _ = some _ from rfl)
      have n2 := nm_1 (c := 131 :: q :: j :: rest) (n := 2) (show _ = some _ from rfl)
      refine ⟨?_, ?_, ?_, ?_⟩
      all_goals exact qIb6
    · have e : bodyI ⟨16, d, 0, 16, i⟩ = 129 :: mrB 4 d :: leB i 2 := by simp [bodyI, hs, digI]
      rw [e]
      generalize mrB 4 d = q at *
      clear e es hs
      simp only [List.cons_append, List.nil_append]
      have n0 := nm_1 (c := 129 :: q :: (leB i 2 ++ rest)) (n := 0) (show _ = some _ from rfl)
      have n1 := nm_1 (c := 129 :: q :: (leB i 2 ++ rest)) (n := 1) (show _ = some _ from rfl)
      have n4 : nmR (129 :: q :: (leB i 2 ++ rest)) 2 2 = i := by have := nm_k (c := 129 :: q :: (leB i 2 ++ rest)) (n := 2) (k := 2) (i := i) (r := rest) rfl (by simp [leB_length] <;> omega); rw [this]; omega
      clear em
      refine ⟨?_, ?_, ?_, ?_⟩
      all_goals exact qIb5
theorem gs_17 (d s z i : Int) (rest : List Int) (h : okI ⟨17, d, s, z, i⟩ = true) : RdOk ⟨17, d, s, z, i⟩ rest := by
  have hz := ok_sz h
  have hf := ok_fit h
  clear h
  simp [szI] at hz
  unfold RdOk
  rcases hz with rfl | rfl
  · have ep : pwZ 32 = 4294967296 := rfl
    simp [fitI, fitJ, isR, isM, isL, isC, isB, isW4, inZ] at hf
    have b1 : 0 ≤ d ∧ d ≤ 7 ∧ s = 0 ∧ 0 ≤ i ∧ i ≤ 4294967295 := by omega
    obtain ⟨d1, d2, rfl, i1, i2⟩ := b1
    obtain ⟨f1, f2, f3, f4, f5⟩ := mr_f (r := 5) (m := d) (by omega) (by omega) (by omega) (by omega)
    have em : i % 4294967296 = i := by omega
    have rd := rd4 i rest
    rw [em] at rd
    have lb := leB_byte i 4
    have ll := leB_length i 4
    have es : sgB i 32 = if 2147483648 ≤ i then i - 4294967296 else i := rfl
    clear hf
    by_cases hs : -128 ≤ sgB i 32 ∧ sgB i 32 ≤ 127
    · have e : bodyI ⟨17, d, 0, 32, i⟩ = [131, mrB 5 d, i % 256] := by simp [bodyI, hs, digI]
      have eg : sg8 (i % 256) % 4294967296 = i := by unfold sg8; rw [es] at hs; split at hs <;> split <;> omega
      rw [e]
      generalize mrB 5 d = q at *
      have hi : 0 ≤ i % 256 ∧ i % 256 < 256 := by omega
      generalize i % 256 = j at *
      clear e es hs em
      simp only [List.cons_append, List.nil_append]
      have n0 := nm_1 (c := 131 :: q :: j :: rest) (n := 0) (show _ = some _ from rfl)
      have n1 := nm_1 (c := 131 :: q :: j :: rest) (n := 1) (show _ = some _ from rfl)
      have n2 := nm_1 (c := 131 :: q :: j :: rest) (n := 2) (show _ = some _ from rfl)
      refine ⟨?_, ?_, ?_, ?_⟩
      all_goals exact qIb6
    · have e : bodyI ⟨17, d, 0, 32, i⟩ = 129 :: mrB 5 d :: leB i 4 := by simp [bodyI, hs, digI]
      rw [e]
      generalize mrB 5 d = q at *
      clear e es hs
      simp only [List.cons_append, List.nil_append]
      have n0 := nm_1 (c := 129 :: q :: (leB i 4 ++ rest)) (n := 0) (show _ = some _ from rfl)
      have n1 := nm_1 (c := 129 :: q :: (leB i 4 ++ rest)) (n := 1) (show _ = some _ from rfl)
      have n4 : nmR (129 :: q :: (leB i 4 ++ rest)) 2 4 = i := by have := nm_k (c := 129 :: q :: (leB i 4 ++ rest)) (n := 2) (k := 4) (i := i) (r := rest) rfl (by simp [leB_length] <;> omega); rw [this]; omega
      clear em
      refine ⟨?_, ?_, ?_, ?_⟩
      all_goals exact qIb5
  · have ep : pwZ 16 = 65536 := rfl
    simp [fitI, fitJ, isR, isM, isL, isC, isB, isW4, inZ] at hf
    have b1 : 0 ≤ d ∧ d ≤ 7 ∧ s = 0 ∧ 0 ≤ i ∧ i ≤ 65535 := by omega
    obtain ⟨d1, d2, rfl, i1, i2⟩ := b1
    obtain ⟨f1, f2, f3, f4, f5⟩ := mr_f (r := 5) (m := d) (by omega) (by omega) (by omega) (by omega)
    have em : i % 65536 = i := by omega
    have rd := rd2 i rest
    rw [em] at rd
    have lb := leB_byte i 2
    have ll := leB_length i 2
    have es : sgB i 16 = if 32768 ≤ i then i - 65536 else i := rfl
    clear hf
    by_cases hs : -128 ≤ sgB i 16 ∧ sgB i 16 ≤ 127
    · have e : bodyI ⟨17, d, 0, 16, i⟩ = [131, mrB 5 d, i % 256] := by simp [bodyI, hs, digI]
      have eg : sg8 (i % 256) % 65536 = i := by unfold sg8; rw [es] at hs; split at hs <;> split <;> omega
      rw [e]
      generalize mrB 5 d = q at *
      have hi : 0 ≤ i % 256 ∧ i % 256 < 256 := by omega
      generalize i % 256 = j at *
      clear e es hs em
      simp only [List.cons_append, List.nil_append]
      have n0 := nm_1 (c := 131 :: q :: j :: rest) (n := 0) (show _ = some _ from rfl)
      have n1 := nm_1 (c := 131 :: q :: j :: rest) (n := 1) (show _ = some _ from rfl)
      have n2 := nm_1 (c := 131 :: q :: j :: rest) (n := 2) (show _ = some _ from rfl)
      refine ⟨?_, ?_, ?_, ?_⟩
      all_goals exact qIb6
    · have e : bodyI ⟨17, d, 0, 16, i⟩ = 129 :: mrB 5 d :: leB i 2 := by simp [bodyI, hs, digI]
      rw [e]
      generalize mrB 5 d = q at *
      clear e es hs
      simp only [List.cons_append, List.nil_append]
      have n0 := nm_1 (c := 129 :: q :: (leB i 2 ++ rest)) (n := 0) (show _ = some _ from rfl)
      have n1 := nm_1 (c := 129 :: q :: (leB i 2 ++ rest)) (n := 1) (show _ = some _ from rfl)
      have n4 : nmR (129 :: q :: (leB i 2 ++ rest)) 2 2 = i := by have := nm_k (c := 129 :: q :: (leB i 2 ++ rest)) (n := 2) (k := 2) (i := i) (r := rest) rfl (by simp [leB_length] <;> omega); rw [this]; omega
      clear em
      refine ⟨?_, ?_, ?_, ?_⟩
      all_goals exact qIb5
theorem gs_18 (d s z i : Int) (rest : List Int) (h : okI ⟨18, d, s, z, i⟩ = true) : RdOk ⟨18, d, s, z, i⟩ rest := by
  have hz := ok_sz h
  have hf := ok_fit h
  clear h
  simp [szI] at hz
  unfold RdOk
  rcases hz with rfl | rfl
  · have ep : pwZ 32 = 4294967296 := rfl
    simp [fitI, fitJ, isR, isM, isL, isC, isB, isW4, inZ] at hf
    have b1 : 0 ≤ d ∧ d ≤ 7 ∧ s = 0 ∧ 0 ≤ i ∧ i ≤ 4294967295 := by omega
    obtain ⟨d1, d2, rfl, i1, i2⟩ := b1
    obtain ⟨f1, f2, f3, f4, f5⟩ := mr_f (r := 6) (m := d) (by omega) (by omega) (by omega) (by omega)
    have em : i % 4294967296 = i := by omega
    have rd := rd4 i rest
    rw [em] at rd
    have lb := leB_byte i 4
    have ll := leB_length i 4
    have es : sgB i 32 = if 2147483648 ≤ i then i - 4294967296 else i := rfl
    clear hf
    by_cases hs : -128 ≤ sgB i 32 ∧ sgB i 32 ≤ 127
    · have e : bodyI ⟨18, d, 0, 32, i⟩ = [131, mrB 6 d, i % 256] := by simp [bodyI, hs, digI]
      have eg : sg8 (i % 256) % 4294967296 = i := by unfold sg8; rw [es] at hs; split at hs <;> split <;> omega
      rw [e]
      generalize mrB 6 d = q at *
      have hi : 0 ≤ i % 256 ∧ i % 256 < 256 := by omega
      generalize i % 256 = j at *
      clear e es hs em
      simp only [List.cons_append, List.nil_append]
      have n0 := nm_1 (c := 131 :: q :: j :: rest) (n := 0) (show _ = some _ from rfl)
      have n1 := nm_1 (c := 131 :: q :: j :: rest) (n := 1) (show _ = some _ from rfl)
      have n2 := nm_1 (c := 131 :: q :: j :: rest) (n := 2) (show _ = some _ from rfl)
      refine ⟨?_, ?_, ?_, ?_⟩
      all_goals exact qIb6
    · have e : bodyI ⟨18, d, 0, 32, i⟩ = 129 :: mrB 6 d :: leB i 4 := by simp [bodyI, hs, digI]
      rw [e]
      generalize mrB 6 d = q at *
      clear e es hs
      simp only [List.cons_append, List.nil_append]
      have n0 := nm_1 (c := 129 :: q :: (leB i 4 ++ rest)) (n := 0) (show _ = some _ from rfl)
      have n1 := nm_1 (c := 129 :: q :: (leB i 4 ++ rest)) (n := 1) (show _ = some _ from rfl)
      have n4 : nmR (129 :: q :: (leB i 4 ++ rest)) 2 4 = i := by have := nm_k (c := 129 :: q :: (leB i 4 ++ rest)) (n := 2) (k := 4) (i := i) (r := rest) rfl (by simp [leB_length] <;> omega); rw [this]; omega
      clear em
      refine ⟨?_, ?_, ?_, ?_⟩
      all_goals exact qIb5
  · have ep : pwZ 16 = 65536 := rfl
    simp [fitI, fitJ, isR, isM, isL, isC, isB, isW4, inZ] at hf
    have b1 : 0 ≤ d ∧ d ≤ 7 ∧ s = 0 ∧ 0 ≤ i ∧ i ≤ 65535 := by omega
    obtain ⟨d1, d2, rfl, i1, i2⟩ := b1
    obtain ⟨f1, f2, f3, f4, f5⟩ := mr_f (r := 6) (m := d) (by omega) (by omega) (by omega) (by omega)
    have em : i % 65536 = i := by omega
    have rd := rd2 i rest
    rw [em] at rd
    have lb := leB_byte i 2
    have ll := leB_length i 2
    have es : sgB i 16 = if 32768 ≤ i then i - 65536 else i := rfl
    clear hf
    by_cases hs : -128 ≤ sgB i 16 ∧ sgB i 16 ≤ 127
    · have e : bodyI ⟨18, d, 0, 16, i⟩ = [131, mrB 6 d, i % 256] := by simp [bodyI, hs, digI]
      have eg : sg8 (i % 256) % 65536 = i := by unfold sg8; rw [es] at hs; split at hs <;> split <;> omega
      rw [e]
      generalize mrB 6 d = q at *
      have hi : 0 ≤ i % 256 ∧ i % 256 < 256 := by omega
      generalize i % 256 = j at *
      clear e es hs em
      simp only [List.cons_append, List.nil_append]
      have n0 := nm_1 (c := 131 :: q :: j :: rest) (n := 0) (show _ = some _ from rfl)
      have n1 := nm_1 (c := 131 :: q :: j :: rest) (n := 1) (show _ = some _ from rfl)
      have n2 := nm_1 (c := 131 :: q :: j :: rest) (n := 2) (show _ = some _ from rfl)
      refine ⟨?_, ?_, ?_, ?_⟩
      all_goals exact qIb6
    · have e : bodyI ⟨18, d, 0, 16, i⟩ = 129 :: mrB 6 d :: leB i 2 := by simp [bodyI, hs, digI]
      rw [e]
      generalize mrB 6 d = q at *
      clear e es hs
      simp only [List.cons_append, List.nil_append]
      have n0 := nm_1 (c := 129 :: q :: (leB i 2 ++ rest)) (n := 0) (show _ = some _ from rfl)
      have n1 := nm_1 (c := 129 :: q :: (leB i 2 ++ rest)) (n := 1) (show _ = some _ from rfl)
      have n4 : nmR (129 :: q :: (leB i 2 ++ rest)) 2 2 = i := by have := nm_k (c := 129 :: q :: (leB i 2 ++ rest)) (n := 2) (k := 2) (i := i) (r := rest) rfl (by simp [leB_length] <;> omega); rw [this]; omega
      clear em
      refine ⟨?_, ?_, ?_, ?_⟩
      all_goals exact qIb5
theorem gs_19 (d s z i : Int) (rest : List Int) (h : okI ⟨19, d, s, z, i⟩ = true) : RdOk ⟨19, d, s, z, i⟩ rest := by
  have hz := ok_sz h
  have hf := ok_fit h
  clear h
  simp [szI] at hz
  unfold RdOk
  rcases hz with rfl | rfl
  · have ep : pwZ 32 = 4294967296 := rfl
    simp [fitI, fitJ, isR, isM, isL, isC, isB, isW4, inZ] at hf
    have b1 : 0 ≤ d ∧ d ≤ 7 ∧ s = 0 ∧ 0 ≤ i ∧ i ≤ 4294967295 := by omega
    obtain ⟨d1, d2, rfl, i1, i2⟩ := b1
    obtain ⟨f1, f2, f3, f4, f5⟩ := mr_f (r := 7) (m := d) (by omega) (by omega) (by omega) (by omega)
    have em : i % 4294967296 = i := by omega
    have rd := rd4 i rest
    rw [em] at rd
    have lb := leB_byte i 4
    have ll := leB_length i 4
    have es : sgB i 32 = if 2147483648 ≤ i then i - 4294967296 else i := rfl
    clear hf
    by_cases hs : -128 ≤ sgB i 32 ∧ sgB i 32 ≤ 127
    · have e : bodyI ⟨19, d, 0, 32, i⟩ = [131, mrB 7 d, i % 256] := by simp [bodyI, hs, digI]
      have eg : sg8 (i % 256) % 4294967296 = i := by unfold sg8; rw [es] at hs; split at hs <;> split <;> omega
      rw [e]
      generalize mrB 7 d = q at *
      have hi : 0 ≤ i % 256 ∧ i % 256 < 256 := by omega
      generalize i % 256 = j at *
      clear e es hs em
      simp only [List.cons_append, List.nil_append]
      have n0 := nm_1 (c := 131 :: q :: j :: rest) (n := 0) (show _ = some _ from rfl)
      have n1 := nm_1 (c := 131 :: q :: j :: rest) (n := 1) (show _ = some _ from rfl)
      have n2 := nm_1 (c := 131 :: q :: j :: rest) (n := 2) (show _ = some _ from rfl)
      refine ⟨?_, ?_, ?_, ?_⟩
      all_goals exact qIb6
    · have e : bodyI ⟨19, d, 0, 32, i⟩ = 129 :: mrB 7 d :: leB i 4 := by simp [bodyI, hs, digI]
      rw [e]
      generalize mrB 7 d = q at *
      clear e es hs
      simp only [List.cons_append, List.nil_append]
      have n0 := nm_1 (c := 129 :: q :: (leB i 4 ++ rest)) (n := 0) (show _ = some _ from rfl)
      have n1 := nm_1 (c := 129 :: q :: (leB i 4 ++ rest)) (n := 1) (show _ = some _ from rfl)
      have n4 : nmR (129 :: q :: (leB i 4 ++ rest)) 2 4 = i := by have := nm_k (c := 129 :: q :: (leB i 4 ++ rest)) (n := 2) (k := 4) (i := i) (r := rest) rfl (by simp [leB_length] <;> omega); rw [this]; omega
      clear em
      refine ⟨?_, ?_, ?_, ?_⟩
      all_goals exact qIb5
  · have ep : pwZ 16 = 65536 := rfl
    simp [fitI, fitJ, isR, isM, isL, isC, isB, isW4, inZ] at hf
    have b1 : 0 ≤ d ∧ d ≤ 7 ∧ s = 0 ∧ 0 ≤ i ∧ i ≤ 65535 := by omega
    obtain ⟨d1, d2, rfl, i1, i2⟩ := b1
    obtain ⟨f1, f2, f3, f4, f5⟩ := mr_f (r := 7) (m := d) (by omega) (by omega) (by omega) (by omega)
    have em : i % 65536 = i := by omega
    have rd := rd2 i rest
    rw [em] at rd
    have lb := leB_byte i 2
    have ll := leB_length i 2
    have es : sgB i 16 = if 32768 ≤ i then i - 65536 else i := rfl
    clear hf
    by_cases hs : -128 ≤ sgB i 16 ∧ sgB i 16 ≤ 127
    · have e : bodyI ⟨19, d, 0, 16, i⟩ = [131, mrB 7 d, i % 256] := by simp [bodyI, hs, digI]
      have eg : sg8 (i % 256) % 65536 = i := by unfold sg8; rw [es] at hs; split at hs <;> split <;> omega
      rw [e]
      generalize mrB 7 d = q at *
      have hi : 0 ≤ i % 256 ∧ i % 256 < 256 := by omega
      generalize i % 256 = j at *
      clear e es hs em
      simp only [List.cons_append, List.nil_append]
      have n0 := nm_1 (c := 131 :: q :: j :: rest) (n := 0) (show _ = some _ from rfl)
      have n1 := nm_1 (c := 131 :: q :: j :: rest) (n := 1) (show _ = some _ from rfl)
      have n2 := nm_1 (c := 131 :: q :: j :: rest) (n := 2) (show _ = some _ from rfl)
      refine ⟨?_, ?_, ?_, ?_⟩
      all_goals exact qIb6
    · have e : bodyI ⟨19, d, 0, 16, i⟩ = 129 :: mrB 7 d :: leB i 2 := by simp [bodyI, hs, digI]
      rw [e]
      generalize mrB 7 d = q at *
      clear e es hs
      simp only [List.cons_append, List.nil_append]
      have n0 := nm_1 (c := 129 :: q :: (leB i 2 ++ rest)) (n := 0) (show _ = some _ from rfl)
      have n1 := nm_1 (c := 129 :: q :: (leB i 2 ++ rest)) (n := 1) (show _ = some _ from rfl)
      have n4 : nmR (129 :: q :: (leB i 2 ++ rest)) 2 2 = i := by have := nm_k (c := 129 :: q :: (leB i 2 ++ rest)) (n := 2) (k := 2) (i := i) (r := rest) rfl (by simp [leB_length] <;> omega); rw [this]; omega
      clear em
      refine ⟨?_, ?_, ?_, ?_⟩
      all_goals exact qIb5
theorem gs_20 (d s z i : Int) (rest : List Int) (h : okI ⟨20, d, s, z, i⟩ = true) : RdOk ⟨20, d, s, z, i⟩ rest := by
  have hz := ok_sz h
  have hf := ok_fit h
  clear h
  simp [szI] at hz
  simp [fitI, fitJ, isR, isM, isL, isC, isB, isW4, inZ, pwZ] at hf
  unfold RdOk
  have b1 : 0 ≤ d ∧ d ≤ 7 ∧ 0 ≤ s ∧ s ≤ 7 ∧ i = 0 := by omega
  obtain ⟨d1, d2, s1, s2, rfl⟩ := b1
  obtain ⟨f1, f2, f3, f4, f5⟩ := mr_f (r := d) (m := s) (by omega) (by omega) (by omega) (by omega)
  have e : ∀ z, bodyI ⟨20, d, s, z, 0⟩ = [15, 175, mrB d s] := fun _ => rfl
  rw [e]
  generalize mrB d s = q at *
  clear e hf
  simp only [List.cons_append, List.nil_append]
  have n0 := nm_1 (c := 15 :: 175 :: q :: rest) (n := 0) (show _ = some _ from rfl)
  have n1 := nm_1 (c := 15 :: 175 :: q :: rest) (n := 1) (show _ = some _ from rfl)
  have n2 := nm_1 (c := 15 :: 175 :: q :: rest) (n := 2) (show _ = some _ from rfl)
  subst hz
  refine ⟨?_, ?_, ?_, ?_⟩
  all_goals exact qIb0
theorem gs_21 (d s z i : Int) (rest : List Int) (h : okI ⟨21, d, s, z, i⟩ = true) : RdOk ⟨21, d, s, z, i⟩ rest := by
  have hz := ok_sz h
  have hf := ok_fit h
  clear h
  simp [szI] at hz
  simp [fitI, fitJ, isR, isM, isL, isC, isB, isW4, inZ, pwZ] at hf
  unfold RdOk
  have b1 : 0 ≤ d ∧ d ≤ 7 ∧ 0 ≤ s ∧ s ≤ 7 ∧ i = 0 ∧ s = 0 := by omega
  obtain ⟨d1, d2, s1, s2, rfl, rfl⟩ := b1
  obtain ⟨f1, f2, f3, f4, f5⟩ := mr_f (r := 4) (m := d) (by omega) (by omega) (by omega) (by omega)
  have e : ∀ z, bodyI ⟨21, d, 0, z, 0⟩ = [211, mrB 4 d] := fun _ => rfl
  rw [e]
  generalize mrB 4 d = q at *
  clear e hf
  simp only [List.cons_append, List.nil_append]
  have n0 := nm_1 (c := 211 :: q :: rest) (n := 0) (show _ = some _ from rfl)
  have n1 := nm_1 (c := 211 :: q :: rest) (n := 1) (show _ = some _ from rfl)
  rcases hz with rfl | rfl
  all_goals refine ⟨?_, ?_, ?_, ?_⟩
  all_goals exact qIb1
theorem gs_22 (d s z i : Int) (rest : List Int) (h : okI ⟨22, d, s, z, i⟩ = true) : RdOk ⟨22, d, s, z, i⟩ rest := by
  have hz := ok_sz h
  have hf := ok_fit h
  clear h
  simp [szI] at hz
  simp [fitI, fitJ, isR, isM, isL, isC, isB, isW4, inZ, pwZ] at hf
  unfold RdOk
  have b1 : 0 ≤ d ∧ d ≤ 7 ∧ 0 ≤ s ∧ s ≤ 7 ∧ i = 0 ∧ s = 0 := by omega
  obtain ⟨d1, d2, s1, s2, rfl, rfl⟩ := b1
  obtain ⟨f1, f2, f3, f4, f5⟩ := mr_f (r := 5) (m := d) (by omega) (by omega) (by omega) (by omega)
  have e : ∀ z, bodyI ⟨22, d, 0, z, 0⟩ = [211, mrB 5 d] := fun _ => rfl
  rw [e]
  generalize mrB 5 d = q at *
  clear e hf
  simp only [List.cons_append, List.nil_append]
  have n0 := nm_1 (c := 211 :: q :: rest) (n := 0) (show _ = some _ from rfl)
  have n1 := nm_1 (c := 211 :: q :: rest) (n := 1) (show _ = some _ from rfl)
  rcases hz with rfl | rfl
  all_goals refine ⟨?_, ?_, ?_, ?_⟩
  all_goals exact qIb1
theorem gs_23 (d s z i : Int) (rest : List Int) (h : okI ⟨23, d, s, z, i⟩ = true) : RdOk ⟨23, d, s, z, i⟩ rest := by
  have hz := ok_sz h
  have hf := ok_fit h
  clear h
  simp [szI] at hz
  simp [fitI, fitJ, isR, isM, isL, isC, isB, isW4, inZ, pwZ] at hf
  unfold RdOk
  have b1 : 0 ≤ d ∧ d ≤ 7 ∧ 0 ≤ s ∧ s ≤ 7 ∧ i = 0 ∧ s = 0 := by omega
  obtain ⟨d1, d2, s1, s2, rfl, rfl⟩ := b1
  obtain ⟨f1, f2, f3, f4, f5⟩ := mr_f (r := 7) (m := d) (by omega) (by omega) (by omega) (by omega)
  have e : ∀ z, bodyI ⟨23, d, 0, z, 0⟩ = [211, mrB 7 d] := fun _ => rfl
  rw [e]
  generalize mrB 7 d = q at *
  clear e hf
  simp only [List.cons_append, List.nil_append]
  have n0 := nm_1 (c := 211 :: q :: rest) (n := 0) (show _ = some _ from rfl)
  have n1 := nm_1 (c := 211 :: q :: rest) (n := 1) (show _ = some _ from rfl)
  rcases hz with rfl | rfl
  all_goals refine ⟨?_, ?_, ?_, ?_⟩
  all_goals exact qIb1
theorem gs_24 (d s z i : Int) (rest : List Int) (h : okI ⟨24, d, s, z, i⟩ = true) : RdOk ⟨24, d, s, z, i⟩ rest := by
  have hz := ok_sz h
  have hf := ok_fit h
  clear h
  simp [szI] at hz
  simp [fitI, fitJ, isR, isM, isL, isC, isB, isW4, inZ, pwZ] at hf
  unfold RdOk
  have b1 : 0 ≤ d ∧ d ≤ 7 ∧ 0 ≤ s ∧ s ≤ 7 ∧ i = 0 ∧ s = 0 := by omega
  obtain ⟨d1, d2, s1, s2, rfl, rfl⟩ := b1
  obtain ⟨f1, f2, f3, f4, f5⟩ := mr_f (r := 2) (m := d) (by omega) (by omega) (by omega) (by omega)
  have e : ∀ z, bodyI ⟨24, d, 0, z, 0⟩ = [247, mrB 2 d] := fun _ => rfl
  rw [e]
  generalize mrB 2 d = q at *
  clear e hf
  simp only [List.cons_append, List.nil_append]
  have n0 := nm_1 (c := 247 :: q :: rest) (n := 0) (show _ = some _ from rfl)
  have n1 := nm_1 (c := 247 :: q :: rest) (n := 1) (show _ = some _ from rfl)
  rcases hz with rfl | rfl
  all_goals refine ⟨?_, ?_, ?_, ?_⟩
  all_goals exact qIb1
theorem gs_25 (d s z i : Int) (rest : List Int) (h : okI ⟨25, d, s, z, i⟩ = true) : RdOk ⟨25, d, s, z, i⟩ rest := by
  have hz := ok_sz h
  have hf := ok_fit h
  clear h
  simp [szI] at hz
  simp [fitI, fitJ, isR, isM, isL, isC, isB, isW4, inZ, pwZ] at hf
  unfold RdOk
  have b1 : 0 ≤ d ∧ d ≤ 7 ∧ 0 ≤ s ∧ s ≤ 7 ∧ i = 0 ∧ s = 0 := by omega
  obtain ⟨d1, d2, s1, s2, rfl, rfl⟩ := b1
  obtain ⟨f1, f2, f3, f4, f5⟩ := mr_f (r := 3) (m := d) (by omega) (by omega) (by omega) (by omega)
  have e : ∀ z, bodyI ⟨25, d, 0, z, 0⟩ = [247, mrB 3 d] := fun _ => rfl
  rw [e]
  generalize mrB 3 d = q at *
  clear e hf
  simp only [List.cons_append, List.nil_append]
  have n0 := nm_1 (c := 247 :: q :: rest) (n := 0) (show _ = some _ from rfl)
  have n1 := nm_1 (c := 247 :: q :: rest) (n := 1) (show _ = some _ from rfl)
  rcases hz with rfl | rfl
  all_goals refine ⟨?_, ?_, ?_, ?_⟩
  all_goals exact qIb1
theorem gs_26 (d s z i : Int) (rest : List Int) (h : okI ⟨26, d, s, z, i⟩ = true) : RdOk ⟨26, d, s, z, i⟩ rest := by
  have hz := ok_sz h
  have hf := ok_fit h
  clear h
  simp [szI] at hz
  simp [fitI, fitJ, isR, isM, isL, isC, isB, isW4, inZ, pwZ] at hf
  unfold RdOk
  have b1 : 0 ≤ d ∧ d ≤ 7 ∧ 0 ≤ s ∧ s ≤ 7 ∧ i = 0 ∧ s = 0 := by omega
  obtain ⟨d1, d2, s1, s2, rfl, rfl⟩ := b1
  obtain ⟨f1, f2, f3, f4, f5⟩ := mr_f (r := 6) (m := d) (by omega) (by omega) (by omega) (by omega)
  have e : ∀ z, bodyI ⟨26, d, 0, z, 0⟩ = [247, mrB 6 d] := fun _ => rfl
  rw [e]
  generalize mrB 6 d = q at *
  clear e hf
  simp only [List.cons_append, List.nil_append]
  have n0 := nm_1 (c := 247 :: q :: rest) (n := 0) (show _ = some _ from rfl)
  have n1 := nm_1 (c := 247 :: q :: rest) (n := 1) (show _ = some _ from rfl)
  subst hz
  refine ⟨?_, ?_, ?_, ?_⟩
  all_goals exact qIb1
theorem gs_27 (d s z i : Int) (rest : List Int) (h : okI ⟨27, d, s, z, i⟩ = true) : RdOk ⟨27, d, s, z, i⟩ rest := by
  have hz := ok_sz h
  have hf := ok_fit h
  clear h
  simp [szI] at hz
  simp [fitI, fitJ, isR, isM, isL, isC, isB, isW4, inZ, pwZ] at hf
  unfold RdOk
  have b1 : 0 ≤ d ∧ d ≤ 7 ∧ 0 ≤ s ∧ s ≤ 7 ∧ i = 0 ∧ s = 0 := by omega
  obtain ⟨d1, d2, s1, s2, rfl, rfl⟩ := b1
  obtain ⟨f1, f2, f3, f4, f5⟩ := mr_f (r := 7) (m := d) (by omega) (by omega) (by omega) (by omega)
  have e : ∀ z, bodyI ⟨27, d, 0, z, 0⟩ = [247, mrB 7 d] := fun _ => rfl
  rw [e]
  generalize mrB 7 d = q at *
  clear e hf
  simp only [List.cons_append, List.nil_append]
  have n0 := nm_1 (c := 247 :: q :: rest) (n := 0) (show _ = some _ from rfl)
  have n1 := nm_1 (c := 247 :: q :: rest) (n := 1) (show _ = some _ from rfl)
  subst hz
  refine ⟨?_, ?_, ?_, ?_⟩
  all_goals exact qIb1
theorem gs_28 (d s z i : Int) (rest : List Int) (h : okI ⟨28, d, s, z, i⟩ = true) : RdOk ⟨28, d, s, z, i⟩ rest := by
  have hz := ok_sz h
  have hf := ok_fit h
  clear h
  simp [szI] at hz
  unfold RdOk
  subst hz
  simp [fitI, fitJ, isR, isM, isL, isC, isB, isW4, inZ, pwZ] at hf
  obtain ⟨rfl, rfl, rfl⟩ : d = 0 ∧ s = 0 ∧ i = 0 := by omega
  have e : bodyI ⟨28, 0, 0, 32, 0⟩ = [153] := rfl
  rw [e]
  clear e hf
  simp only [List.cons_append, List.nil_append]
  have n0 := nm_1 (c := 153 :: rest) (n := 0) (show _ = some _ from rfl)
  refine ⟨?_, ?_, ?_, ?_⟩
  all_goals exact qIb9
theorem gs_29 (d s z i : Int) (rest : List Int) (h : okI ⟨29, d, s, z, i⟩ = true) : RdOk ⟨29, d, s, z, i⟩ rest := by
  have hz := ok_sz h
  have hf := ok_fit h
  clear h
  simp [szI] at hz
  unfold RdOk
  subst hz
  simp [fitI, fitJ, isR, isM, isL, isC, isB, isW4, inZ, pwZ] at hf
  have b1 : 0 ≤ d ∧ d ≤ 7 ∧ i = 0 ∧ (s = 0 ∨ s = 1 ∨ s = 2 ∨ s = 3 ∨ s = 4 ∨ s = 5 ∨ s = 6 ∨ s = 7 ∨ s = 8 ∨ s = 9 ∨ s = 12 ∨ s = 13 ∨ s = 14 ∨ s = 15) := by omega
  obtain ⟨d1, d2, rfl, hc⟩ := b1
  obtain ⟨f1, f2, f3, f4, f5⟩ := mr_f (r := 0) (m := d) (by omega) (by omega) (by omega) (by omega)
  clear hf
  rcases hc with rfl | rfl | rfl | rfl | rfl | rfl | rfl | rfl | rfl | rfl | rfl | rfl | rfl | rfl
  · have e : bodyI ⟨29, d, 0, 32, 0⟩ = [15, 144, mrB 0 d] := rfl
    rw [e]
    generalize mrB 0 d = q at *
    clear e
    simp only [List.cons_append, List.nil_append]
    have n0 := nm_1 (c := 15 :: 144 :: q :: rest) (n := 0) (show _ = some _ from rfl)
    have n1 := nm_1 (c := 15 :: 144 :: q :: rest) (n := 1) (show _ = some _ from rfl)
    have n2 := nm_1 (c := 15 :: 144 :: q :: rest) (n := 2) (show _ = some _ from rfl)
    refine ⟨?_, ?_, ?_, ?_⟩
    all_goals exact qIb0
  · have e : bodyI ⟨29, d, 1, 32, 0⟩ = [15, 145, mrB 0 d] := rfl
    rw [e]
    generalize mrB 0 d = q at *
    clear e
    simp only [List.cons_append, List.nil_append]
    have n0 := nm_1 (c := 15 :: 145 :: q :: rest) (n := 0) (show _ = some _ from rfl)
    have n1 := nm_1 (c := 15 :: 145 :: q :: rest) (n := 1) (show _ = some _ from rfl)
    have n2 := nm_1 (c := 15 :: 145 :: q :: rest) (n := 2) (show _ = some _ from rfl)
    refine ⟨?_, ?_, ?_, ?_⟩
    all_goals exact qIb0
  · have e : bodyI ⟨29, d, 2, 32, 0⟩ = [15, 146, mrB 0 d] := rfl
    rw [e]
    generalize mrB 0 d = q at *
    clear e
    simp only [List.cons_append, List.nil_append]
    have n0 := nm_1 (c := 15 :: 146 :: q :: rest) (n := 0) (show _ = some _ from rfl)
    have n1 := nm_1 (c := 15 :: 146 :: q :: rest) (n := 1) (show _ = some _ from rfl)
    have n2 := nm_1 (c := 15 :: 146 :: q :: rest) (n := 2) (show _ = some _ from rfl)
    refine ⟨?_, ?_, ?_, ?_⟩
    all_goals exact qIb0
  · have e : bodyI ⟨29, d, 3, 32, 0⟩ = [15, 147, mrB 0 d] := rfl
    rw [e]
    generalize mrB 0 d = q at *
    clear e
    simp only [List.cons_append, List.nil_append]
    have n0 := nm_1 (c := 15 :: 147 :: q :: rest) (n := 0) (show _ = some _ from rfl)
    have n1 := nm_1 (c := 15 :: 147 :: q :: rest) (n := 1) (show _ = some _ from rfl)
    have n2 := nm_1 (c := 15 :: 147 :: q :: rest) (n := 2) (show _ = some _ from rfl)
    refine ⟨?_, ?_, ?_, ?_⟩
    all_goals exact qIb0
  · have e : bodyI ⟨29, d, 4, 32, 0⟩ = [15, 148, mrB 0 d] := rfl
    rw [e]
    generalize mrB 0 d = q at *
    clear e
    simp only [List.cons_append, List.nil_append]
    have n0 := nm_1 (c := 15 :: 148 :: q :: rest) (n := 0) (show _ = some _ from rfl)
    have n1 := nm_1 (c := 15 :: 148 :: q :: rest) (n := 1) (show _ = some _ from rfl)
    have n2 := nm_1 (c := 15 :: 148 :: q :: rest) (n := 2) (show _ = some _ from rfl)
    refine ⟨?_, ?_, ?_, ?_⟩
    all_goals exact qIb0
  · have e : bodyI ⟨29, d, 5, 32, 0⟩ = [15, 149, mrB 0 d] := rfl
    rw [e]
    generalize mrB 0 d = q at *
    clear e
    simp only [List.cons_append, List.nil_append]
    have n0 := nm_1 (c := 15 :: 149 :: q :: rest) (n := 0) (show _ = some _ from rfl)
    have n1 := nm_1 (c := 15 :: 149 :: q :: rest) (n := 1) (show _ = some _ from rfl)
    have n2 := nm_1 (c := 15 :: 149 :: q :: rest) (n := 2) (show _ = some _ from rfl)
    refine ⟨?_, ?_, ?_, ?_⟩
    all_goals exact qIb0
  · have e : bodyI ⟨29, d, 6, 32, 0⟩ = [15, 150, mrB 0 d] := rfl
    rw [e]
    generalize mrB 0 d = q at *
    clear e
    simp only [List.cons_append, List.nil_append]
    have n0 := nm_1 (c := 15 :: 150 :: q :: rest) (n := 0) (show _ = some _ from rfl)
    have n1 := nm_1 (c := 15 :: 150 :: q :: rest) (n := 1) (show _ = some _ from rfl)
    have n2 := nm_1 (c := 15 :: 150 :: q :: rest) (n := 2) (show _ = some _ from rfl)
    refine ⟨?_, ?_, ?_, ?_⟩
    all_goals exact qIb0
  · have e : bodyI ⟨29, d, 7, 32, 0⟩ = [15, 151, mrB 0 d] := rfl
    rw [e]
    generalize mrB 0 d = q at *
    clear e
    simp only [List.cons_append, List.nil_append]
    have n0 := nm_1 (c := 15 :: 151 :: q :: rest) (n := 0) (show _ = some _ from rfl)
    have n1 := nm_1 (c := 15 :: 151 :: q :: rest) (n := 1) (show _ = some _ from rfl)
    have n2 := nm_1 (c := 15 :: 151 :: q :: rest) (n := 2) (show _ = some _ from rfl)
    refine ⟨?_, ?_, ?_, ?_⟩
    all_goals exact qIb0
  · have e : bodyI ⟨29, d, 8, 32, 0⟩ = [15, 152, mrB 0 d] := rfl
    rw [e]
    generalize mrB 0 d = q at *
    clear e
    simp only [List.cons_append, List.nil_append]
    have n0 := nm_1 (c := 15 :: 152 :: q :: rest) (n := 0) (show _ = some _ from rfl)
    have n1 := nm_1 (c := 15 :: 152 :: q :: rest) (n := 1) (show _ = some _ from rfl)
    have n2 := nm_1 (c := 15 :: 152 :: q :: rest) (n := 2) (show _ = some _ from rfl)
    refine ⟨?_, ?_, ?_, ?_⟩
    all_goals exact qIb0
  · have e : bodyI ⟨29, d, 9, 32, 0⟩ = [15, 153, mrB 0 d] := rfl
    rw [e]
    generalize mrB 0 d = q at *
    clear e
    simp only [List.cons_append, List.nil_append]
    have n0 := nm_1 (c := 15 :: 153 :: q :: rest) (n := 0) (show _ = some _ from rfl)
    have n1 := nm_1 (c := 15 :: 153 :: q :: rest) (n := 1) (show _ = some _ from rfl)
    have n2 := nm_1 (c := 15 :: 153 :: q :: rest) (n := 2) (show _ = some _ from rfl)
    refine ⟨?_, ?_, ?_, ?_⟩
    all_goals exact qIb0
  · have e : bodyI ⟨29, d, 12, 32, 0⟩ = [15, 156, mrB 0 d] := rfl
    rw [e]
    generalize mrB 0 d = q at *
    clear e
    simp only [List.cons_append, List.nil_append]
    have n0 := nm_1 (c := 15 :: 156 :: q :: rest) (n := 0) (show _ = some _ from rfl)
    have n1 := nm_1 (c := 15 :: 156 :: q :: rest) (n := 1) (show _ = some _ from rfl)
    have n2 := nm_1 (c := 15 :: 156 :: q :: rest) (n := 2) (show _ = some _ from rfl)
    refine ⟨?_, ?_, ?_, ?_⟩
    all_goals exact qIb0
  · have e : bodyI ⟨29, d, 13, 32, 0⟩ = [15, 157, mrB 0 d] := rfl
    rw [e]
    generalize mrB 0 d = q at *
    clear e
    simp only [List.cons_append, List.nil_append]
    have n0 := nm_1 (c := 15 :: 157 :: q :: rest) (n := 0) (show _ = some _ from rfl)
    have n1 := nm_1 (c := 15 :: 157 :: q :: rest) (n := 1) (show _ = some _ from rfl)
    have n2 := nm_1 (c := 15 :: 157 :: q :: rest) (n := 2) (show _ = some _ from rfl)
    refine ⟨?_, ?_, ?_, ?_⟩
    all_goals exact qIb0
  · have e : bodyI ⟨29, d, 14, 32, 0⟩ = [15, 158, mrB 0 d] := rfl
    rw [e]
    generalize mrB 0 d = q at *
    clear e
    simp only [List.cons_append, List.nil_append]
    have n0 := nm_1 (c := 15 :: 158 :: q :: rest) (n := 0) (show _ = some _ from rfl)
    have n1 := nm_1 (c := 15 :: 158 :: q :: rest) (n := 1) (show _ = some _ from rfl)
    have n2 := nm_1 (c := 15 :: 158 :: q :: rest) (n := 2) (show _ = some _ from rfl)
    refine ⟨?_, ?_, ?_, ?_⟩
    all_goals exact qIb0
  · have e : bodyI ⟨29, d, 15, 32, 0⟩ = [15, 159, mrB 0 d] := rfl
    rw [e]
    generalize mrB 0 d = q at *
    clear e
    simp only [List.cons_append, List.nil_append]
    have n0 := nm_1 (c := 15 :: 159 :: q :: rest) (n := 0) (show _ = some _ from rfl)
    have n1 := nm_1 (c := 15 :: 159 :: q :: rest) (n := 1) (show _ = some _ from rfl)
    have n2 := nm_1 (c := 15 :: 159 :: q :: rest) (n := 2) (show _ = some _ from rfl)
    refine ⟨?_, ?_, ?_, ?_⟩
    all_goals exact qIb0
theorem gs_30 (d s z i : Int) (rest : List Int) (h : okI ⟨30, d, s, z, i⟩ = true) : RdOk ⟨30, d, s, z, i⟩ rest := by
  have hz := ok_sz h
  have hf := ok_fit h
  clear h
  simp [szI] at hz
  simp [fitI, fitJ, isR, isM, isL, isC, isB, isW4, inZ, pwZ] at hf
  unfold RdOk
  have b1 : 0 ≤ d ∧ d ≤ 7 ∧ 0 ≤ s ∧ s ≤ 7 ∧ i = 0 := by omega
  obtain ⟨d1, d2, s1, s2, rfl⟩ := b1
  obtain ⟨f1, f2, f3, f4, f5⟩ := mr_f (r := d) (m := s) (by omega) (by omega) (by omega) (by omega)
  have e : ∀ z, bodyI ⟨30, d, s, z, 0⟩ = [15, 182, mrB d s] := fun _ => rfl
  rw [e]
  generalize mrB d s = q at *
  clear e hf
  simp only [List.cons_append, List.nil_append]
  have n0 := nm_1 (c := 15 :: 182 :: q :: rest) (n := 0) (show _ = some _ from rfl)
  have n1 := nm_1 (c := 15 :: 182 :: q :: rest) (n := 1) (show _ = some _ from rfl)
  have n2 := nm_1 (c := 15 :: 182 :: q :: rest) (n := 2) (show _ = some _ from rfl)
  subst hz
  refine ⟨?_, ?_, ?_, ?_⟩
  all_goals exact qIb0
theorem gs_31 (d s z i : Int) (rest : List Int) (h : okI ⟨31, d, s, z, i⟩ = true) : RdOk ⟨31, d, s, z, i⟩ rest := by
  have hz := ok_sz h
  have hf := ok_fit h
  clear h
  simp [szI] at hz
  unfold RdOk
  subst hz
  simp [fitI, fitJ, isR, isM, isL, isC, isB, isW4, inZ, pwZ] at hf
  have b1 : 0 ≤ d ∧ d ≤ 7 ∧ 0 ≤ s ∧ s ≤ 7 ∧ (i = 0 ∨ i = 1 ∨ i = 2 ∨ i = 3 ∨ i = 4 ∨ i = 5 ∨ i = 6 ∨ i = 7 ∨ i = 8 ∨ i = 9 ∨ i = 12 ∨ i = 13 ∨ i = 14 ∨ i = 15) := by omega
  obtain ⟨d1, d2, s1, s2, hc⟩ := b1
  obtain ⟨f1, f2, f3, f4, f5⟩ := mr_f (r := d) (m := s) (by omega) (by omega) (by omega) (by omega)
  clear hf
  rcases hc with rfl | rfl | rfl | rfl | rfl | rfl | rfl | rfl | rfl | rfl | rfl | rfl | rfl | rfl
  · have e : bodyI ⟨31, d, s, 32, 0⟩ = [15, 64, mrB d s] := rfl
    rw [e]
    generalize mrB d s = q at *
    clear e
    simp only [List.cons_append, List.nil_append]
    have n0 := nm_1 (c := 15 :: 64 :: q :: rest) (n := 0) (show _ = some _ from rfl)
    have n1 := nm_1 (c := 15 :: 64 :: q :: rest) (n := 1) (show _ = some _ from rfl)
    have n2 := nm_1 (c := 15 :: 64 :: q :: rest) (n := 2) (show _ = some _ from rfl)
    refine ⟨?_, ?_, ?_, ?_⟩
    all_goals exact qIb0
  · have e : bodyI ⟨31, d, s, 32, 1⟩ = [15, 65, mrB d s] := rfl
    rw [e]
    generalize mrB d s = q at *
    clear e
    simp only [List.cons_append, List.nil_append]
    have n0 := nm_1 (c := 15 :: 65 :: q :: rest) (n := 0) (show _ = some _ from rfl)
    have n1 := nm_1 (c := 15 :: 65 :: q :: rest) (n := 1) (show _ = some _ from rfl)
    have n2 := nm_1 (c := 15 :: 65 :: q :: rest) (n := 2) (show _ = some _ from rfl)
    refine ⟨?_, ?_, ?_, ?_⟩
    all_goals exact qIb0
  · have e : bodyI ⟨31, d, s, 32, 2⟩ = [15, 66, mrB d s] := rfl
    rw [e]
    generalize mrB d s = q at *
    clear e
    simp only [List.cons_append, List.nil_append]
    have n0 := nm_1 (c := 15 :: 66 :: q :: rest) (n := 0) (show _ = some _ from rfl)
    have n1 := nm_1 (c := 15 :: 66 :: q :: rest) (n := 1) (show _ = some _ from rfl)
    have n2 := nm_1 (c := 15 :: 66 :: q :: rest) (n := 2) (show _ = some _ from rfl)
    refine ⟨?_, ?_, ?_, ?_⟩
    all_goals exact qIb0
  · have e : bodyI ⟨31, d, s, 32, 3⟩ = [15, 67, mrB d s] := rfl
    rw [e]
    generalize mrB d s = q at *
    clear e
    simp only [List.cons_append, List.nil_append]
    have n0 := nm_1 (c := 15 :: 67 :: q :: rest) (n := 0) (show _ = some _ from rfl)
    have n1 := nm_1 (c := 15 :: 67 :: q :: rest) (n := 1) (show _ = some _ from rfl)
    have n2 := nm_1 (c := 15 :: 67 :: q :: rest) (n := 2) (show _ = some _ from rfl)
    refine ⟨?_, ?_, ?_, ?_⟩
    all_goals exact qIb0
  · have e : bodyI ⟨31, d, s, 32, 4⟩ = [15, 68, mrB d s] := rfl
    rw [e]
    generalize mrB d s = q at *
    clear e
    simp only [List.cons_append, List.nil_append]
    have n0 := nm_1 (c := 15 :: 68 :: q :: rest) (n := 0) (show _ = some _ from rfl)
    have n1 := nm_1 (c := 15 :: 68 :: q :: rest) (n := 1) (show _ = some _ from rfl)
    have n2 := nm_1 (c := 15 :: 68 :: q :: rest) (n := 2) (show _ = some _ from rfl)
    refine ⟨?_, ?_, ?_, ?_⟩
    all_goals exact qIb0
  · have e : bodyI ⟨31, d, s, 32, 5⟩ = [15, 69, mrB d s] := rfl
    rw [e]
    generalize mrB d s = q at *
    clear e
    simp only [List.cons_append, List.nil_append]
    have n0 := nm_1 (c := 15 :: 69 :: q :: rest) (n := 0) (show _ = some _ from rfl)
    have n1 := nm_1 (c := 15 :: 69 :: q :: rest) (n := 1) (show _ = some _ from rfl)
    have n2 := nm_1 (c := 15 :: 69 :: q :: rest) (n := 2) (show _ = some _ from rfl)
    refine ⟨?_, ?_, ?_, ?_⟩
    all_goals exact qIb0
  · have e : bodyI ⟨31, d, s, 32, 6⟩ = [15, 70, mrB d s] := rfl
    rw [e]
    generalize mrB d s = q at *
    clear e
    simp only [List.cons_append, List.nil_append]
    have n0 := nm_1 (c := 15 :: 70 :: q :: rest) (n := 0) (show _ = some _ from rfl)
    have n1 := nm_1 (c := 15 :: 70 :: q :: rest) (n := 1) (show _ = some _ from rfl)
    have n2 := nm_1 (c := 15 :: 70 :: q :: rest) (n := 2) (show _ = some _ from rfl)
    refine ⟨?_, ?_, ?_, ?_⟩
    all_goals exact qIb0
  · have e : bodyI ⟨31, d, s, 32, 7⟩ = [15, 71, mrB d s] := rfl
    rw [e]
    generalize mrB d s = q at *
    clear e
    simp only [List.cons_append, List.nil_append]
    have n0 := nm_1 (c := 15 :: 71 :: q :: rest) (n := 0) (show _ = some _ from rfl)
    have n1 := nm_1 (c := 15 :: 71 :: q :: rest) (n := 1) (show _ = some _ from rfl)
    have n2 := nm_1 (c := 15 :: 71 :: q :: rest) (n := 2) (show _ = some _ from rfl)
    refine ⟨?_, ?_, ?_, ?_⟩
    all_goals exact qIb0
  · have e : bodyI ⟨31, d, s, 32, 8⟩ = [15, 72, mrB d s] := rfl
    rw [e]
    generalize mrB d s = q at *
    clear e
    simp only [List.cons_append, List.nil_append]
    have n0 := nm_1 (c := 15 :: 72 :: q :: rest) (n := 0) (show _ = some _ from rfl)
    have n1 := nm_1 (c := 15 :: 72 :: q :: rest) (n := 1) (show _ = some _ from rfl)
    have n2 := nm_1 (c := 15 :: 72 :: q :: rest) (n := 2) (show _ = some _ from rfl)
    refine ⟨?_, ?_, ?_, ?_⟩
    all_goals exact qIb0
  · have e : bodyI ⟨31, d, s, 32, 9⟩ = [15, 73, mrB d s] := rfl
    rw [e]
    generalize mrB d s = q at *
    clear e
    simp only [List.cons_append, List.nil_append]
    have n0 := nm_1 (c := 15 :: 73 :: q :: rest) (n := 0) (show _ = some _ from rfl)
    have n1 := nm_1 (c := 15 :: 73 :: q :: rest) (n := 1) (show _ = some _ from rfl)
    have n2 := nm_1 (c := 15 :: 73 :: q :: rest) (n := 2) (show _ = some _ from rfl)
    refine ⟨?_, ?_, ?_, ?_⟩
    all_goals exact qIb0
  · have e : bodyI ⟨31, d, s, 32, 12⟩ = [15, 76, mrB d s] := rfl
    rw [e]
    generalize mrB d s = q at *
    clear e
    simp only [List.cons_append, List.nil_append]
    have n0 := nm_1 (c := 15 :: 76 :: q :: rest) (n := 0) (show _ = some _ from rfl)
    have n1 := nm_1 (c := 15 :: 76 :: q :: rest) (n := 1) (show _ = some _ from rfl)
    have n2 := nm_1 (c := 15 :: 76 :: q :: rest) (n := 2) (show _ = some _ from rfl)
    refine ⟨?_, ?_, ?_, ?_⟩
    all_goals exact qIb0
  · have e : bodyI ⟨31, d, s, 32, 13⟩ = [15, 77, mrB d s] := rfl
    rw [e]
    generalize mrB d s = q at *
    clear e
    simp only [List.cons_append, List.nil_append]
    have n0 := nm_1 (c := 15 :: 77 :: q :: rest) (n := 0) (show _ = some _ from rfl)
    have n1 := nm_1 (c := 15 :: 77 :: q :: rest) (n := 1) (show _ = some _ from rfl)
    have n2 := nm_1 (c := 15 :: 77 :: q :: rest) (n := 2) (show _ = some _ from rfl)
    refine ⟨?_, ?_, ?_, ?_⟩
    all_goals exact qIb0
  · have e : bodyI ⟨31, d, s, 32, 14⟩ = [15, 78, mrB d s] := rfl
    rw [e]
    generalize mrB d s = q at *
    clear e
    simp only [List.cons_append, List.nil_append]
    have n0 := nm_1 (c := 15 :: 78 :: q :: rest) (n := 0) (show _ = some _ from rfl)
    have n1 := nm_1 (c := 15 :: 78 :: q :: rest) (n := 1) (show _ = some _ from rfl)
    have n2 := nm_1 (c := 15 :: 78 :: q :: rest) (n := 2) (show _ = some _ from rfl)
    refine ⟨?_, ?_, ?_, ?_⟩
    all_goals exact qIb0
  · have e : bodyI ⟨31, d, s, 32, 15⟩ = [15, 79, mrB d s] := rfl
    rw [e]
    generalize mrB d s = q at *
    clear e
    simp only [List.cons_append, List.nil_append]
    have n0 := nm_1 (c := 15 :: 79 :: q :: rest) (n := 0) (show _ = some _ from rfl)
    have n1 := nm_1 (c := 15 :: 79 :: q :: rest) (n := 1) (show _ = some _ from rfl)
    have n2 := nm_1 (c := 15 :: 79 :: q :: rest) (n := 2) (show _ = some _ from rfl)
    refine ⟨?_, ?_, ?_, ?_⟩
    all_goals exact qIb0
theorem gs_32 (d s z i : Int) (rest : List Int) (h : okI ⟨32, d, s, z, i⟩ = true) : RdOk ⟨32, d, s, z, i⟩ rest := by
  have hz := ok_sz h
  have hf := ok_fit h
  clear h
  simp [szI] at hz
  unfold RdOk
  rcases hz with rfl | rfl
  · simp [fitI, fitJ, isR, isM, isL, isC, isB, isW4, inZ, pwZ] at hf
    have b1 : d = 0 ∧ -128 ≤ i ∧ i ≤ 127 ∧ (s = 0 ∨ s = 1 ∨ s = 2 ∨ s = 3 ∨ s = 4 ∨ s = 5 ∨ s = 6 ∨ s = 7 ∨ s = 8 ∨ s = 9 ∨ s = 12 ∨ s = 13 ∨ s = 14 ∨ s = 15) := by omega
    obtain ⟨rfl, i1, i2, hc⟩ := b1
    have sb := sg_b i1 i2
    have hi : 0 ≤ i % 256 ∧ i % 256 < 256 := by omega
    clear hf
    rcases hc with rfl | rfl | rfl | rfl | rfl | rfl | rfl | rfl | rfl | rfl | rfl | rfl | rfl | rfl
    · have e : bodyI ⟨32, 0, 0, 8, i⟩ = [112, i % 256] := rfl
      rw [e]
      generalize i % 256 = j at *
      clear e
      simp only [List.cons_append, List.nil_append]
      have n0 := nm_1 (c := 112 :: j :: rest) (n := 0) (show _ = some _ from rfl)
      have n1 := nm_1 (c := 112 :: j :: rest) (n := 1) (show _ = some _ from rfl)
      refine ⟨?_, ?_, ?_, ?_⟩
      all_goals exact qIb3
    · have e : bodyI ⟨32, 0, 1, 8, i⟩ = [113, i % 256] := rfl
      rw [e]
      generalize i % 256 = j at *
      clear e
      simp only [List.cons_append, List.nil_append]
      have n0 := nm_1 (c := 113 :: j :: rest) (n := 0) (show _ = some _ from rfl)
      have n1 := nm_1 (c := 113 :: j :: rest) (n := 1) (show _ = some _ from rfl)
      refine ⟨?_, ?_, ?_, ?_⟩
      all_goals exact qIb3
    · have e : bodyI ⟨32, 0, 2, 8, i⟩ = [114, i % 256] := rfl
      rw [e]
      generalize i % 256 = j at *
      clear e
      simp only [List.cons_append, List.nil_append]
      have n0 := nm_1 (c := 114 :: j :: rest) (n := 0) (show _ = some _ from rfl)
      have n1 := nm_1 (c := 114 :: j :: rest) (n := 1) (show _ = some _ from rfl)
      refine ⟨?_, ?_, ?_, ?_⟩
      all_goals exact qIb3
    · have e : bodyI ⟨32, 0, 3, 8, i⟩ = [115, i % 256] := rfl
      rw [e]
      generalize i % 256 = j at *
      clear e
      simp only [List.cons_append, List.nil_append]
      have n0 := nm_1 (c := 115 :: j :: rest) (n := 0) (show _ = some _ from rfl)
      have n1 := nm_1 (c := 115 :: j :: rest) (n := 1) (show _ = some _ from rfl)
      refine ⟨?_, ?_, ?_, ?_⟩
      all_goals exact qIb3
    · have e : bodyI ⟨32, 0, 4, 8, i⟩ = [116, i % 256] := rfl
      rw [e]
      generalize i % 256 = j at *
      clear e
      simp only [List.cons_append, List.nil_append]
      have n0 := nm_1 (c := 116 :: j :: rest) (n := 0) (show _ = some _ from rfl)
      have n1 := nm_1 (c := 116 :: j :: rest) (n := 1) (show _ = some _ from rfl)
      refine ⟨?_, ?_, ?_, ?_⟩
      all_goals exact qIb3
    · have e : bodyI ⟨32, 0, 5, 8, i⟩ = [117, i % 256] := rfl
      rw [e]
      generalize i % 256 = j at *
      clear e
      simp only [List.cons_append, List.nil_append]
      have n0 := nm_1 (c := 117 :: j :: rest) (n := 0) (show _ = some _ from rfl)
      have n1 := nm_1 (c := 117 :: j :: rest) (n := 1) (show _ = some _ from rfl)
      refine ⟨?_, ?_, ?_, ?_⟩
      all_goals exact qIb3
    · have e : bodyI ⟨32, 0, 6, 8, i⟩ = [118, i % 256] := rfl
      rw [e]
      generalize i % 256 = j at *
      clear e
      simp only [List.cons_append, List.nil_append]
      have n0 := nm_1 (c := 118 :: j :: rest) (n := 0) (show _ = some _ from rfl)
      have n1 := nm_1 (c := 118 :: j :: rest) (n := 1) (show _ = some _ from rfl)
      refine ⟨?_, ?_, ?_, ?_⟩
      all_goals exact qIb3
    · have e : bodyI ⟨32, 0, 7, 8, i⟩ = [119, i % 256] := rfl
      rw [e]
      generalize i % 256 = j at *
      clear e
      simp only [List.cons_append, List.nil_append]
      have n0 := nm_1 (c := 119 :: j :: rest) (n := 0) (show _ = some _ from rfl)
      have n1 := nm_1 (c := 119 :: j :: rest) (n := 1) (show _ = some _ from rfl)
      refine ⟨?_, ?_, ?_, ?_⟩
      all_goals exact qIb3
    · have e : bodyI ⟨32, 0, 8, 8, i⟩ = [120, i % 256] := rfl
      rw [e]
      generalize i % 256 = j at *
      clear e
      simp only [List.cons_append, List.nil_append]
      have n0 := nm_1 (c := 120 :: j :: rest) (n := 0) (show _ = some _ from rfl)
      have n1 := nm_1 (c := 120 :: j :: rest) (n := 1) (show _ = some _ from rfl)
      refine ⟨?_, ?_, ?_, ?_⟩
      all_goals exact qIb3
    · have e : bodyI ⟨32, 0, 9, 8, i⟩ = [121, i % 256] := rfl
      rw [e]
      generalize i % 256 = j at *
      clear e
      simp only [List.cons_append, List.nil_append]
      have n0 := nm_1 (c := 121 :: j :: rest) (n := 0) (show _ = some _ from rfl)
      have n1 := nm_1 (c := 121 :: j :: rest) (n := 1) (show _ = some _ from rfl)
      refine ⟨?_, ?_, ?_, ?_⟩
      all_goals exact qIb3
    · have e : bodyI ⟨32, 0, 12, 8, i⟩ = [124, i % 256] := rfl
      rw [e]
      generalize i % 256 = j at *
      clear e
      simp only [List.cons_append, List.nil_append]
      have n0 := nm_1 (c := 124 :: j :: rest) (n := 0) (show _ = some _ from rfl)
      have n1 := nm_1 (c := 124 :: j :: rest) (n := 1) (show _ = some _ from rfl)
      refine ⟨?_, ?_, ?_, ?_⟩
      all_goals exact qIb3
    · have e : bodyI ⟨32, 0, 13, 8, i⟩ = [125, i % 256] := rfl
      rw [e]
      generalize i % 256 = j at *
      clear e
      simp only [List.cons_append, List.nil_append]
      have n0 := nm_1 (c := 125 :: j :: rest) (n := 0) (show _ = some _ from rfl)
      have n1 := nm_1 (c := 125 :: j :: rest) (n := 1) (show _ = some _ from rfl)
      refine ⟨?_, ?_, ?_, ?_⟩
      all_goals exact qIb3
    · have e : bodyI ⟨32, 0, 14, 8, i⟩ = [126, i % 256] := rfl
      rw [e]
      generalize i % 256 = j at *
      clear e
      simp only [List.cons_append, List.nil_append]
      have n0 := nm_1 (c := 126 :: j :: rest) (n := 0) (show _ = some _ from rfl)
      have n1 := nm_1 (c := 126 :: j :: rest) (n := 1) (show _ = some _ from rfl)
      refine ⟨?_, ?_, ?_, ?_⟩
      all_goals exact qIb3
    · have e : bodyI ⟨32, 0, 15, 8, i⟩ = [127, i % 256] := rfl
      rw [e]
      generalize i % 256 = j at *
      clear e
      simp only [List.cons_append, List.nil_append]
      have n0 := nm_1 (c := 127 :: j :: rest) (n := 0) (show _ = some _ from rfl)
      have n1 := nm_1 (c := 127 :: j :: rest) (n := 1) (show _ = some _ from rfl)
      refine ⟨?_, ?_, ?_, ?_⟩
      all_goals exact qIb3
  · simp [fitI, fitJ, isR, isM, isL, isC, isB, isW4, inZ, pwZ] at hf
    have b1 : d = 0 ∧ -2147483648 ≤ i ∧ i ≤ 2147483647 ∧ (s = 0 ∨ s = 1 ∨ s = 2 ∨ s = 3 ∨ s = 4 ∨ s = 5 ∨ s = 6 ∨ s = 7 ∨ s = 8 ∨ s = 9 ∨ s = 12 ∨ s = 13 ∨ s = 14 ∨ s = 15) := by omega
    obtain ⟨rfl, i1, i2, hc⟩ := b1
    have d4 := rd4 i rest
    have w4 := sg_w i1 i2
    have lb := leB_byte i 4
    have ll := leB_length i 4
    clear hf
    rcases hc with rfl | rfl | rfl | rfl | rfl | rfl | rfl | rfl | rfl | rfl | rfl | rfl | rfl | rfl
    · have e : bodyI ⟨32, 0, 0, 32, i⟩ = 15 :: 128 :: leB i 4 := rfl
      rw [e]
      clear e
      simp only [List.cons_append, List.nil_append]
      have n0 := nm_1 (c := 15 :: 128 :: (leB i 4 ++ rest)) (n := 0) (show _ = some _ from rfl)
      have n1 := nm_1 (c := 15 :: 128 :: (leB i 4 ++ rest)) (n := 1) (show _ = some _ from rfl)
      have n4 : nmR (15 :: 128 :: (leB i 4 ++ rest)) 2 4 = i % 4294967296 := nm_k (i := i) (r := rest) rfl (by simp [leB_length] <;> omega)
      refine ⟨?_, ?_, ?_, ?_⟩
      all_goals exact qIb2
    · have e : bodyI ⟨32, 0, 1, 32, i⟩ = 15 :: 129 :: leB i 4 := rfl
      rw [e]
      clear e
      simp only [List.cons_append, List.nil_append]
      have n0 := nm_1 (c := 15 :: 129 :: (leB i 4 ++ rest)) (n := 0) (show _ = some _ from rfl)
      have n1 := nm_1 (c := 15 :: 129 :: (leB i 4 ++ rest)) (n := 1) (show _ = some _ from rfl)
      have n4 : nmR (15 :: 129 :: (leB i 4 ++ rest)) 2 4 = i % 4294967296 := nm_k (i := i) (r := rest) rfl (by simp [leB_length] <;> omega)
      refine ⟨?_, ?_, ?_, ?_⟩
      all_goals exact qIb2
    · have e : bodyI ⟨32, 0, 2, 32, i⟩ = 15 :: 130 :: leB i 4 := rfl
      rw [e]
      clear e
      simp only [List.cons_append, List.nil_append]
      have n0 := nm_1 (c := 15 :: 130 :: (leB i 4 ++ rest)) (n := 0) (show _ = some _ from rfl)
      have n1 := nm_1 (c := 15 :: 130 :: (leB i 4 ++ rest)) (n := 1) (show _ = some _ from rfl)
      have n4 : nmR (15 :: 130 :: (leB i 4 ++ rest)) 2 4 = i % 4294967296 := nm_k (i := i) (r := rest) rfl (by simp [leB_length] <;> omega)
      refine ⟨?_, ?_, ?_, ?_⟩
      all_goals exact qIb2
    · have e : bodyI ⟨32, 0, 3, 32, i⟩ = 15 :: 131 :: leB i 4 := rfl
      rw [e]
      clear e
      simp only [List.cons_append, List.nil_append]
      have n0 := nm_1 (c := 15 :: 131 :: (leB i 4 ++ rest)) (n := 0) (show _ = some _ from rfl)
      have n1 := nm_1 (c := 15 :: 131 :: (leB i 4 ++ rest)) (n := 1) (show _ = some _ from rfl)
      have n4 : nmR (15 :: 131 :: (leB i 4 ++ rest)) 2 4 = i % 4294967296 := nm_k (i := i) (r := rest) rfl (by simp [leB_length] <;> omega)
      refine ⟨?_, ?_, ?_, ?_⟩
      all_goals exact qIb2
    · have e : bodyI ⟨32, 0, 4, 32, i⟩ = 15 :: 132 :: leB i 4 := rfl
      rw [e]
      clear e
      simp only [List.cons_append, List.nil_append]
      have n0 := nm_1 (c := 15 :: 132 :: (leB i 4 ++ rest)) (n := 0) (show _ = some _ from rfl)
      have n1 := nm_1 (c := 15 :: 132 :: (leB i 4 ++ rest)) (n := 1) (show _ = some _ from rfl)
      have n4 : nmR (15 :: 132 :: (leB i 4 ++ rest)) 2 4 = i % 4294967296 := nm_k (i := i) (r := rest) rfl (by simp [leB_length] <;> omega)
      refine ⟨?_, ?_, ?_, ?_⟩
      all_goals exact qIb2
    · have e : bodyI ⟨32, 0, 5, 32, i⟩ = 15 :: 133 :: leB i 4 := rfl
      rw [e]
      clear e
      simp only [List.cons_append, List.nil_append]
      have n0 := nm_1 (c := 15 :: 133 :: (leB i 4 ++ rest)) (n := 0) (show _ = some _ from rfl)
      have n1 := nm_1 (c := 15 :: 133 :: (leB i 4 ++ rest)) (n := 1) (show _ = some _ from rfl)
      have n4 : nmR (15 :: 133 :: (leB i 4 ++ rest)) 2 4 = i % 4294967296 := nm_k (i := i) (r := rest) rfl (by simp [leB_length] <;> omega)
      refine ⟨?_, ?_, ?_, ?_⟩
      all_goals exact qIb2
    · have e : bodyI ⟨32, 0, 6, 32, i⟩ = 15 :: 134 :: leB i 4 := rfl
      rw [e]
      clear e
      simp only [List.cons_append, List.nil_append]
      have n0 := nm_1 (c := 15 :: 134 :: (leB i 4 ++ rest)) (n := 0) (show _ = some _ from rfl)
      have n1 := nm_1 (c := 15 :: 134 :: (leB i 4 ++ rest)) (n := 1) (show _ = some _ from rfl)
      have n4 : nmR (15 :: 134 :: (leB i 4 ++ rest)) 2 4 = i % 4294967296 := nm_k (i := i) (r := rest) rfl (by simp [leB_length] <;> omega)
      refine ⟨?_, ?_, ?_, ?_⟩
      all_goals exact qIb2
    · have e : bodyI ⟨32, 0, 7, 32, i⟩ = 15 :: 135 :: leB i 4 := rfl
      rw [e]
      clear e
      simp only [List.cons_append, List.nil_append]
      have n0 := nm_1 (c := 15 :: 135 :: (leB i 4 ++ rest)) (n := 0) (show _ = some _ from rfl)
      have n1 := nm_1 (c := 15 :: 135 :: (leB i 4 ++ rest)) (n := 1) (show _ = some _ from rfl)
      have n4 : nmR (15 :: 135 :: (leB i 4 ++ rest)) 2 4 = i % 4294967296 := nm_k (i := i) (r := rest) rfl (by simp [leB_length] <;> omega)
      refine ⟨?_, ?_, ?_, ?_⟩
      all_goals exact qIb2
    · have e : bodyI ⟨32, 0, 8, 32, i⟩ = 15 :: 136 :: leB i 4 := rfl
      rw [e]
      clear e
      simp only [List.cons_append, List.nil_append]
      have n0 := nm_1 (c := 15 :: 136 :: (leB i 4 ++ rest)) (n := 0) (show _ = some _ from rfl)
      have n1 := nm_1 (c := 15 :: 136 :: (leB i 4 ++ rest)) (n := 1) (show _ = some _ from rfl)
      have n4 : nmR (15 :: 136 :: (leB i 4 ++ rest)) 2 4 = i % 4294967296 := nm_k (i := i) (r := rest) rfl (by simp [leB_length] <;> omega)
      refine ⟨?_, ?_, ?_, ?_⟩
      all_goals exact qIb2
    · have e : bodyI ⟨32, 0, 9, 32, i⟩ = 15 :: 137 :: leB i 4 := rfl
      rw [e]
      clear e
      simp only [List.cons_append, List.nil_append]
      have n0 := nm_1 (c := 15 :: 137 :: (leB i 4 ++ rest)) (n := 0) (show _ = some _ from rfl)
      have n1 := nm_1 (c := 15 :: 137 :: (leB i 4 ++ rest)) (n := 1) (show _ = some _ from rfl)
      have n4 : nmR (15 :: 137 :: (leB i 4 ++ rest)) 2 4 = i % 4294967296 := nm_k (i := i) (r := rest) rfl (by simp [leB_length] <;> omega)
      refine ⟨?_, ?_, ?_, ?_⟩
      all_goals exact qIb2
    · have e : bodyI ⟨32, 0, 12, 32, i⟩ = 15 :: 140 :: leB i 4 := rfl
      rw [e]
      clear e
      simp only [List.cons_append, List.nil_append]
      have n0 := nm_1 (c := 15 :: 140 :: (leB i 4 ++ rest)) (n := 0) (show _ = some _ from rfl)
      have n1 := nm_1 (c := 15 :: 140 :: (leB i 4 ++ rest)) (n := 1) (show _ = some _ from rfl)
      have n4 : nmR (15 :: 140 :: (leB i 4 ++ rest)) 2 4 = i % 4294967296 := nm_k (i := i) (r := rest) rfl (by simp [leB_length] <;> omega)
      refine ⟨?_, ?_, ?_, ?_⟩
      all_goals exact qIb2
    · have e : bodyI ⟨32, 0, 13, 32, i⟩ = 15 :: 141 :: leB i 4 := rfl
      rw [e]
      clear e
      simp only [List.cons_append, List.nil_append]
      have n0 := nm_1 (c := 15 :: 141 :: (leB i 4 ++ rest)) (n := 0) (show _ = some _ from rfl)
      have n1 := nm_1 (c := 15 :: 141 :: (leB i 4 ++ rest)) (n := 1) (show _ = some _ from rfl)
      have n4 : nmR (15 :: 141 :: (leB i 4 ++ rest)) 2 4 = i % 4294967296 := nm_k (i := i) (r := rest) rfl (by simp [leB_length] <;> omega)
      refine ⟨?_, ?_, ?_, ?_⟩
      all_goals exact qIb2
    · have e : bodyI ⟨32, 0, 14, 32, i⟩ = 15 :: 142 :: leB i 4 := rfl
      rw [e]
      clear e
      simp only [List.cons_append, List.nil_append]
      have n0 := nm_1 (c := 15 :: 142 :: (leB i 4 ++ rest)) (n := 0) (show _ = some _ from rfl)
      have n1 := nm_1 (c := 15 :: 142 :: (leB i 4 ++ rest)) (n := 1) (show _ = some _ from rfl)
      have n4 : nmR (15 :: 142 :: (leB i 4 ++ rest)) 2 4 = i % 4294967296 := nm_k (i := i) (r := rest) rfl (by simp [leB_length] <;> omega)
      refine ⟨?_, ?_, ?_, ?_⟩
      all_goals exact qIb2
    · have e : bodyI ⟨32, 0, 15, 32, i⟩ = 15 :: 143 :: leB i 4 := rfl
      rw [e]
      clear e
      simp only [List.cons_append, List.nil_append]
      have n0 := nm_1 (c := 15 :: 143 :: (leB i 4 ++ rest)) (n := 0) (show _ = some _ from rfl)
      have n1 := nm_1 (c := 15 :: 143 :: (leB i 4 ++ rest)) (n := 1) (show _ = some _ from rfl)
      have n4 : nmR (15 :: 143 :: (leB i 4 ++ rest)) 2 4 = i % 4294967296 := nm_k (i := i) (r := rest) rfl (by simp [leB_length] <;> omega)
      refine ⟨?_, ?_, ?_, ?_⟩
      all_goals exact qIb2
theorem gs_33 (d s z i : Int) (rest : List Int) (h : okI ⟨33, d, s, z, i⟩ = true) : RdOk ⟨33, d, s, z, i⟩ rest := by
  have hz := ok_sz h
  have hf := ok_fit h
  clear h
  simp [szI] at hz
  unfold RdOk
  rcases hz with rfl | rfl
  · simp [fitI, fitJ, isR, isM, isL, isC, isB, isW4, inZ, pwZ] at hf
    have b1 : d = 0 ∧ -128 ≤ i ∧ i ≤ 127 ∧ (s = 0) := by omega
    obtain ⟨rfl, i1, i2, hc⟩ := b1
    have sb := sg_b i1 i2
    have hi : 0 ≤ i % 256 ∧ i % 256 < 256 := by omega
    clear hf
    subst hc
    · have e : bodyI ⟨33, 0, 0, 8, i⟩ = [235, i % 256] := rfl
      rw [e]
      generalize i % 256 = j at *
      clear e
      simp only [List.cons_append, List.nil_append]
      have n0 := nm_1 (c := 235 :: j :: rest) (n := 0) (show _ = some _ from rfl)
      have n1 := nm_1 (c := 235 :: j :: rest) (n := 1) (show _ = some _ from rfl)
      refine ⟨?_, ?_, ?_, ?_⟩
      all_goals exact qIb3
  · simp [fitI, fitJ, isR, isM, isL, isC, isB, isW4, inZ, pwZ] at hf
    have b1 : d = 0 ∧ -2147483648 ≤ i ∧ i ≤ 2147483647 ∧ (s = 0) := by omega
    obtain ⟨rfl, i1, i2, hc⟩ := b1
    have d4 := rd4 i rest
    have w4 := sg_w i1 i2
    have lb := leB_byte i 4
    have ll := leB_length i 4
    clear hf
    subst hc
    · have e : bodyI ⟨33, 0, 0, 32, i⟩ = 233 :: leB i 4 := rfl
      rw [e]
      clear e
      simp only [List.cons_append, List.nil_append]
      have n0 := nm_1 (c := 233 :: (leB i 4 ++ rest)) (n := 0) (show _ = some _ from rfl)
      have n4 : nmR (233 :: (leB i 4 ++ rest)) 1 4 = i % 4294967296 := nm_k (i := i) (r := rest) rfl (by simp [leB_length] <;> omega)
      refine ⟨?_, ?_, ?_, ?_⟩
      all_goals first | (simp [gsP, movP, secP, grpP, oneI, grpI, d4, w4, ll]; done) | (simp only [gsR, secR, twoR, grpI, n0]; simp [n4, w4]; done) | (simp; done) | (intro b hb; simp only [List.mem_cons] at hb; rcases hb with rfl | hb; omega; first | exact lb b hb | (rcases hb with rfl | hb; omega; exact lb b hb))
theorem gs_34 (d s z i : Int) (rest : List Int) (h : okI ⟨34, d, s, z, i⟩ = true) : RdOk ⟨34, d, s, z, i⟩ rest := by
  have hz := ok_sz h
  have hf := ok_fit h
  clear h
  simp [szI] at hz
  unfold RdOk
  subst hz
  simp [fitI, fitJ, isR, isM, isL, isC, isB, isW4, inZ, pwZ] at hf
  obtain ⟨rfl, rfl, rfl⟩ : d = 0 ∧ s = 0 ∧ i = 0 := by omega
  have e : bodyI ⟨34, 0, 0, 32, 0⟩ = [244] := rfl
  rw [e]
  clear e hf
  simp only [List.cons_append, List.nil_append]
  have n0 := nm_1 (c := 244 :: rest) (n := 0) (show _ = some _ from rfl)
  refine ⟨?_, ?_, ?_, ?_⟩
  all_goals exact qIb9
theorem gs_35 (d s z i : Int) (rest : List Int) (h : okI ⟨35, d, s, z, i⟩ = true) : RdOk ⟨35, d, s, z, i⟩ rest := by
  have hz := ok_sz h
  have hf := ok_fit h
  clear h
  simp [szI] at hz
  unfold RdOk
  subst hz
  simp [fitI, fitJ, isR, isM, isL, isC, isB, isW4, inZ, pwZ] at hf
  obtain ⟨rfl, rfl, rfl⟩ : d = 0 ∧ s = 0 ∧ i = 0 := by omega
  have e : bodyI ⟨35, 0, 0, 32, 0⟩ = [15, 11] := rfl
  rw [e]
  clear e hf
  simp only [List.cons_append, List.nil_append]
  have n0 := nm_1 (c := 15 :: 11 :: rest) (n := 0) (show _ = some _ from rfl)
  have n1 := nm_1 (c := 15 :: 11 :: rest) (n := 1) (show _ = some _ from rfl)
  refine ⟨?_, ?_, ?_, ?_⟩
  all_goals first | (simp [gsP, movP, secP, grpP, oneI, grpI]; done) | (simp only [gsR, secR, twoR, grpI, n0, n1]; simp; done) | (simp only [gsR, secR, twoR, grpI, n0, n1]; simp; omega) | (simp; done) | (simp; omega) | (intro b hb; simp at hb; omega)
theorem gs_36 (d s z i : Int) (rest : List Int) (h : okI ⟨36, d, s, z, i⟩ = true) : RdOk ⟨36, d, s, z, i⟩ rest := by
  have hz := ok_sz h
  have hf := ok_fit h
  clear h
  simp [szI] at hz
  unfold RdOk
  subst hz
  simp [fitI, fitJ, isR, isM, isL, isC, isB, isW4, inZ, pwZ] at hf
  obtain ⟨rfl, rfl, rfl⟩ : d = 0 ∧ s = 0 ∧ i = 0 := by omega
  have e : bodyI ⟨36, 0, 0, 32, 0⟩ = [144] := rfl
  rw [e]
  clear e hf
  simp only [List.cons_append, List.nil_append]
  have n0 := nm_1 (c := 144 :: rest) (n := 0) (show _ = some _ from rfl)
  refine ⟨?_, ?_, ?_, ?_⟩
  all_goals exact qIb9
theorem gs_all {x : Ins} (h : okI x = true) (rest : List Int) : RdOk x rest := by
  have ho := ok_op h
  obtain ⟨p, d, s, z, i⟩ := x
  simp only at ho
  rcases (show p = 0 ∨ p = 1 ∨ p = 2 ∨ p = 3 ∨ p = 4 ∨ p = 5 ∨ p = 6 ∨ p = 7 ∨ p = 8 ∨ p = 9 ∨ p = 10 ∨ p = 11 ∨ p = 12 ∨ p = 13 ∨ p = 14 ∨ p = 15 ∨ p = 16 ∨ p = 17 ∨ p = 18 ∨ p = 19 ∨ p = 20 ∨ p = 21 ∨ p = 22 ∨ p = 23 ∨ p = 24 ∨ p = 25 ∨ p = 26 ∨ p = 27 ∨ p = 28 ∨ p = 29 ∨ p = 30 ∨ p = 31 ∨ p = 32 ∨ p = 33 ∨ p = 34 ∨ p = 35 ∨ p = 36 by omega) with rfl | rfl | rfl | rfl | rfl | rfl | rfl | rfl | rfl | rfl | rfl | rfl | rfl | rfl | rfl | rfl | rfl | rfl | rfl | rfl | rfl | rfl | rfl | rfl | rfl | rfl | rfl | rfl | rfl | rfl | rfl | rfl | rfl | rfl | rfl | rfl | rfl
  · exact gs_0 d s z i rest h
  · exact gs_1 d s z i rest h
  · exact gs_2 d s z i rest h
  · exact gs_3 d s z i rest h
  · exact gs_4 d s z i rest h
  · exact gs_5 d s z i rest h
  · exact gs_6 d s z i rest h
  · exact gs_7 d s z i rest h
  · exact gs_8 d s z i rest h
  · exact gs_9 d s z i rest h
  · exact gs_10 d s z i rest h
  · exact gs_11 d s z i rest h
  · exact gs_12 d s z i rest h
  · exact gs_13 d s z i rest h
  · exact gs_14 d s z i rest h
  · exact gs_15 d s z i rest h
  · exact gs_16 d s z i rest h
  · exact gs_17 d s z i rest h
  · exact gs_18 d s z i rest h
  · exact gs_19 d s z i rest h
  · exact gs_20 d s z i rest h
  · exact gs_21 d s z i rest h
  · exact gs_22 d s z i rest h
  · exact gs_23 d s z i rest h
  · exact gs_24 d s z i rest h
  · exact gs_25 d s z i rest h
  · exact gs_26 d s z i rest h
  · exact gs_27 d s z i rest h
  · exact gs_28 d s z i rest h
  · exact gs_29 d s z i rest h
  · exact gs_30 d s z i rest h
  · exact gs_31 d s z i rest h
  · exact gs_32 d s z i rest h
  · exact gs_33 d s z i rest h
  · exact gs_34 d s z i rest h
  · exact gs_35 d s z i rest h
  · exact gs_36 d s z i rest h
end Go.Proofs.Ytdojafpjipcbjaa
