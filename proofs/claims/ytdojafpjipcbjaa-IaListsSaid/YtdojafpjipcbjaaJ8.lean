/- What bytes begin with: the program's reading and the document's are one (plain law, no program in sight). -/
import Derived.Test.YtdojafpjipcbjaaJ7
namespace Go.Proofs.Ytdojafpjipcbjaa
set_option linter.unusedVariables false
set_option linter.unusedSimpArgs false
theorem enc_pre {x : Ins} (h : okI x = true) (r : List Int) : preI (encI x ++ r) = (if x.z = 16 then 1 else 0) ∧ sizI (encI x ++ r) = (if x.z = 16 then 16 else 32) ∧
    (encI x ++ r).drop (if x.z = 16 then 1 else 0) = bodyI x ++ r ∧ (encI x).length = (if x.z = 16 then 1 else 0) + (bodyI x).length := by
  obtain ⟨_, _, h3, _⟩ := gs_all h r
  unfold encI preI sizI
  by_cases c : x.z = 16
  · rw [if_pos c, if_pos c, if_pos c]
    refine ⟨rfl, rfl, rfl, ?_⟩
    simp; omega
  · rw [if_neg c, if_neg c, if_neg c]
    exact ⟨if_neg h3, if_neg h3, rfl, by simp⟩
theorem encI_byte {x : Ins} (h : okI x = true) : ∀ b ∈ encI x, 0 ≤ b ∧ b < 256 := by
  obtain ⟨_, _, _, h4⟩ := gs_all h []
  intro b hb
  unfold encI at hb
  split at hb
  · rcases List.mem_cons.1 hb with rfl | hb
    · omega
    · exact h4 b hb
  · exact h4 b hb
/-- The bytes of an instruction are read as it, whatever stands behind them. -/
theorem decI_enc {x : Ins} (h : okI x = true) (r : List Int) : decI (encI x ++ r) = some (x, (encI x).length) := by
  obtain ⟨p1, p2, p3, p4⟩ := enc_pre h r
  obtain ⟨h1, h2, h3, _⟩ := gs_all h r
  unfold decI
  rw [p1, p2, p3, h1]
  simp only
  rw [← p4, if_pos]
  refine ⟨⟨?_, h⟩, ?_⟩
  · simp
  · simp
theorem decR_enc {x : Ins} (h : okI x = true) (r : List Int) : decR (encI x ++ r) = some (x, (encI x).length) := by
  obtain ⟨p1, p2, p3, p4⟩ := enc_pre h r
  obtain ⟨h1, h2, h3, _⟩ := gs_all h r
  unfold decR
  rw [p1, p2, p3, h2, if_pos ⟨h, List.prefix_append _ _⟩]
theorem decI_is {b : List Int} {x : Ins} {n : Nat} (h : decI b = some (x, n)) : okI x = true ∧ n ≤ b.length ∧ encI x = b.take n ∧ (encI x).length = n := by
  unfold decI at h
  split at h
  · rename_i c
    obtain ⟨⟨c1, c2⟩, c3⟩ := c
    cases h
    refine ⟨c2, c1, c3, ?_⟩
    rw [c3, List.length_take]; omega
  · cases h
theorem decR_is {b : List Int} {x : Ins} {n : Nat} (h : decR b = some (x, n)) : okI x = true ∧ n ≤ b.length ∧ encI x = b.take n ∧ (encI x).length = n := by
  unfold decR at h
  split at h
  · rename_i c
    obtain ⟨c1, c2⟩ := c
    cases h
    exact ⟨c1, c2.length_le, List.prefix_iff_eq_take.1 c2, rfl⟩
  · cases h
theorem decR_eq (b : List Int) : decR b = decI b := by
  cases h : decI b with
  | some y =>
    obtain ⟨x, n⟩ := y
    obtain ⟨h1, h2, h3, h4⟩ := decI_is h
    have := decR_enc h1 (b.drop n)
    rw [h3, List.take_append_drop] at this
    rw [this, ← h3, h4]
  | none =>
    cases h' : decR b with
    | none => rfl
    | some y =>
      obtain ⟨x, n⟩ := y
      obtain ⟨h1, h2, h3, h4⟩ := decR_is h'
      have := decI_enc h1 (b.drop n)
      rw [h3, List.take_append_drop] at this
      rw [this] at h
      cases h
/-- No instruction's bytes are the beginning of another one's. -/
theorem decI_short {x : Ins} (h : okI x = true) : decI ((encI x).take ((encI x).length - 1)) = none := by
  cases h' : decI ((encI x).take ((encI x).length - 1)) with
  | none => rfl
  | some y =>
    obtain ⟨y, n⟩ := y
    obtain ⟨h1, h2, h3, h4⟩ := decI_is h'
    have hl : 0 < (encI x).length := by
      rcases Nat.eq_zero_or_pos (encI x).length with e | e
      · have h5 := decI_enc h [255]
        rw [List.length_eq_zero_iff.1 e] at h5
        have : decI ([] ++ [255]) = none := by decide
        rw [this] at h5; cases h5
      · exact e
    rw [List.length_take] at h2
    rw [List.take_take] at h3
    have e : encI x = encI y ++ (encI x).drop (min n ((encI x).length - 1)) := by rw [h3, List.take_append_drop]
    have h6 := decI_enc h1 ((encI x).drop (min n ((encI x).length - 1)))
    rw [← e] at h6
    have h7 := decI_enc h []
    rw [List.append_nil, h6] at h7
    cases h7
    omega
theorem enc_pos {x : Ins} (h : okI x = true) : 0 < (encI x).length := by
  rcases Nat.eq_zero_or_pos (encI x).length with e | e
  · have h5 := decI_enc h [255]
    rw [List.length_eq_zero_iff.1 e] at h5
    have : decI ([] ++ [255]) = none := by decide
    rw [this] at h5; cases h5
  · exact e
end Go.Proofs.Ytdojafpjipcbjaa
