/- Execute of a machine of the second set: one contract. -/
import Derived.Laws.Tables
import Derived.Laws.CopyOwn
import Derived.Deep.MidRow
import Derived.Test.YtdojafpjipcbjaaF20
import Derived.Test.YtdojafpjipcbjaaF21
import Derived.Test.YtdojafpjipcbjaaF22
namespace Go.Proofs.Ytdojafpjipcbjaa
open Go.RowKit Go.Maps
set_option linter.unusedVariables false
set_option linter.unusedSimpArgs false
def ex_0 (d s : Nat) (i z : Int) (c : Mac) : Mac := { c with r := c.r.set d (wrR (c.r.getD d 0) (c.r.getD s 0 % pwZ z) z) }
def ex_1 (d s : Nat) (i z : Int) (c : Mac) : Mac := { c with r := c.r.set d (wrR (c.r.getD d 0) (i % 4294967296) z) }
def ex_7 (d s : Nat) (i z : Int) (c : Mac) : Mac := { c with r := c.r.set d (wrR (c.r.getD d 0) (adN (c.r.getD d 0 % pwZ z) (c.r.getD s 0 % pwZ z) z) z), f := rsF (adN (c.r.getD d 0 % pwZ z) (c.r.getD s 0 % pwZ z) z) z (adO (c.r.getD d 0 % pwZ z) (c.r.getD s 0 % pwZ z) z) }
def ex_8 (d s : Nat) (i z : Int) (c : Mac) : Mac := { c with r := c.r.set d (wrR (c.r.getD d 0) (orW (c.r.getD d 0 % pwZ z) (c.r.getD s 0 % pwZ z)) z), f := rsF (orW (c.r.getD d 0 % pwZ z) (c.r.getD s 0 % pwZ z)) z 0 }
def ex_9 (d s : Nat) (i z : Int) (c : Mac) : Mac := { c with r := c.r.set d (wrR (c.r.getD d 0) (anW (c.r.getD d 0 % pwZ z) (c.r.getD s 0 % pwZ z)) z), f := rsF (anW (c.r.getD d 0 % pwZ z) (c.r.getD s 0 % pwZ z)) z 0 }
def ex_10 (d s : Nat) (i z : Int) (c : Mac) : Mac := { c with r := c.r.set d (wrR (c.r.getD d 0) (suN (c.r.getD d 0 % pwZ z) (c.r.getD s 0 % pwZ z) z) z), f := rsF (suN (c.r.getD d 0 % pwZ z) (c.r.getD s 0 % pwZ z) z) z (suO (c.r.getD d 0 % pwZ z) (c.r.getD s 0 % pwZ z) z) }
def ex_11 (d s : Nat) (i z : Int) (c : Mac) : Mac := { c with r := c.r.set d (wrR (c.r.getD d 0) (xoW (c.r.getD d 0 % pwZ z) (c.r.getD s 0 % pwZ z)) z), f := rsF (xoW (c.r.getD d 0 % pwZ z) (c.r.getD s 0 % pwZ z)) z 0 }
def ex_12 (d s : Nat) (i z : Int) (c : Mac) : Mac := { c with f := rsF (suN (c.r.getD d 0 % pwZ z) (c.r.getD s 0 % pwZ z) z) z (suO (c.r.getD d 0 % pwZ z) (c.r.getD s 0 % pwZ z) z) }
def ex_13 (d s : Nat) (i z : Int) (c : Mac) : Mac := { c with f := rsF (anW (c.r.getD d 0 % pwZ z) (c.r.getD s 0 % pwZ z)) z 0 }
def ex_14 (d s : Nat) (i z : Int) (c : Mac) : Mac := { c with r := c.r.set d (wrR (c.r.getD d 0) (adN (c.r.getD d 0 % pwZ z) (i % 4294967296) z) z), f := rsF (adN (c.r.getD d 0 % pwZ z) (i % 4294967296) z) z (adO (c.r.getD d 0 % pwZ z) (i % 4294967296) z) }
def ex_15 (d s : Nat) (i z : Int) (c : Mac) : Mac := { c with r := c.r.set d (wrR (c.r.getD d 0) (orW (c.r.getD d 0 % pwZ z) (i % 4294967296)) z), f := rsF (orW (c.r.getD d 0 % pwZ z) (i % 4294967296)) z 0 }
def ex_16 (d s : Nat) (i z : Int) (c : Mac) : Mac := { c with r := c.r.set d (wrR (c.r.getD d 0) (anW (c.r.getD d 0 % pwZ z) (i % 4294967296)) z), f := rsF (anW (c.r.getD d 0 % pwZ z) (i % 4294967296)) z 0 }
def ex_17 (d s : Nat) (i z : Int) (c : Mac) : Mac := { c with r := c.r.set d (wrR (c.r.getD d 0) (suN (c.r.getD d 0 % pwZ z) (i % 4294967296) z) z), f := rsF (suN (c.r.getD d 0 % pwZ z) (i % 4294967296) z) z (suO (c.r.getD d 0 % pwZ z) (i % 4294967296) z) }
def ex_18 (d s : Nat) (i z : Int) (c : Mac) : Mac := { c with r := c.r.set d (wrR (c.r.getD d 0) (xoW (c.r.getD d 0 % pwZ z) (i % 4294967296)) z), f := rsF (xoW (c.r.getD d 0 % pwZ z) (i % 4294967296)) z 0 }
def ex_19 (d s : Nat) (i z : Int) (c : Mac) : Mac := { c with f := rsF (suN (c.r.getD d 0 % pwZ z) (i % 4294967296) z) z (suO (c.r.getD d 0 % pwZ z) (i % 4294967296) z) }
def ex_20 (d s : Nat) (i z : Int) (c : Mac) : Mac := (mulM d s c)
def ex_21 (d s : Nat) (i z : Int) (c : Mac) : Mac := (shM 21 z d c)
def ex_22 (d s : Nat) (i z : Int) (c : Mac) : Mac := (shM 22 z d c)
def ex_23 (d s : Nat) (i z : Int) (c : Mac) : Mac := (shM 23 z d c)
def ex_24 (d s : Nat) (i z : Int) (c : Mac) : Mac := { c with r := c.r.set d (wrR (c.r.getD d 0) (4294967295 - (c.r.getD d 0 % pwZ z)) z) }
def ex_25 (d s : Nat) (i z : Int) (c : Mac) : Mac := { c with r := c.r.set d (wrR (c.r.getD d 0) (suN 0 (c.r.getD d 0 % pwZ z) z) z), f := rsF (suN 0 (c.r.getD d 0 % pwZ z) z) z (suO 0 (c.r.getD d 0 % pwZ z) z) }
def ex_28 (d s : Nat) (i z : Int) (c : Mac) : Mac := { c with r := c.r.set 2 (cdV (c.r.getD 0 0)) }
def ex_29 (d s : Nat) (i z : Int) (c : Mac) : Mac := { c with r := c.r.set d (c.r.getD d 0 / 256 * 256 + (if hoB s c.f = true then 1 else 0)) }
def ex_30 (d s : Nat) (i z : Int) (c : Mac) : Mac := { c with r := c.r.set d (c.r.getD s 0 % 256) }
def ex_31 (d s : Nat) (i z : Int) (c : Mac) : Mac := (if hoB i c.f = true then { c with r := c.r.set d (c.r.getD s 0) } else c)
def ex_34 (d s : Nat) (i z : Int) (c : Mac) : Mac := { c with e := 1 }
def ex_35 (d s : Nat) (i z : Int) (c : Mac) : Mac := { c with e := 2 }
/-- A load of k bytes into register d. -/
def ldM (d s k : Nat) (i z : Int) (c : Mac) : Option Mac := if (atM c s i).toNat + k ≤ c.m.length then some { c with r := c.r.set d (wrR (c.r.getD d 0) (ldV c.m (atM c s i).toNat k) z) } else none
/-- A store of k bytes of register s. -/
def stM (d s k : Nat) (i z : Int) (c : Mac) : Option Mac := if (atM c d i).toNat + k ≤ c.m.length then some { c with m := putM c.m (atM c d i).toNat (leB (c.r.getD s 0) k) } else none
/-- What an instruction does to a machine; none: a fault. -/
def exO (o : Int) (d s : Nat) (i z : Int) (c : Mac) : Option Mac :=
  if o = 0 then some (ex_0 d s i z c)
  else if o = 1 then some (ex_1 d s i z c)
  else if o = 2 then ldM d s (if z = 16 then 2 else 4) i z c
  else if o = 3 then stM d s (if z = 16 then 2 else 4) i z c
  else if o = 4 then ldM d s 1 i z c
  else if o = 5 then ldM d s 2 i z c
  else if o = 6 then stM d s 1 i z c
  else if o = 7 then some (ex_7 d s i z c)
  else if o = 8 then some (ex_8 d s i z c)
  else if o = 9 then some (ex_9 d s i z c)
  else if o = 10 then some (ex_10 d s i z c)
  else if o = 11 then some (ex_11 d s i z c)
  else if o = 12 then some (ex_12 d s i z c)
  else if o = 13 then some (ex_13 d s i z c)
  else if o = 14 then some (ex_14 d s i z c)
  else if o = 15 then some (ex_15 d s i z c)
  else if o = 16 then some (ex_16 d s i z c)
  else if o = 17 then some (ex_17 d s i z c)
  else if o = 18 then some (ex_18 d s i z c)
  else if o = 19 then some (ex_19 d s i z c)
  else if o = 20 then some (ex_20 d s i z c)
  else if o = 21 then some (ex_21 d s i z c)
  else if o = 22 then some (ex_22 d s i z c)
  else if o = 23 then some (ex_23 d s i z c)
  else if o = 24 then some (ex_24 d s i z c)
  else if o = 25 then some (ex_25 d s i z c)
  else if o = 26 then divU d c
  else if o = 27 then divS d c
  else if o = 28 then some (ex_28 d s i z c)
  else if o = 29 then some (ex_29 d s i z c)
  else if o = 30 then some (ex_30 d s i z c)
  else if o = 31 then some (ex_31 d s i z c)
  else if o = 32 then some c
  else if o = 33 then some c
  else if o = 34 then some (ex_34 d s i z c)
  else if o = 35 then some (ex_35 d s i z c)
  else if o = 36 then some c
  else some c
def exM (x : Ins) (z : Int) (c : Mac) : Option Mac := exO x.o x.d.toNat x.s.toNat x.i z c
/-- The world after execute. -/
def ExP (base T M : Nat) (mv : Value) (x : Ins) (z : Int) (c : Mac) (o : Option Mac) (w w' : World) : Prop :=
  (match o with | some c' => MSt base T M mv x z false c' w' | none => ∃ c', MSt base T M mv x z true c' w' ∧ c'.m = c.m) ∧ Ch T M mv w w'
theorem isC_iff (n : Int) : isC n = true ↔ 0 ≤ n ∧ n ≤ 15 ∧ n ≠ 10 ∧ n ≠ 11 := by simp [isC]
theorem ok_facts {x : Ins} (h : fitI x = true) : (0 ≤ x.o ∧ x.o ≤ 36) ∧ (0 ≤ x.d ∧ x.d < 32) ∧ (0 ≤ x.s ∧ x.s < 32) ∧ (x.o = 29 → isC x.s = true) ∧ (x.o = 31 → isC x.i = true) := by
  unfold fitI at h
  rw [isC_iff, isC_iff]
  by_cases c1 : x.o = 0 ∨ (7 ≤ x.o ∧ x.o ≤ 13) ∨ x.o = 20
  · rw [if_pos c1] at h
    simp only [isR, isM, isL, isC, Bool.and_eq_true, decide_eq_true_eq, beq_iff_eq, bne_iff_ne] at h; omega
  rw [if_neg c1] at h; clear c1
  by_cases c1 : x.o = 1 ∨ (14 ≤ x.o ∧ x.o ≤ 19)
  · rw [if_pos c1] at h
    simp only [isR, isM, isL, isC, Bool.and_eq_true, decide_eq_true_eq, beq_iff_eq, bne_iff_ne] at h; omega
  rw [if_neg c1] at h; clear c1
  by_cases c1 : x.o = 2 ∨ x.o = 4 ∨ x.o = 5
  · rw [if_pos c1] at h
    simp only [isR, isM, isL, isC, Bool.and_eq_true, decide_eq_true_eq, beq_iff_eq, bne_iff_ne] at h; omega
  rw [if_neg c1] at h; clear c1
  by_cases c1 : x.o = 3
  · rw [if_pos c1] at h
    simp only [isR, isM, isL, isC, Bool.and_eq_true, decide_eq_true_eq, beq_iff_eq, bne_iff_ne] at h; omega
  rw [if_neg c1] at h; clear c1
  by_cases c1 : x.o = 6
  · rw [if_pos c1] at h
    simp only [isR, isM, isL, isC, Bool.and_eq_true, decide_eq_true_eq, beq_iff_eq, bne_iff_ne] at h; omega
  rw [if_neg c1] at h; clear c1
  by_cases c1 : 21 ≤ x.o ∧ x.o ≤ 27
  · rw [if_pos c1] at h
    simp only [isR, isM, isL, isC, Bool.and_eq_true, decide_eq_true_eq, beq_iff_eq, bne_iff_ne] at h; omega
  rw [if_neg c1] at h; clear c1
  by_cases c1 : x.o = 28 ∨ x.o = 34 ∨ x.o = 35 ∨ x.o = 36
  · rw [if_pos c1] at h
    simp only [isR, isM, isL, isC, Bool.and_eq_true, decide_eq_true_eq, beq_iff_eq, bne_iff_ne] at h; omega
  rw [if_neg c1] at h; clear c1
  by_cases c1 : x.o = 29
  · rw [if_pos c1] at h
    simp only [isR, isM, isL, isC, Bool.and_eq_true, decide_eq_true_eq, beq_iff_eq, bne_iff_ne] at h; omega
  rw [if_neg c1] at h; clear c1
  by_cases c1 : x.o = 30
  · rw [if_pos c1] at h
    simp only [isR, isM, isL, isC, Bool.and_eq_true, decide_eq_true_eq, beq_iff_eq, bne_iff_ne] at h; omega
  rw [if_neg c1] at h; clear c1
  by_cases c1 : x.o = 31
  · rw [if_pos c1] at h
    simp only [isR, isM, isL, isC, Bool.and_eq_true, decide_eq_true_eq, beq_iff_eq, bne_iff_ne] at h; omega
  rw [if_neg c1] at h; clear c1
  by_cases c1 : x.o = 32
  · rw [if_pos c1] at h
    simp only [isR, isM, isL, isC, Bool.and_eq_true, decide_eq_true_eq, beq_iff_eq, bne_iff_ne] at h; omega
  rw [if_neg c1] at h; clear c1
  by_cases c1 : x.o = 33
  · rw [if_pos c1] at h
    simp only [isR, isM, isL, isC, Bool.and_eq_true, decide_eq_true_eq, beq_iff_eq, bne_iff_ne] at h; omega
  rw [if_neg c1] at h; clear c1
  cases h
section
variable {base T M : Nat} {mv : Value} {x : Ins} {z : Int} {c c' : Mac} {w w' : World}
theorem ExP.ok (h : MSt base T M mv x z false c' w' ∧ Ch T M mv w w') : ExP base T M mv x z c (some c') w w' := h
theorem ExP.bad (h : MSt base T M mv x z true c' w' ∧ Ch T M mv w w') (hm : c'.m = c.m) : ExP base T M mv x z c none w w' := ⟨⟨c', h.1, hm⟩, h.2⟩
theorem ExP.div {o : Option Mac} (h : MSt base T M mv x z (divF o false) (o.getD c) w' ∧ Ch T M mv w w') : ExP base T M mv x z c o w w' := by
  cases o with
  | none => exact ⟨⟨c, h.1, rfl⟩, h.2⟩
  | some c' => exact h
/-- Where memory lies, when k bytes at q lie in it. -/
theorem MSt.where (h : MSt base T M mv x z false c w) {q k : Nat} (hk : 0 < k) (hg : q + k ≤ c.m.length) : ∃ D cap, mv = .slice (some ⟨D, 0, none⟩) c.m.length cap ∧ c.m.length ≤ cap ∧ cap ≤ 9223372036854775807 := by
  rcases h.v with ⟨e, _⟩ | ⟨D, cap, e, h1, h2, _⟩
  · rw [e] at hg; simp at hg; omega
  · exact ⟨D, cap, e, h1, h2⟩
theorem at_nat (c : Mac) (s : Nat) (i : Int) : atM c s i = ((atM c s i).toNat : Int) := by
  have : 0 ≤ atM c s i := Int.emod_nonneg _ (by decide)
  omega
theorem mem_2_16 (d s : Nat) (hd : d < 32) (hs : s < 32) (w : World) (h : MSt base T M mv x 16 false c w) (hxo : x.o = 2) (hxd : x.d = (d : Int)) (hxs : x.s = (s : Int)) (hi : I64 x.i) : Calls Try.prog 56 #[.pointer (some ⟨T, 0, none⟩)] w fun e w' => e = .returned (.tuple #[]) ∧ ExP base T M mv x 16 c (ldM d s 2 x.i 16 c) w w' := by
  unfold ldM
  split
  · rename_i hg
    obtain ⟨D, cap, hmv, h1, h2⟩ := h.where (by decide : 0 < 2) hg
    exact (exec_2_16_ok d s hd hs w h hxo hxd hxs D cap hmv h1 h2 _ (at_nat c s x.i) hg).mono fun e w' h' => ⟨h'.1, ExP.ok h'.2⟩
  · rename_i hg
    have := at_nat c s x.i
    exact (exec_2_16_bad d s hd hs w h hxo hxd hxs hi (by omega)).mono fun e w' h' => ⟨h'.1, ExP.bad h'.2 rfl⟩
theorem mem_2_32 (d s : Nat) (hd : d < 32) (hs : s < 32) (w : World) (h : MSt base T M mv x 32 false c w) (hxo : x.o = 2) (hxd : x.d = (d : Int)) (hxs : x.s = (s : Int)) (hi : I64 x.i) : Calls Try.prog 56 #[.pointer (some ⟨T, 0, none⟩)] w fun e w' => e = .returned (.tuple #[]) ∧ ExP base T M mv x 32 c (ldM d s 4 x.i 32 c) w w' := by
  unfold ldM
  split
  · rename_i hg
    obtain ⟨D, cap, hmv, h1, h2⟩ := h.where (by decide : 0 < 4) hg
    exact (exec_2_32_ok d s hd hs w h hxo hxd hxs D cap hmv h1 h2 _ (at_nat c s x.i) hg).mono fun e w' h' => ⟨h'.1, ExP.ok h'.2⟩
  · rename_i hg
    have := at_nat c s x.i
    exact (exec_2_32_bad d s hd hs w h hxo hxd hxs hi (by omega)).mono fun e w' h' => ⟨h'.1, ExP.bad h'.2 rfl⟩
theorem mem_3_16 (d s : Nat) (hd : d < 32) (hs : s < 32) (w : World) (h : MSt base T M mv x 16 false c w) (hxo : x.o = 3) (hxd : x.d = (d : Int)) (hxs : x.s = (s : Int)) (hi : I64 x.i) : Calls Try.prog 56 #[.pointer (some ⟨T, 0, none⟩)] w fun e w' => e = .returned (.tuple #[]) ∧ ExP base T M mv x 16 c (stM d s 2 x.i 16 c) w w' := by
  unfold stM
  split
  · rename_i hg
    obtain ⟨D, cap, hmv, h1, h2⟩ := h.where (by decide : 0 < 2) hg
    exact (exec_3_16_ok d s hd hs w h hxo hxd hxs D cap hmv h1 h2 _ (at_nat c d x.i) hg).mono fun e w' h' => ⟨h'.1, ExP.ok h'.2⟩
  · rename_i hg
    have := at_nat c d x.i
    exact (exec_3_16_bad d s hd hs w h hxo hxd hxs hi (by omega)).mono fun e w' h' => ⟨h'.1, ExP.bad h'.2 rfl⟩
theorem mem_3_32 (d s : Nat) (hd : d < 32) (hs : s < 32) (w : World) (h : MSt base T M mv x 32 false c w) (hxo : x.o = 3) (hxd : x.d = (d : Int)) (hxs : x.s = (s : Int)) (hi : I64 x.i) : Calls Try.prog 56 #[.pointer (some ⟨T, 0, none⟩)] w fun e w' => e = .returned (.tuple #[]) ∧ ExP base T M mv x 32 c (stM d s 4 x.i 32 c) w w' := by
  unfold stM
  split
  · rename_i hg
    obtain ⟨D, cap, hmv, h1, h2⟩ := h.where (by decide : 0 < 4) hg
    exact (exec_3_32_ok d s hd hs w h hxo hxd hxs D cap hmv h1 h2 _ (at_nat c d x.i) hg).mono fun e w' h' => ⟨h'.1, ExP.ok h'.2⟩
  · rename_i hg
    have := at_nat c d x.i
    exact (exec_3_32_bad d s hd hs w h hxo hxd hxs hi (by omega)).mono fun e w' h' => ⟨h'.1, ExP.bad h'.2 rfl⟩
theorem mem_4 (d s : Nat) (hd : d < 32) (hs : s < 32) (w : World) (h : MSt base T M mv x z false c w) (hxo : x.o = 4) (hxd : x.d = (d : Int)) (hxs : x.s = (s : Int)) (hi : I64 x.i) : Calls Try.prog 56 #[.pointer (some ⟨T, 0, none⟩)] w fun e w' => e = .returned (.tuple #[]) ∧ ExP base T M mv x z c (ldM d s 1 x.i z c) w w' := by
  unfold ldM
  split
  · rename_i hg
    obtain ⟨D, cap, hmv, h1, h2⟩ := h.where (by decide : 0 < 1) hg
    exact (exec_4_ok d s hd hs w h hxo hxd hxs D cap hmv h1 h2 _ (at_nat c s x.i) hg).mono fun e w' h' => ⟨h'.1, ExP.ok h'.2⟩
  · rename_i hg
    have := at_nat c s x.i
    exact (exec_4_bad d s hd hs w h hxo hxd hxs hi (by omega)).mono fun e w' h' => ⟨h'.1, ExP.bad h'.2 rfl⟩
theorem mem_5 (d s : Nat) (hd : d < 32) (hs : s < 32) (w : World) (h : MSt base T M mv x z false c w) (hxo : x.o = 5) (hxd : x.d = (d : Int)) (hxs : x.s = (s : Int)) (hi : I64 x.i) : Calls Try.prog 56 #[.pointer (some ⟨T, 0, none⟩)] w fun e w' => e = .returned (.tuple #[]) ∧ ExP base T M mv x z c (ldM d s 2 x.i z c) w w' := by
  unfold ldM
  split
  · rename_i hg
    obtain ⟨D, cap, hmv, h1, h2⟩ := h.where (by decide : 0 < 2) hg
    exact (exec_5_ok d s hd hs w h hxo hxd hxs D cap hmv h1 h2 _ (at_nat c s x.i) hg).mono fun e w' h' => ⟨h'.1, ExP.ok h'.2⟩
  · rename_i hg
    have := at_nat c s x.i
    exact (exec_5_bad d s hd hs w h hxo hxd hxs hi (by omega)).mono fun e w' h' => ⟨h'.1, ExP.bad h'.2 rfl⟩
theorem mem_6 (d s : Nat) (hd : d < 32) (hs : s < 32) (w : World) (h : MSt base T M mv x z false c w) (hxo : x.o = 6) (hxd : x.d = (d : Int)) (hxs : x.s = (s : Int)) (hi : I64 x.i) : Calls Try.prog 56 #[.pointer (some ⟨T, 0, none⟩)] w fun e w' => e = .returned (.tuple #[]) ∧ ExP base T M mv x z c (stM d s 1 x.i z c) w w' := by
  unfold stM
  split
  · rename_i hg
    obtain ⟨D, cap, hmv, h1, h2⟩ := h.where (by decide : 0 < 1) hg
    exact (exec_6_ok d s hd hs w h hxo hxd hxs D cap hmv h1 h2 _ (at_nat c d x.i) hg).mono fun e w' h' => ⟨h'.1, ExP.ok h'.2⟩
  · rename_i hg
    have := at_nat c d x.i
    exact (exec_6_bad d s hd hs w h hxo hxd hxs hi (by omega)).mono fun e w' h' => ⟨h'.1, ExP.bad h'.2 rfl⟩
theorem execute_nat (d s : Nat) (hd : d < 32) (hs : s < 32) (w : World) (h : MSt base T M mv x z false c w) (o0 : 0 ≤ x.o ∧ x.o ≤ 36) (hxd : x.d = (d : Int)) (hxs : x.s = (s : Int)) (hi : I64 x.i) (h29 : x.o = 29 → isC (s : Int) = true) (h31 : x.o = 31 → isC x.i = true) : Calls Try.prog 56 #[.pointer (some ⟨T, 0, none⟩)] w fun e w' => e = .returned (.tuple #[]) ∧ ExP base T M mv x z c (exO x.o d s x.i z c) w w' := by
  have ho : x.o = 0 ∨ x.o = 1 ∨ x.o = 2 ∨ x.o = 3 ∨ x.o = 4 ∨ x.o = 5 ∨ x.o = 6 ∨ x.o = 7 ∨ x.o = 8 ∨ x.o = 9 ∨ x.o = 10 ∨ x.o = 11 ∨ x.o = 12 ∨ x.o = 13 ∨ x.o = 14 ∨ x.o = 15 ∨ x.o = 16 ∨ x.o = 17 ∨ x.o = 18 ∨ x.o = 19 ∨ x.o = 20 ∨ x.o = 21 ∨ x.o = 22 ∨ x.o = 23 ∨ x.o = 24 ∨ x.o = 25 ∨ x.o = 26 ∨ x.o = 27 ∨ x.o = 28 ∨ x.o = 29 ∨ x.o = 30 ∨ x.o = 31 ∨ x.o = 32 ∨ x.o = 33 ∨ x.o = 34 ∨ x.o = 35 ∨ x.o = 36 := by omega
  rcases ho with e | e | e | e | e | e | e | e | e | e | e | e | e | e | e | e | e | e | e | e | e | e | e | e | e | e | e | e | e | e | e | e | e | e | e | e | e
  · rw [e, show exO 0 d s x.i z c = some (ex_0 d s x.i z c) from rfl]; exact (exec_0 d s hd hs w h e hxd hxs).mono fun e w' h' => ⟨h'.1, ExP.ok h'.2⟩
  · rw [e, show exO 1 d s x.i z c = some (ex_1 d s x.i z c) from rfl]; exact (exec_1 d s hd hs w h e hxd hxs).mono fun e w' h' => ⟨h'.1, ExP.ok h'.2⟩
  · rw [e, show exO 2 d s x.i z c = ldM d s (if z = 16 then 2 else 4) x.i z c from rfl]
    rcases h.zz with rfl | rfl
    · exact mem_2_16 d s hd hs w h e hxd hxs hi
    · exact mem_2_32 d s hd hs w h e hxd hxs hi
  · rw [e, show exO 3 d s x.i z c = stM d s (if z = 16 then 2 else 4) x.i z c from rfl]
    rcases h.zz with rfl | rfl
    · exact mem_3_16 d s hd hs w h e hxd hxs hi
    · exact mem_3_32 d s hd hs w h e hxd hxs hi
  · rw [e, show exO 4 d s x.i z c = ldM d s 1 x.i z c from rfl]; exact mem_4 d s hd hs w h e hxd hxs hi
  · rw [e, show exO 5 d s x.i z c = ldM d s 2 x.i z c from rfl]; exact mem_5 d s hd hs w h e hxd hxs hi
  · rw [e, show exO 6 d s x.i z c = stM d s 1 x.i z c from rfl]; exact mem_6 d s hd hs w h e hxd hxs hi
  · rw [e, show exO 7 d s x.i z c = some (ex_7 d s x.i z c) from rfl]; exact (exec_7 d s hd hs w h e hxd hxs).mono fun e w' h' => ⟨h'.1, ExP.ok h'.2⟩
  · rw [e, show exO 8 d s x.i z c = some (ex_8 d s x.i z c) from rfl]; exact (exec_8 d s hd hs w h e hxd hxs).mono fun e w' h' => ⟨h'.1, ExP.ok h'.2⟩
  · rw [e, show exO 9 d s x.i z c = some (ex_9 d s x.i z c) from rfl]; exact (exec_9 d s hd hs w h e hxd hxs).mono fun e w' h' => ⟨h'.1, ExP.ok h'.2⟩
  · rw [e, show exO 10 d s x.i z c = some (ex_10 d s x.i z c) from rfl]; exact (exec_10 d s hd hs w h e hxd hxs).mono fun e w' h' => ⟨h'.1, ExP.ok h'.2⟩
  · rw [e, show exO 11 d s x.i z c = some (ex_11 d s x.i z c) from rfl]; exact (exec_11 d s hd hs w h e hxd hxs).mono fun e w' h' => ⟨h'.1, ExP.ok h'.2⟩
  · rw [e, show exO 12 d s x.i z c = some (ex_12 d s x.i z c) from rfl]; exact (exec_12 d s hd hs w h e hxd hxs).mono fun e w' h' => ⟨h'.1, ExP.ok h'.2⟩
  · rw [e, show exO 13 d s x.i z c = some (ex_13 d s x.i z c) from rfl]; exact (exec_13 d s hd hs w h e hxd hxs).mono fun e w' h' => ⟨h'.1, ExP.ok h'.2⟩
  · rw [e, show exO 14 d s x.i z c = some (ex_14 d s x.i z c) from rfl]; exact (exec_14 d s hd hs w h e hxd hxs).mono fun e w' h' => ⟨h'.1, ExP.ok h'.2⟩
  · rw [e, show exO 15 d s x.i z c = some (ex_15 d s x.i z c) from rfl]; exact (exec_15 d s hd hs w h e hxd hxs).mono fun e w' h' => ⟨h'.1, ExP.ok h'.2⟩
  · rw [e, show exO 16 d s x.i z c = some (ex_16 d s x.i z c) from rfl]; exact (exec_16 d s hd hs w h e hxd hxs).mono fun e w' h' => ⟨h'.1, ExP.ok h'.2⟩
  · rw [e, show exO 17 d s x.i z c = some (ex_17 d s x.i z c) from rfl]; exact (exec_17 d s hd hs w h e hxd hxs).mono fun e w' h' => ⟨h'.1, ExP.ok h'.2⟩
  · rw [e, show exO 18 d s x.i z c = some (ex_18 d s x.i z c) from rfl]; exact (exec_18 d s hd hs w h e hxd hxs).mono fun e w' h' => ⟨h'.1, ExP.ok h'.2⟩
  · rw [e, show exO 19 d s x.i z c = some (ex_19 d s x.i z c) from rfl]; exact (exec_19 d s hd hs w h e hxd hxs).mono fun e w' h' => ⟨h'.1, ExP.ok h'.2⟩
  · rw [e, show exO 20 d s x.i z c = some (ex_20 d s x.i z c) from rfl]; exact (exec_20 d s hd hs w h e hxd hxs).mono fun e w' h' => ⟨h'.1, ExP.ok h'.2⟩
  · rw [e, show exO 21 d s x.i z c = some (ex_21 d s x.i z c) from rfl]; exact (exec_21 d s hd hs w h e hxd hxs).mono fun e w' h' => ⟨h'.1, ExP.ok h'.2⟩
  · rw [e, show exO 22 d s x.i z c = some (ex_22 d s x.i z c) from rfl]; exact (exec_22 d s hd hs w h e hxd hxs).mono fun e w' h' => ⟨h'.1, ExP.ok h'.2⟩
  · rw [e, show exO 23 d s x.i z c = some (ex_23 d s x.i z c) from rfl]; exact (exec_23 d s hd hs w h e hxd hxs).mono fun e w' h' => ⟨h'.1, ExP.ok h'.2⟩
  · rw [e, show exO 24 d s x.i z c = some (ex_24 d s x.i z c) from rfl]; exact (exec_24 d s hd hs w h e hxd hxs).mono fun e w' h' => ⟨h'.1, ExP.ok h'.2⟩
  · rw [e, show exO 25 d s x.i z c = some (ex_25 d s x.i z c) from rfl]; exact (exec_25 d s hd hs w h e hxd hxs).mono fun e w' h' => ⟨h'.1, ExP.ok h'.2⟩
  · rw [e, show exO 26 d s x.i z c = divU d c from rfl]; exact (exec_26 d s hd hs w h e hxd hxs).mono fun e w' h' => ⟨h'.1, ExP.div h'.2⟩
  · rw [e, show exO 27 d s x.i z c = divS d c from rfl]; exact (exec_27 d s hd hs w h e hxd hxs).mono fun e w' h' => ⟨h'.1, ExP.div h'.2⟩
  · rw [e, show exO 28 d s x.i z c = some (ex_28 d s x.i z c) from rfl]; exact (exec_28 d s hd hs w h e hxd hxs).mono fun e w' h' => ⟨h'.1, ExP.ok h'.2⟩
  · rw [e, show exO 29 d s x.i z c = some (ex_29 d s x.i z c) from rfl]; exact (exec_29 d s hd hs w h e hxd hxs (h29 e)).mono fun e w' h' => ⟨h'.1, ExP.ok h'.2⟩
  · rw [e, show exO 30 d s x.i z c = some (ex_30 d s x.i z c) from rfl]; exact (exec_30 d s hd hs w h e hxd hxs).mono fun e w' h' => ⟨h'.1, ExP.ok h'.2⟩
  · rw [e, show exO 31 d s x.i z c = some (ex_31 d s x.i z c) from rfl]; exact (exec_31 d s hd hs w h e hxd hxs (h31 e)).mono fun e w' h' => ⟨h'.1, ExP.ok h'.2⟩
  · rw [e, show exO 32 d s x.i z c = some c from rfl]; exact (exec_32 d s hd hs w h e hxd hxs).mono fun e w' h' => ⟨h'.1, ExP.ok h'.2⟩
  · rw [e, show exO 33 d s x.i z c = some c from rfl]; exact (exec_33 d s hd hs w h e hxd hxs).mono fun e w' h' => ⟨h'.1, ExP.ok h'.2⟩
  · rw [e, show exO 34 d s x.i z c = some (ex_34 d s x.i z c) from rfl]; exact (exec_34 d s hd hs w h e hxd hxs).mono fun e w' h' => ⟨h'.1, ExP.ok h'.2⟩
  · rw [e, show exO 35 d s x.i z c = some (ex_35 d s x.i z c) from rfl]; exact (exec_35 d s hd hs w h e hxd hxs).mono fun e w' h' => ⟨h'.1, ExP.ok h'.2⟩
  · rw [e, show exO 36 d s x.i z c = some c from rfl]; exact (exec_36 d s hd hs w h e hxd hxs).mono fun e w' h' => ⟨h'.1, ExP.ok h'.2⟩
theorem execute_any (w : World) (h : MSt base T M mv x z false c w) (hx : fitI x = true) (hi : I64 x.i) : Calls Try.prog 56 #[.pointer (some ⟨T, 0, none⟩)] w fun e w' => e = .returned (.tuple #[]) ∧ ExP base T M mv x z c (exM x z c) w w' := by
  obtain ⟨h1, h2, h3, h4, h5⟩ := ok_facts hx
  have e1 : x.d = (x.d.toNat : Int) := by omega
  have e2 : x.s = (x.s.toNat : Int) := by omega
  exact execute_nat x.d.toNat x.s.toNat (by omega) (by omega) w h h1 e1 e2 hi (fun e => by rw [← e2]; exact h4 e) h5
end
end Go.Proofs.Ytdojafpjipcbjaa
namespace Go.Proofs.Ytdojafpjipcbjaa
open Go.RowKit
set_option linter.unusedVariables false
set_option linter.unusedSimpArgs false
/-- Whether an instruction goes on elsewhere. -/
def jmpB (x : Ins) (f : Int) : Bool := if x.o = 33 then true else if x.o = 32 then hoB x.s f else false
set_option maxRecDepth 100000 in
set_option maxHeartbeats 1000000 in
theorem isJump_any (x : Ins) (f : Int) (w : World) (hc : x.o = 32 → isC x.s = true) (h0 : 0 ≤ f) (h1 : f ≤ 15) : Calls Try.prog 57 #[InsV x, .int .i64 f] w fun e w' => e = .returned (.bool (jmpB x f)) ∧ Below w.heap.size w w' := by
  have b0 := Lib.hid ((Below.refl w.heap.size w).alloc (Nat.le_refl _) (.cells #[.int .i64 x.o, .int .i64 x.d, .int .i64 x.s, .int .i64 x.z, .int .i64 x.i] 25))
  unfold jmpB InsV
  by_cases e3 : x.o = 33
  · rw [if_pos e3]
    rw [e3] at b0 ⊢
    go_enter Try.func57, Try.ntmps57
    go_wp2_with fail
    go_ret
    exact ⟨rfl, b0.out⟩
  · rw [if_neg e3]
    have d3 : (x.o == 33) = false := by simpa using e3
    by_cases e2 : x.o = 32
    · rw [if_pos e2]
      have CH := Lib.hid (fun wk => holds_any x.s f wk (hc e2) h0 h1)
      rw [e2] at b0 d3 ⊢
      generalize hoB x.s f = hb at *
      clear hc e3 e2
      go_enter Try.func57, Try.ntmps57
      go_wp2_with ((go_at_call 33; with_reducible refine (CH.out _).mono ?_); rintro e w1 ⟨rfl, hb1⟩)
      go_ret
      exact ⟨rfl, b0.out.trans (hb1.mono (by simp))⟩
    · rw [if_neg e2]
      have d2 : (x.o == 32) = false := by simpa using e2
      clear hc e3 e2
      generalize x.o = o at *
      go_enter Try.func57, Try.ntmps57
      go_wp2_with fail
      go_ret
      exact ⟨rfl, b0.out⟩
end Go.Proofs.Ytdojafpjipcbjaa
namespace Go.Proofs.Ytdojafpjipcbjaa
open Go.RowKit
set_option linter.unusedVariables false
set_option linter.unusedSimpArgs false
/-- The machine c in block M; its memory is the slice mv. -/
structure MM (base M : Nat) (mv : Value) (c : Mac) (w : World) : Prop where
  m : CellsAt w M (macC c mv)
  v : (c.m = [] ∧ mv = .slice none 0 0) ∨ ∃ D cap, mv = .slice (some ⟨D, 0, none⟩) c.m.length cap ∧ c.m.length ≤ cap ∧ cap ≤ 9223372036854775807 ∧ D ≠ M ∧ base ≤ D ∧ OInts .u8 w D c.m
  bm : base ≤ M
  rl : c.r.length = 32
  rb : ∀ k, 0 ≤ c.r.getD k 0 ∧ c.r.getD k 0 < 4294967296
  ml : c.m.length ≤ 32768
  mb : Byt c.m
  fb : 0 ≤ c.f ∧ c.f ≤ 15
  ab : 0 ≤ c.a ∧ c.a < 4294967296
section
variable {base T M : Nat} {mv : Value} {x : Ins} {z : Int} {fl : Bool} {c : Mac} {w w' : World}
theorem MM.own (h : MM base M mv c w) (k : Nat) (hk : mv.ownBlock = some k) : base ≤ k ∧ k < w.heap.size := by
  rcases h.v with ⟨_, e⟩ | ⟨D, cap, e, _, _, _, h5, h6⟩
  · rw [e] at hk; cases hk
  · rw [e] at hk
    have : D = k := by injection hk
    subst this
    exact ⟨h5, h6.1⟩
theorem MM.ltM (h : MM base M mv c w) : M < w.heap.size := h.m.lt (by simp [macC, h.rl])
theorem MM.same (h : MM base M mv c w) (hb : Below w.heap.size w w') : MM base M mv c w' :=
  ⟨h.m.block (hb.block M h.ltM), h.v.imp id (fun ⟨D, cap, e, h1, h2, h3, h5, h6⟩ => ⟨D, cap, e, h1, h2, h3, h5, h6.below hb⟩), h.bm, h.rl, h.rb, h.ml, h.mb, h.fb, h.ab⟩
theorem MM.toMSt (h : MM base M mv c w) (ht : CellsAt w T [.pointer (some ⟨M, 0, none⟩), .int .i64 x.o, .int .i64 x.d, .int .i64 x.s, .int .i64 x.z, .int .i64 x.i, .int .i64 z, .bool fl]) (h1 : T ≠ M) (h2 : mv.ownBlock ≠ some T) (h3 : base ≤ T) (hz : z = 16 ∨ z = 32) : MSt base T M mv x z fl c w :=
  { t := ht, m := h.m, tm := h1, bt := h3, bm := h.bm, rl := h.rl, rb := h.rb, ml := h.ml, mb := h.mb, fb := h.fb, ab := h.ab, zz := hz, v := by
      rcases h.v with he | ⟨D, cap, e, a1, a2, a3, a5, a6⟩
      · exact Or.inl he
      · exact Or.inr ⟨D, cap, e, a1, a2, (fun hh => h2 (by rw [e, ← hh]; rfl)), a3, a5, a6⟩ }
theorem MSt.toMM (h : MSt base T M mv x z fl c w) : MM base M mv c w :=
  { m := h.m, bm := h.bm, rl := h.rl, rb := h.rb, ml := h.ml, mb := h.mb, fb := h.fb, ab := h.ab, v := by
      rcases h.v with he | ⟨D, cap, e, a1, a2, a3, a4, a5, a6⟩
      · exact Or.inl he
      · exact Or.inr ⟨D, cap, e, a1, a2, a4, a5, a6⟩ }
theorem MM.drewN (h : MM base M mv c w) (n : Nat) : MM base M mv c (w.drewN n) := ⟨h.m, h.v, h.bm, h.rl, h.rb, h.ml, h.mb, h.fb, h.ab⟩
theorem MM.ints (h : MM base M mv c w) : Ints .u8 w mv c.m := by
  rcases h.v with ⟨e, e2⟩ | ⟨D, cap, e, h1, h2, h3, h5, h6⟩
  · rw [e, e2]; exact ⟨none, 0, by simp, by simp, by decide, fun _ => rfl, fun i hi => absurd hi (by simp)⟩
  · rw [e]
    have := h.ml
    exact ⟨some ⟨D, 0, none⟩, cap, rfl, h1, ⟨by omega, by omega⟩, (fun hh => by cases hh), fun i hi => ⟨D, 0, rfl, h6.1, by simpa using h6.cell hi⟩⟩
end
theorem MM.reg0 {base M : Nat} {mv : Value} {c : Mac} {w : World} (h : MM base M mv c w) : w.cell? ⟨M, 0, none⟩ = some (.int .u32 (c.r.getD 0 0)) ∧ w.frozen? ⟨M, 0, none⟩ = false := by
  refine h.m 0 _ ?_
  have h0 : 0 < c.r.length := by rw [h.rl]; decide
  unfold macC
  rw [List.getElem?_append_left (by simpa using h0), List.getElem?_map, List.getElem?_eq_getElem h0, List.getD_eq_getElem?_getD, List.getElem?_eq_getElem h0]
  rfl
theorem newest (w : World) (cells : Array Value) (t : TypeId) : (w.alloc (.cells cells t)).heap[w.heap.size]? = some (.cells cells t (0, 0)) := by
  show (w.heap.push _)[w.heap.size]? = _
  exact Array.getElem?_push_size
theorem macC_one {base M : Nat} {mv : Value} {c : Mac} {w : World} (h : MM base M mv c w) : ∀ v ∈ macC c mv, v.oneCell' = true := by
  obtain ⟨va, vc, hmv, _, _⟩ := h.ints.shape
  intro v hv
  unfold macC at hv
  rcases List.mem_append.1 hv with hv | hv
  · obtain ⟨y, _, rfl⟩ := List.mem_map.1 hv
    rfl
  · simp only [List.mem_cons, List.not_mem_nil, or_false] at hv
    rcases hv with rfl | rfl | rfl | rfl
    · rfl
    · rfl
    · rw [hmv]; rfl
    · rfl
theorem cellsAt_of {w : World} {b : Nat} {cs : List Value} {t : TypeId} (h : w.heap[b]? = some (.cells cs.toArray t (0, 0))) : CellsAt w b cs := by
  intro k v hk
  refine ⟨?_, ?_⟩
  · simp [World.cell?, h, hk]
  · simp [World.frozen?, h]
/-- The world at the start of step: two new blocks. -/
theorem start_world (w : World) (old : Array Value) (cs : List Value) (tM : TypeId) :
    let W := ((w.alloc (.cells old tM)).setRow w.heap.size cs.toArray).alloc (.cells #[.int .i64 0, .int .i64 0, .int .i64 0, .int .i64 0, .int .i64 0] 25)
    Below w.heap.size w W ∧ CellsAt W w.heap.size cs ∧ Box5 W (w.heap.size + 1) 0 0 0 0 0 ∧ W.heap.size = w.heap.size + 2 := by
  intro W
  have h1 := setRow_heap (w.alloc (.cells old tM)) w.heap.size old cs.toArray tM (0, 0) (newest w old tM)
  have hs : ((w.alloc (.cells old tM)).setRow w.heap.size cs.toArray).heap.size = w.heap.size + 1 := by simp
  refine ⟨((below_setRow ((Below.refl w.heap.size w).alloc (Nat.le_refl _) _) (Nat.le_refl _) _).alloc (by omega) _), cellsAt_of (t := tM) ?_, ?_, ?_⟩
  · rw [← h1]
    exact Below.heap_alloc _ _ _ (by omega)
  · have := Box5.new ((w.alloc (.cells old tM)).setRow w.heap.size cs.toArray) 0 0 0 0 0
    rw [hs] at this
    exact this
  · show (World.alloc _ _).heap.size = _
    simp
section
variable {base M : Nat} {mv : Value} {c : Mac} {w : World}
theorem MM.tailAt (h : MM base M mv c w) (k : Nat) (v : Value) (hv : ([.int .i64 c.f, .int .u32 c.a, mv, .int .i64 c.e] : List Value)[k]? = some v) : w.cell? ⟨M, 32 + k, none⟩ = some v ∧ w.frozen? ⟨M, 32 + k, none⟩ = false := by
  refine h.m (32 + k) v ?_
  unfold macC
  rw [List.getElem?_append_right (by simp [h.rl])]
  simp only [List.length_map, h.rl, Nat.add_sub_cancel_left]
  exact hv
theorem MM.setTail (h : MM base M mv c w) (k : Nat) (u : Value) (c' : Mac) (hk : k < 4) (e : ([.int .i64 c.f, .int .u32 c.a, mv, .int .i64 c.e] : List Value).set k u = [.int .i64 c'.f, .int .u32 c'.a, mv, .int .i64 c'.e]) (hr : c'.r = c.r) (hm : c'.m = c.m) (hf : 0 ≤ c'.f ∧ c'.f ≤ 15) (ha : 0 ≤ c'.a ∧ c'.a < 4294967296) : MM base M mv c' (w.setCell ⟨M, 32 + k, none⟩ u) := by
  have := h.m.set (k := 32 + k) (by simp [macC, h.rl]; omega) u
  have e2 : (macC c mv).set (32 + k) u = macC c' mv := by
    unfold macC
    rw [List.set_append_right _ _ (by simp [h.rl]), hr]
    simp only [List.length_map, h.rl, Nat.add_sub_cancel_left]
    rw [e]
  rw [e2] at this
  refine ⟨this, ?_, h.bm, by rw [hr]; exact h.rl, by rw [hr]; exact h.rb, by rw [hm]; exact h.ml, by rw [hm]; exact h.mb, hf, ha⟩
  rw [hm]
  refine h.v.imp id (fun ⟨D, cap, e, h1, h2, h3, h5, h6⟩ => ⟨D, cap, e, h1, h2, h3, h5, by simpa [World.setCell] using h6.1, fun i hi => ⟨?_, by rw [World.frozen?_setCell]; exact h6.free hi⟩⟩)
  rw [World.cell?_setCell_other _ _ _ _ (by intro hh; cases hh; exact h3 rfl)]
  exact h6.cell hi
theorem MM.setE (h : MM base M mv c w) (n : Int) : MM base M mv { c with e := n } (w.setCell ⟨M, 35, none⟩ (.int .i64 n)) := h.setTail 3 _ { c with e := n } (by decide) rfl rfl rfl h.fb h.ab
theorem MM.setA (h : MM base M mv c w) {n : Int} (h0 : 0 ≤ n) (h1 : n < 4294967296) : MM base M mv { c with a := n } (w.setCell ⟨M, 33, none⟩ (.int .u32 n)) := h.setTail 1 _ { c with a := n } (by decide) rfl rfl rfl h.fb ⟨h0, h1⟩
end
end Go.Proofs.Ytdojafpjipcbjaa
namespace Go.Proofs.Ytdojafpjipcbjaa
open Go.RowKit
set_option linter.unusedVariables false
set_option linter.unusedSimpArgs false
set_option maxRecDepth 100000 in
set_option maxHeartbeats 1000000 in
theorem step_out (base M : Nat) (mv : Value) (c : Mac) (w : World) (h : MM base M mv c w) (hal : (c.m.length : Int) ≤ c.a) : Calls Try.prog 37 #[.pointer (some ⟨M, 0, none⟩)] w fun e w' => e = .returned (.tuple #[]) ∧ MM base M mv { c with e := 3 } w' ∧ Ch M M mv w w' := by
  have hc : w.rangeAt M 0 (macC c mv) := fun j v hj => by rw [Nat.zero_add]; exact (h.m j v hj).1
  have hl : (macC c mv).length = 36 := by simp [macC, h.rl]
  have hsz : (Try.prog.info? 47).map (·.size) = some (macC c mv).length := by rw [hl]; kernel_rfl
  have hM := h.ltM
  have ab := h.ab
  have ml := h.ml
  obtain ⟨v0, q0⟩ : ∃ v, w.cell? ⟨M, 0, none⟩ = some v := ⟨_, (h.reg0).1⟩
  have hone := all_oneCell_toArray (macC_one h)
  obtain ⟨va, vc, hmv, hl1, hl2⟩ := h.ints.shape
  have HW := Lib.hid (fun old => start_world w old (macC c mv) 47)
  have HM := Lib.hid (fun W (hb : Below w.heap.size w W) => h.same hb)
  have HC : Hid (∀ W, MM base M mv c W → W.cell? ⟨M, 33, none⟩ = some (.int .u32 c.a) ∧ W.cell? ⟨M, 34, none⟩ = some mv ∧ W.cell? ⟨M, 35, none⟩ = some (.int .i64 c.e) ∧ W.frozen? ⟨M, 35, none⟩ = false) := Lib.hid (fun W hW => ⟨(hW.tailAt 1 _ rfl).1, (hW.tailAt 2 _ rfl).1, hW.tailAt 3 _ rfl⟩)
  have HE : Hid (∀ W, MM base M mv c W → MM base M mv { c with e := 3 } (W.setCell ⟨M, 35, none⟩ (.int .i64 3))) := Lib.hid (fun W hW => hW.setE 3)
  generalize macC c mv = cs at *
  have hsz2 : (Try.prog.info? 47).map (·.size) = some cs.toArray.size := by simpa using hsz
  have hold : 36 = cs.toArray.size := by simpa using hl.symm
  clear h
  go_enter Try.func37, Try.ntmps37
  go_upto_region 4 with (first | (refine wpList_load_mid rfl _ _ rfl M 0 rfl cs _ hc Try.underlying47 rfl hsz ?_) | (refine wp_store_row _ _ _ rfl w.heap.size cs.toArray rfl rfl 47 _ (newest _ _ _) hsz2 hold hone ?_))
  obtain ⟨hb, hcs, hbx, hws⟩ := HW.out #[.int .u32 0, .int .u32 0, .int .u32 0, .int .u32 0, .int .u32 0, .int .u32 0, .int .u32 0, .int .u32 0, .int .u32 0, .int .u32 0, .int .u32 0, .int .u32 0, .int .u32 0, .int .u32 0, .int .u32 0, .int .u32 0, .int .u32 0, .int .u32 0, .int .u32 0, .int .u32 0, .int .u32 0, .int .u32 0, .int .u32 0, .int .u32 0, .int .u32 0, .int .u32 0, .int .u32 0, .int .u32 0, .int .u32 0, .int .u32 0, .int .u32 0, .int .u32 0, .int .i64 0, .int .u32 0, .slice none 0 0, .int .i64 0]
  clear HW
  generalize (((w.alloc (.cells #[.int .u32 0, .int .u32 0, .int .u32 0, .int .u32 0, .int .u32 0, .int .u32 0, .int .u32 0, .int .u32 0, .int .u32 0, .int .u32 0, .int .u32 0, .int .u32 0, .int .u32 0, .int .u32 0, .int .u32 0, .int .u32 0, .int .u32 0, .int .u32 0, .int .u32 0, .int .u32 0, .int .u32 0, .int .u32 0, .int .u32 0, .int .u32 0, .int .u32 0, .int .u32 0, .int .u32 0, .int .u32 0, .int .u32 0, .int .u32 0, .int .u32 0, .int .u32 0, .int .i64 0, .int .u32 0, .slice none 0 0, .int .i64 0] 47)).setRow w.heap.size cs.toArray).alloc (.cells #[.int .i64 0, .int .i64 0, .int .i64 0, .int .i64 0, .int .i64 0] 25)) = W at *
  have hm := HM.out W hb
  obtain ⟨c33, c34, c35, f35⟩ := HC.out W hm
  have HCH := Lib.hid (Ch.of_below (T := M) (M := M) (mv := mv) hb)
  have HEE := Lib.hid (fun n => HE.out _ (hm.drewN n))
  have hdec : decide (c.a < (c.m.length : Int)) = false := decide_eq_false (by omega)
  rw [hmv] at c34
  have hMW : M < W.heap.size := by omega
  clear hcs hbx hmv hc hsz hsz2 hold hone q0 hm HC HM HE hb
  generalize c.m.length = len at *
  generalize hca : c.a = a at *
  have HCA := Lib.hid hca
  clear hca
  go_quiet (fail)
  go_wp2_with fail
  have e9 := HCA.out
  subst e9
  exact bodyPost_ret (v := .tuple #[]) (by simp [results, Try.results37, go_sem]) rfl ⟨rfl, HEE.out nq, (HCH.out.drewN nq).setM _ _⟩
end Go.Proofs.Ytdojafpjipcbjaa
