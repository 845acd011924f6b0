/- Contracts of Share and Part, of the program and of the answer. -/
import Derived.BigQuiet
import Derived.Deep.QuietTactic
import Derived.IntWalk
import Derived.Deep.DeepMust
import Derived.Test.YthopdfikikdcbaaZm5
import Derived.Test.YthopdfikikdcbaaZm6
import Derived.Test.YthopdfikikdcbaaZm8
namespace Go.Proofs.Ythopdfikikdcbaa
open Go.RowKit Go.Maps Wd
set_option linter.unusedVariables false
set_option linter.unusedSimpArgs false
theorem ndV_of {ts : List Nd} (h : valE ts = 0) (hI : ∀ x ∈ ts, 0 ≤ x.imm ∧ x.imm ≤ 4294967295) : ∀ k, k < ts.length → NdV (nd ts k) := fun k hk => by
  have ho := nodeOk h hk
  obtain ⟨_, _, hS, _, _⟩ := valid_facts h
  have hs := shaped_facts (okS_at hS hk)
  have hc := arV_cases (nd ts k).op
  have h1 := ho.len
  have h2 := ho.ar
  have h3 := ho.wid
  change ((nd ts k).args.length : Int) = arV (nd ts k).op at h1
  change arV (nd ts k).op ≠ -1 at h2
  change 1 ≤ (nd ts k).width ∧ (nd ts k).width ≤ 32 at h3
  exact { op := ⟨by omega, by omega⟩, width := ⟨by omega, by omega⟩, flags := hs.2.2.2.1, len := by omega, imm := hI _ (mem_getD hk) }
theorem args_le {ts : List Nd} (h : valE ts = 0) (hI : ∀ x ∈ ts, 0 ≤ x.imm ∧ x.imm ≤ 4294967295) : ∀ k, k < ts.length → (nd ts k).args.length ≤ 1000 := fun k hk => by
  have := (ndV_of h hI k hk).len
  omega
theorem ShrIs.hop {w w1 w2 : World} {v : Value} {o : List Nd} (hb : Below w.heap.size w w1) (h : ShrIs w1 w2 v o) : ShrIs w w2 v o := by
  obtain ⟨bb, W, R, fv, avs, h1, h2, h3⟩ := h
  have := hb.size
  exact ⟨bb, W, R, fv, avs, h1, fun b hb => by have := h2 b hb; omega, below_hop hb h3⟩
theorem ShrIs.bel {w w2 : World} {v : Value} {o : List Nd} (h : ShrIs w w2 v o) : Below w.heap.size w w2 := by
  obtain ⟨bb, W, R, fv, avs, h1, h2, h3⟩ := h
  exact h3
theorem ShrIs.nds {w w2 : World} {v : Value} {o : List Nd} (h : ShrIs w w2 v o) (hl : o.length ≤ 100000) : Nds w2 v o := by
  obtain ⟨bb, W, R, fv, avs, h1, h2, h3⟩ := h
  exact h1.nds hl
def shrL (ts : List Nd) : List Nd := if valE ts = 0 then shr ts (ts.length - 1) else []
def prtE (ts : List Nd) (k : Int) : Int := if valE ts = 0 then (if k < 0 ∨ (ts.length : Int) ≤ k then 4 else 0) else valE ts
def prtL (ts : List Nd) (k : Int) : List Nd := if prtE ts k = 0 then shr ts k.toNat else []
theorem Nds.nil (w : World) : Nds w (.slice none 0 0) [] := ⟨none, 0, rfl, Nat.le_refl _, ⟨by simp, by omega⟩, fun _ => rfl, fun i hi => absurd hi (by simp)⟩
section
variable {ts : List Nd} {tv : Value} {w : World}
theorem share_last (h : valE ts = 0) (hI : ∀ x ∈ ts, 0 ≤ x.imm ∧ x.imm ≤ 4294967295) (hts : Nds w tv ts) :
    Calls Try.prog 53 #[tv, .int .i64 ((ts.length : Int) - 1)] w fun e w' => ∃ v, e = .returned v ∧ ShrIs w w' v (shr ts (ts.length - 1)) := by
  obtain ⟨h1, h2, _⟩ := valid_facts h
  have hc := share_any ts tv w (ts.length - 1) hts (valid_down h) (ndV_of h hI) (by omega) (by omega)
  rwa [show ((ts.length - 1 : Nat) : Int) = (ts.length : Int) - 1 by omega] at hc
theorem rShared_last (h : valE ts = 0) (hI : ∀ x ∈ ts, 0 ≤ x.imm ∧ x.imm ≤ 4294967295) (hts : Nds w tv ts) :
    Calls Try.prog 54 #[tv, .int .i64 ((ts.length : Int) - 1)] w fun e w' => ∃ v, e = .returned v ∧ Nds w' v (shr ts (ts.length - 1)) ∧ Below w.heap.size w w' := by
  obtain ⟨h1, h2, _⟩ := valid_facts h
  have hc := rShared ts tv w (ts.length - 1) hts (valid_down h) (by omega) (by omega) (args_le h hI)
  rwa [show ((ts.length - 1 : Nat) : Int) = (ts.length : Int) - 1 by omega] at hc
end
set_option maxRecDepth 100000 in
set_option maxHeartbeats 1000000 in
theorem pShare_ok (ts : List Nd) (tv : Value) (w : World) (h : valE ts = 0) (hI : ∀ x ∈ ts, 0 ≤ x.imm ∧ x.imm ≤ 4294967295) (hts : Nds w tv ts) :
    Calls Try.prog 26 #[tv] w fun e w' => ∃ v, e = .returned (.tuple #[v, .int .i64 0]) ∧ ShrIs w w' v (shr ts (ts.length - 1)) := by
  obtain ⟨h1, h2, _⟩ := valid_facts h
  have HT := Lib.hid hts
  have HE := Lib.hid h
  have HS := Lib.hid (fun W (hb : Below w.heap.size w W) => share_last h hI (hts.stays hb))
  have HP := Lib.hid (pValidate ts tv w hts hI)
  obtain ⟨ta, tc, rfl, ht1, ht2⟩ := hts.shape
  clear hts h hI
  go_enter Try.func26, Try.ntmps26
  go_wp2_with fail
  refine (HP.out).mono ?_
  rintro e w1 ⟨rfl, hb1⟩
  rw [HE.out]
  have HB1 := Lib.hid hb1
  clear hb1
  go_wp2_with fail
  refine (HS.out _ HB1.out).mono ?_
  rintro e w2 ⟨v, rfl, hs⟩
  have HSS := Lib.hid hs
  clear hs
  go_wp2_with fail
  go_ret2
  exact ⟨v, rfl, HSS.out.hop HB1.out⟩
set_option maxRecDepth 100000 in
set_option maxHeartbeats 1000000 in
theorem pShare_no (ts : List Nd) (tv : Value) (w : World) (h : valE ts ≠ 0) (hI : ∀ x ∈ ts, 0 ≤ x.imm ∧ x.imm ≤ 4294967295) (hts : Nds w tv ts) :
    Calls Try.prog 26 #[tv] w fun e w' => e = .returned (.tuple #[.slice none 0 0, .int .i64 (valE ts)]) ∧ Below w.heap.size w w' := by
  have HP := Lib.hid (pValidate ts tv w hts hI)
  clear hts hI
  have hne : (valE ts != 0) = true := by simpa using h
  clear h
  go_enter Try.func26, Try.ntmps26
  go_wp2_with fail
  refine (HP.out).mono ?_
  rintro e w1 ⟨rfl, hb1⟩
  have HB1 := Lib.hid hb1
  clear hb1
  go_wp2_with fail
  go_ret2
  exact ⟨rfl, HB1.out⟩
set_option maxRecDepth 100000 in
set_option maxHeartbeats 1000000 in
theorem rShare (ts : List Nd) (tv : Value) (w : World) (hI : ∀ x ∈ ts, 0 ≤ x.imm ∧ x.imm ≤ 4294967295) (hts : Nds w tv ts) :
    Calls Try.prog 27 #[tv] w fun e w' => ∃ v, e = .returned (.tuple #[v, .int .i64 (valE ts)]) ∧ Nds w' v (shrL ts) ∧ Below w.heap.size w w' := by
  have HT := Lib.hid hts
  have HP := Lib.hid (rValidate ts tv w hts hI)
  by_cases h : valE ts = 0
  · obtain ⟨h1, h2, _⟩ := valid_facts h
    have HE := Lib.hid h
    have HL : Hid (shrL ts = shr ts (ts.length - 1)) := if_pos h
    rw [HE.out]
    have HS := Lib.hid (fun W (hb : Below w.heap.size w W) => rShared_last h hI (hts.stays hb))
    obtain ⟨ta, tc, rfl, ht1, ht2⟩ := hts.shape
    clear hts h hI
    go_enter Try.func27, Try.ntmps27
    go_wp2_with fail
    refine (HP.out).mono ?_
    rintro e w1 ⟨rfl, hb1⟩
    rw [HE.out]
    have HB1 := Lib.hid hb1
    clear hb1
    go_wp2_with fail
    refine (HS.out _ HB1.out).mono ?_
    rintro e w2 ⟨v, rfl, hs, hb2⟩
    have HSS := Lib.hid hs
    have HB2 := Lib.hid hb2
    clear hs hb2
    go_wp2_with fail
    go_ret2
    exact ⟨v, rfl, by rw [HL.out]; exact HSS.out, below_hop HB1.out HB2.out⟩
  · have HL : Hid (shrL ts = []) := if_neg h
    have hne : (valE ts != 0) = true := by simpa using h
    clear h hts hI
    go_enter Try.func27, Try.ntmps27
    go_wp2_with fail
    refine (HP.out).mono ?_
    rintro e w1 ⟨rfl, hb1⟩
    have HB1 := Lib.hid hb1
    clear hb1
    go_wp2_with fail
    go_ret2
    exact ⟨_, rfl, by rw [HL.out]; exact Nds.nil _, HB1.out⟩
-- Part.
set_option maxRecDepth 100000 in
set_option maxHeartbeats 1000000 in
theorem pPart (ts : List Nd) (tv : Value) (k : Int) (w : World) (hI : ∀ x ∈ ts, 0 ≤ x.imm ∧ x.imm ≤ 4294967295) (hts : Nds w tv ts) :
    Calls Try.prog 28 #[tv, .int .i64 k] w fun e w' => ∃ v, e = .returned (.tuple #[v, .int .i64 (prtE ts k)]) ∧ Nds w' v (prtL ts k) ∧ Below w.heap.size w w' := by
  have HT := Lib.hid hts
  have HP := Lib.hid (pValidate ts tv w hts hI)
  by_cases h : valE ts = 0
  · obtain ⟨h1, h2, _⟩ := valid_facts h
    have HE := Lib.hid h
    by_cases hk : k < 0 ∨ (ts.length : Int) ≤ k
    · have HPE : Hid (prtE ts k = 4) := by show _ = _; unfold prtE; rw [if_pos h, if_pos hk]
      have HL : Hid (prtL ts k = []) := by show _ = _; unfold prtL; rw [HPE.out]; rfl
      rw [HPE.out]
      obtain ⟨ta, tc, rfl, ht1, ht2⟩ := hts.shape
      clear hts h hI
      rcases hk with hk | hk
      · have hk1 : decide (k < 0) = true := decide_eq_true hk
        go_enter Try.func28, Try.ntmps28
        go_wp2_with fail
        refine (HP.out).mono ?_
        rintro e w1 ⟨rfl, hb1⟩
        rw [HE.out]
        have HB1 := Lib.hid hb1
        clear hb1
        go_wp2_with fail
        go_ret2
        exact ⟨_, rfl, by rw [HL.out]; exact Nds.nil _, HB1.out⟩
      · have hk1 : decide (k < 0) = false := decide_eq_false (by omega)
        have hk2 : decide ((ts.length : Int) ≤ k) = true := decide_eq_true hk
        go_enter Try.func28, Try.ntmps28
        go_wp2_with fail
        refine (HP.out).mono ?_
        rintro e w1 ⟨rfl, hb1⟩
        rw [HE.out]
        have HB1 := Lib.hid hb1
        clear hb1
        go_wp2_with fail
        go_ret2
        exact ⟨_, rfl, by rw [HL.out]; exact Nds.nil _, HB1.out⟩
    · have HPE : Hid (prtE ts k = 0) := by show _ = _; unfold prtE; rw [if_pos h, if_neg hk]
      have HL : Hid (prtL ts k = shr ts k.toNat) := by show _ = _; unfold prtL; rw [HPE.out]; rfl
      rw [HPE.out]
      obtain ⟨j, rfl⟩ := Int.eq_ofNat_of_zero_le (show 0 ≤ k by omega)
      have hj : j < ts.length := by omega
      have HS := Lib.hid (fun W (hb : Below w.heap.size w W) => share_any ts tv W j (hts.stays hb) (valid_down h) (ndV_of h hI) hj (by omega))
      have HSL := Lib.hid (shr_len (valid_down h) hj)
      obtain ⟨ta, tc, rfl, ht1, ht2⟩ := hts.shape
      have hk1 : decide ((j : Int) < 0) = false := decide_eq_false (by omega)
      have hk2 : decide ((ts.length : Int) ≤ j) = false := decide_eq_false (by omega)
      clear hts h hI hk
      go_enter Try.func28, Try.ntmps28
      go_wp2_with fail
      refine (HP.out).mono ?_
      rintro e w1 ⟨rfl, hb1⟩
      rw [HE.out]
      have HB1 := Lib.hid hb1
      clear hb1
      go_wp2_with fail
      refine (HS.out _ HB1.out).mono ?_
      rintro e w2 ⟨v, rfl, hs⟩
      have HSS := Lib.hid hs
      skip
      clear hs
      go_wp2_with fail
      go_ret2
      exact ⟨v, rfl, by rw [HL.out, Int.toNat_natCast]; exact HSS.out.nds (by have := HSL.out; omega), below_hop HB1.out HSS.out.bel⟩
  · have HPE : Hid (prtE ts k = valE ts) := if_neg h
    have HL : Hid (prtL ts k = []) := by show _ = _; unfold prtL; rw [HPE.out, if_neg h]
    rw [HPE.out]
    have hne : (valE ts != 0) = true := by simpa using h
    clear h hts hI
    go_enter Try.func28, Try.ntmps28
    go_wp2_with fail
    refine (HP.out).mono ?_
    rintro e w1 ⟨rfl, hb1⟩
    have HB1 := Lib.hid hb1
    clear hb1
    go_wp2_with fail
    go_ret2
    exact ⟨_, rfl, by rw [HL.out]; exact Nds.nil _, HB1.out⟩
-- Part.
set_option maxRecDepth 100000 in
set_option maxHeartbeats 1000000 in
theorem rPart (ts : List Nd) (tv : Value) (k : Int) (w : World) (hI : ∀ x ∈ ts, 0 ≤ x.imm ∧ x.imm ≤ 4294967295) (hts : Nds w tv ts) :
    Calls Try.prog 29 #[tv, .int .i64 k] w fun e w' => ∃ v, e = .returned (.tuple #[v, .int .i64 (prtE ts k)]) ∧ Nds w' v (prtL ts k) ∧ Below w.heap.size w w' := by
  have HT := Lib.hid hts
  have HP := Lib.hid (rValidate ts tv w hts hI)
  by_cases h : valE ts = 0
  · obtain ⟨h1, h2, _⟩ := valid_facts h
    have HE := Lib.hid h
    by_cases hk : k < 0 ∨ (ts.length : Int) ≤ k
    · have HPE : Hid (prtE ts k = 4) := by show _ = _; unfold prtE; rw [if_pos h, if_pos hk]
      have HL : Hid (prtL ts k = []) := by show _ = _; unfold prtL; rw [HPE.out]; rfl
      rw [HPE.out]
      obtain ⟨ta, tc, rfl, ht1, ht2⟩ := hts.shape
      clear hts h hI
      rcases hk with hk | hk
      · have hk1 : decide (k < 0) = true := decide_eq_true hk
        go_enter Try.func29, Try.ntmps29
        go_wp2_with fail
        refine (HP.out).mono ?_
        rintro e w1 ⟨rfl, hb1⟩
        rw [HE.out]
        have HB1 := Lib.hid hb1
        clear hb1
        go_wp2_with fail
        go_ret2
        exact ⟨_, rfl, by rw [HL.out]; exact Nds.nil _, HB1.out⟩
      · have hk1 : decide (k < 0) = false := decide_eq_false (by omega)
        have hk2 : decide ((ts.length : Int) ≤ k) = true := decide_eq_true hk
        go_enter Try.func29, Try.ntmps29
        go_wp2_with fail
        refine (HP.out).mono ?_
        rintro e w1 ⟨rfl, hb1⟩
        rw [HE.out]
        have HB1 := Lib.hid hb1
        clear hb1
        go_wp2_with fail
        go_ret2
        exact ⟨_, rfl, by rw [HL.out]; exact Nds.nil _, HB1.out⟩
    · have HPE : Hid (prtE ts k = 0) := by show _ = _; unfold prtE; rw [if_pos h, if_neg hk]
      have HL : Hid (prtL ts k = shr ts k.toNat) := by show _ = _; unfold prtL; rw [HPE.out]; rfl
      rw [HPE.out]
      obtain ⟨j, rfl⟩ := Int.eq_ofNat_of_zero_le (show 0 ≤ k by omega)
      have hj : j < ts.length := by omega
      have HS := Lib.hid (fun W (hb : Below w.heap.size w W) => rShared ts tv W j (hts.stays hb) (valid_down h) hj (by omega) (args_le h hI))
      skip
      obtain ⟨ta, tc, rfl, ht1, ht2⟩ := hts.shape
      have hk1 : decide ((j : Int) < 0) = false := decide_eq_false (by omega)
      have hk2 : decide ((ts.length : Int) ≤ j) = false := decide_eq_false (by omega)
      clear hts h hI hk
      go_enter Try.func29, Try.ntmps29
      go_wp2_with fail
      refine (HP.out).mono ?_
      rintro e w1 ⟨rfl, hb1⟩
      rw [HE.out]
      have HB1 := Lib.hid hb1
      clear hb1
      go_wp2_with fail
      refine (HS.out _ HB1.out).mono ?_
      rintro e w2 ⟨v, rfl, hs, hb2⟩
      have HSS := Lib.hid hs
      have HB2 := Lib.hid hb2; clear hb2
      clear hs
      go_wp2_with fail
      go_ret2
      exact ⟨v, rfl, by rw [HL.out, Int.toNat_natCast]; exact HSS.out, below_hop HB1.out HB2.out⟩
  · have HPE : Hid (prtE ts k = valE ts) := if_neg h
    have HL : Hid (prtL ts k = []) := by show _ = _; unfold prtL; rw [HPE.out, if_neg h]
    rw [HPE.out]
    have hne : (valE ts != 0) = true := by simpa using h
    clear h hts hI
    go_enter Try.func29, Try.ntmps29
    go_wp2_with fail
    refine (HP.out).mono ?_
    rintro e w1 ⟨rfl, hb1⟩
    have HB1 := Lib.hid hb1
    clear hb1
    go_wp2_with fail
    go_ret2
    exact ⟨_, rfl, by rw [HL.out]; exact Nds.nil _, HB1.out⟩
end Go.Proofs.Ythopdfikikdcbaa
/- Memory in Join of the program. -/
namespace Go.Proofs.Ythopdfikikdcbaa
open Go.RowKit Go.Maps Wd
set_option linter.unusedVariables false
set_option linter.unusedSimpArgs false
structure JnP (w0 : World) (bb rb : Nat) (op width imm : Int) (o : List Nd) (l : List Int) (T : Nat → Prop) (rv : Value) (wx : World) : Prop where
  bld : Bld bb o T wx
  y : YAt wx rb op width 0 imm rv
  row : RowI wx (rb + 1) 3 .i64 rv l
  Trb : ¬ T rb
  Tv : ∀ b, rv.ownBlock = some b → ¬ T b
  TB : ∀ b, T b → w0.heap.size ≤ b
  rB : w0.heap.size ≤ rb
  bel : Below w0.heap.size w0 wx
theorem seen_made {wx W : World} {n : Nat} (hn : n ≤ 1000000) (hW : Below (wx.alloc (.map #[] 0)).heap.size (wx.alloc (.map #[] 0)) W) : SeenIs W wx.heap.size (List.replicate n (-1)) :=
  (SeenIs.made hn).chg (T := fun _ => False) (Chg.of_below hW) (fun h => h)
theorem JnP.from {w0 wx W w' : World} {bb rb : Nat} {op width imm : Int} {o : List Nd} {l : List Int} {T : Nat → Prop} {rv : Value} {c : List Nd × List Int} (h : JnP w0 bb rb op width imm o l T rv wx)
    (hW : Below (wx.alloc (.map #[] 0)).heap.size (wx.alloc (.map #[] 0)) W) (hp : FrP (Bld bb) wx.heap.size T W c w') : ∃ T', JnP w0 bb rb op width imm c.1 l T' rv w' := by
  obtain ⟨T', h1, h2, h3, h4⟩ := hp
  have hb1 : Below wx.heap.size wx W := ((Below.refl _ _).alloc (Nat.le_refl _) _).trans (hW.mono (by simp))
  have hs := hb1.size
  have hlt := h.bld.lt
  have hrl : rb < wx.heap.size := cell_lt h.y.c0
  have hvl := own_lt h.row
  have hall : Chg (fun b => T b ∨ b = wx.heap.size) wx w' := (Chg.of_below hb1).trans h4 (fun _ _ h => h)
  have hws := h.bel.size
  refine ⟨T', {
    bld := h1
    y := h.y.chg hall (fun e => by rcases e with e | e; exact h.Trb e; omega)
    row := h.row.chg hall (fun b hb e => by rcases e with e | e; exact h.Tv b hb e; have := hvl b hb; omega)
    Trb := fun e => by rcases h3 rb e with e | e; exact h.Trb e; omega
    Tv := fun b hb e => by
      rcases h3 b e with e | e
      · exact h.Tv b hb e
      · have := hvl b hb; omega
    TB := fun b e => by rcases h3 b e with e | e; exact h.TB b e; omega
    rB := h.rB
    bel := h.bel.trans (hall.below hws fun k hk => by rcases hk with hk | hk; exact h.TB k hk; omega) }⟩
theorem JnP.arg {w0 wx w3 : World} {bb rb : Nat} {op width imm z : Int} {o : List Nd} {l : List Int} {T : Nat → Prop} {rv rv' : Value} (h : JnP w0 bb rb op width imm o l T rv wx)
    (hg : Chg (fun b => rv.ownBlock = some b) wx w3) (hown : w3.ownsRow (rb + 1) 3 1 rv' (l.length + 1) (l.map (Value.int .i64) ++ [.int .i64 z])) (hv : rv'.ownBlock = rv.ownBlock ∨ ∃ g, rv'.ownBlock = some g ∧ wx.heap.size ≤ g) :
    JnP w0 bb rb op width imm o (l ++ [z]) T rv' (w3.setCell ⟨rb, 3, none⟩ rv') := by
  have hvB : ¬ rv.ownBlock = some rb := fun e => by have := own_ge h.row rb e; omega
  have hlt := h.bld.lt
  have hset : Chg (fun b => b = rb) w3 (w3.setCell ⟨rb, 3, none⟩ rv') := (Chg.refl (fun b => b = rb) w3).setCell (b := rb) rfl rv'
  have hrow1 : RowI w3 (rb + 1) 3 .i64 rv' (l ++ [z]) := RowI.app1 hown rfl rfl
  have hall : Chg (fun b => rv.ownBlock = some b ∨ b = rb) wx (w3.setCell ⟨rb, 3, none⟩ rv') := (hg.mono (fun _ _ h => .inl h)).trans hset (fun _ _ h => .inr h)
  have hws := h.bel.size
  exact {
    bld := h.bld.same (hall.same fun k hk => ⟨hlt k hk, fun e => by rcases e with e | e; exact h.Tv k e hk; subst e; exact h.Trb hk⟩)
    y := (h.y.chg hg hvB).set rv'
    row := hrow1.chg hset (fun b hb e => by have := own_ge hrow1 b hb; omega)
    Trb := h.Trb
    Tv := fun b hb e' => by
      rcases hv with e | ⟨g, e, hg2⟩
      · exact h.Tv b (by rw [← e]; exact hb) e'
      · rw [e] at hb; cases hb
        have := hlt _ e'; omega
    TB := h.TB
    rB := h.rB
    bel := h.bel.trans (hall.below hws fun k hk => by
      rcases hk with hk | hk
      · have := own_ge h.row k hk; have := h.rB; omega
      · have := h.rB; omega) }
theorem ndV_of_K {o : List Nd} (h : ∀ x ∈ o, NdK x) : ∀ k, k < o.length → NdV (nd o k) := fun k hk => by
  have := h _ (show nd o k ∈ o from mem_getD hk)
  exact { op := this.op, width := this.width, flags := this.flags, len := this.len, imm := this.imm }
/-- A builder of the call's own with a map of its own. -/
theorem bld_made {w W : World} (hb : Below (w.alloc (.cells #[.slice none 0 0, .map none] 106)).heap.size (w.alloc (.cells #[.slice none 0 0, .map none] 106)) W) : Bld w.heap.size [] (fun b => b = w.heap.size) W := by
  refine ⟨fun b => b = w.heap.size, fun _ => False, .slice none 0 0, .map none, [], fun b => by simp, ?_⟩
  have hs := hb.size
  simp at hs
  exact {
    b0 := below_cell hb (by simp) (by simp [go_sem])
    b1 := below_cell hb (by simp) (by simp [go_sem])
    f0 := by rw [hb.frozen (p := ⟨w.heap.size, 0, none⟩) (by simp)]; simp [go_sem]
    f1 := by rw [hb.frozen (p := ⟨w.heap.size, 1, none⟩) (by simp)]; simp [go_sem]
    Wb := rfl
    Wlt := fun b h => by subst h; omega
    Rlt := fun b h => h.elim
    WR := fun b _ h => h
    row := World.ownsRow_nil _ _ _ _
    rowW := fun b h => by cases h
    len := rfl
    args := fun i hi => absurd hi (by simp)
    kn := fun x hx => by cases hx
    map := .inl ⟨rfl, rfl⟩ }
end Go.Proofs.Ythopdfikikdcbaa
/- The step of Put: the walk of its closure. -/
namespace Go.Proofs.Ythopdfikikdcbaa
open Go.RowKit Go.Maps Wd
set_option linter.unusedVariables false
set_option linter.unusedSimpArgs false
/-- Memory behind the closure: the builder, what has been told of u, and the boxes that hold them. -/
structure PutI1 (bb s2 b11 b12 : Nat) (s : List Nd × List Int) (T1 : Nat → Prop) (w : World) : Prop where
  bld : Bld bb s.1 T1 w
  seen : SeenIs w s2 s.2
  cb : w.cell? ⟨b11, 0, none⟩ = some (.pointer (some ⟨bb, 0, none⟩))
  cs : w.cell? ⟨b12, 0, none⟩ = some (.map (some s2))
  n2 : ¬ T1 s2
  n11 : ¬ T1 b11
  n12 : ¬ T1 b12
  d11 : s2 ≠ b11
  d12 : s2 ≠ b12
def PutI (bb s2 b11 b12 : Nat) (s : List Nd × List Int) (T : Nat → Prop) (w : World) : Prop :=
  ∃ T1, (∀ b, T b ↔ T1 b ∨ b = s2 ∨ b = b11 ∨ b = b12) ∧ PutI1 bb s2 b11 b12 s T1 w
theorem PutI1.same {bb s2 b11 b12 : Nat} {s : List Nd × List Int} {T1 : Nat → Prop} {w w' : World} (h : PutI1 bb s2 b11 b12 s T1 w) (hs : Same (fun b => T1 b ∨ b = s2 ∨ b = b11 ∨ b = b12) w w') : PutI1 bb s2 b11 b12 s T1 w' :=
  { bld := h.bld.same (hs.mono fun k hk => .inl hk)
    seen := h.seen.same hs (.inr (.inl rfl))
    cb := hs.cell (.inr (.inr (.inl rfl))) h.cb
    cs := hs.cell (.inr (.inr (.inr rfl))) h.cs
    n2 := h.n2
    n11 := h.n11
    n12 := h.n12
    d11 := h.d11
    d12 := h.d12 }
theorem iok_put (bb s2 b11 b12 : Nat) : IOk (PutI bb s2 b11 b12) :=
  ⟨fun {s T w w'} ⟨T1, hT, h⟩ hs => ⟨T1, hT, h.same (hs.mono fun k hk => (hT k).2 hk)⟩, fun {s T w} ⟨T1, hT, h⟩ b hb => by
    rcases (hT b).1 hb with hb | hb | hb | hb
    · exact h.bld.lt b hb
    · subst hb; exact h.seen.lt
    · subst hb; exact cell_lt h.cb
    · subst hb; exact cell_lt h.cs⟩
theorem PutI1.lt {bb s2 b11 b12 : Nat} {s : List Nd × List Int} {T1 : Nat → Prop} {w : World} (h : PutI1 bb s2 b11 b12 s T1 w) : ∀ b, (T1 b ∨ b = s2 ∨ b = b11 ∨ b = b12) → b < w.heap.size := fun b hb => by
  rcases hb with hb | hb | hb | hb
  · exact h.bld.lt b hb
  · subst hb; exact h.seen.lt
  · subst hb; exact cell_lt h.cb
  · subst hb; exact cell_lt h.cs
theorem PutI1.next {bb s2 b11 b12 : Nat} {s : List Nd × List Int} {T1 : Nat → Prop} {w w' : World} (h : PutI1 bb s2 b11 b12 s T1 w) (hb : Below w.heap.size w w') : PutI1 bb s2 b11 b12 s T1 w' :=
  h.same ((Chg.of_below (T := fun _ => False) hb).same fun k hk => ⟨h.lt k hk, fun h => h⟩)
/-- Behind the builder's own add. -/
theorem PutI1.added {bb s2 b11 b12 : Nat} {s : List Nd × List Int} {T1 T' : Nat → Prop} {w w' : World} {o : List Nd} {av : Value} (h : PutI1 bb s2 b11 b12 s T1 w) (hB : Bld bb o T' w') (hT' : ∀ b, T' b → T1 b ∨ w.heap.size ≤ b ∨ av.ownBlock = some b) (hc : Chg T1 w w')
    (hav : ∀ b, av.ownBlock = some b → ¬ (T1 b ∨ b = s2 ∨ b = b11 ∨ b = b12)) : PutI1 bb s2 b11 b12 (o, s.2) T' w' := by
  have hl := h.lt
  have key : ∀ b, (b = s2 ∨ b = b11 ∨ b = b12) → ¬ T1 b → ¬ T' b := fun b hb hn ht => by
    rcases hT' b ht with h1 | h1 | h1
    · exact hn h1
    · have := hl b (.inr hb); omega
    · exact hav b h1 (.inr hb)
  exact {
    bld := hB
    seen := h.seen.chg hc h.n2
    cb := hc.cell h.n11 h.cb
    cs := hc.cell h.n12 h.cs
    n2 := key _ (.inl rfl) h.n2
    n11 := key _ (.inr (.inl rfl)) h.n11
    n12 := key _ (.inr (.inr rfl)) h.n12
    d11 := h.d11
    d12 := h.d12 }
/-- Behind a walk over u. -/
theorem PutI1.walked {bb s2 b11 b12 : Nat} {s c : List Nd × List Int} {T1 : Nat → Prop} {w w' : World} (h : PutI1 bb s2 b11 b12 s T1 w) (hp : FrP (Bld bb) s2 T1 w c w') :
    ∃ T', PutI1 bb s2 b11 b12 c T' w' ∧ (∀ b, T' b → T1 b ∨ w.heap.size ≤ b) ∧ Chg (fun b => T1 b ∨ b = s2) w w' := by
  obtain ⟨T', h1, h2, h3, h4⟩ := hp
  have hl := h.lt
  have key : ∀ b, (b = s2 ∨ b = b11 ∨ b = b12) → ¬ T1 b → ¬ T' b := fun b hb hn ht => by
    rcases h3 b ht with h1 | h1
    · exact hn h1
    · have := hl b (.inr hb); omega
  exact ⟨T', {
    bld := h1
    seen := h2
    cb := h4.cell (fun e => by rcases e with e | e; exact h.n11 e; exact h.d11 e.symm) h.cb
    cs := h4.cell (fun e => by rcases e with e | e; exact h.n12 e; exact h.d12 e.symm) h.cs
    n2 := key _ (.inl rfl) h.n2
    n11 := key _ (.inr (.inl rfl)) h.n11
    n12 := key _ (.inr (.inr rfl)) h.n12
    d11 := h.d11
    d12 := h.d12 }, h3, h4⟩
set_option maxRecDepth 100000 in
set_option maxHeartbeats 2000000 in
theorem made_put (bb s2 b4 b5 b11 b12 : Nat) (v : Int) (us ts : List Nd) (uv : Value) (w0 : World) (h4 : w0.cell? ⟨b4, 0, none⟩ = some (.int .i64 v)) (h5 : w0.cell? ⟨b5, 0, none⟩ = some uv) (hus : Nds w0 uv us) (hu : Down us) (hvu : ∀ k, k < us.length → NdV (nd us k)) (hu0 : 0 < us.length) (hul : us.length ≤ 1000)
    (hvt : ∀ k, k < ts.length → NdV (nd ts k)) (htl : ts.length ≤ 1000) :
    MadeOk (stepP v us) (PutI bb s2 b11 b12) (JP v us ts) ts w0 70 #[] #[.pointer (some ⟨b4, 0, none⟩), .pointer (some ⟨b11, 0, none⟩), .pointer (some ⟨b5, 0, none⟩), .pointer (some ⟨b12, 0, none⟩)] := by
  intro s nos k T w av hj hk hun ha hi hF hav hTB hb
  obtain ⟨T1, hT, hI⟩ := hi
  have hja := hj.ja
  have hcn := cnt_le nos
  have hln := hj.len
  have hc2 := cnt_le s.2
  have hl2 := hj.inv.len
  have hosz := hj.sz
  change s.2.length = us.length at hl2
  have hgk := gnd_key (B := us.length) (hvt k hk) (⟨hj.len, hj.rng, by have := hj.sz; omega⟩ : JA us.length ts s.1 nos) (by omega) ha
  obtain ⟨aa, ac, hae, _⟩ := hF.ints.shape
  subst hae
  have hsz := hb.size
  have HAT : Hid (∀ b, (Value.slice aa (gnd ts k nos).args.length ac).ownBlock = some b → ¬ (T1 b ∨ b = s2 ∨ b = b11 ∨ b = b12)) := fun b hb h => (hav b hb).1 ((hT b).2 h)
  have HAL : Hid (∀ b, (Value.slice aa (gnd ts k nos).args.length ac).ownBlock = some b → b < w.heap.size) := fun b hb => (hav b hb).2.1
  have HT := Lib.hid hT
  have HI := Lib.hid hI
  have HK := Lib.hid hgk
  have HF := Lib.hid hF
  have e4 := below_cell hb (cell_lt h4) h4
  have e5 := below_cell hb (cell_lt h5) h5
  have e11 := hI.cb
  have e12 := hI.cs
  have l4 := cell_lt e4
  have l5 := cell_lt e5
  have l11 := cell_lt e11
  have l12 := cell_lt e12
  have HB := Lib.hid hb
  have HUS := Lib.hid hus
  have HTB := Lib.hid hTB
  have HST : Hid (∀ y, y = gnd ts k nos → stepP v us s (gnd ts k nos) = stepP v us s y) := fun y e => by rw [e]
  have HJA := Lib.hid hja
  have HJ0 := Lib.hid hj
  have im := hgk.imm
  have HSS : Hid (s.1.length ≤ 2000 ∧ cnt nos ≤ 1000) := ⟨by omega, by omega⟩
  obtain ⟨ua, uc, rfl, hul1, hul2⟩ := hus.shape
  clear hj hav hTB hb hT hI hja hgk hF hun ha hcn hln hc2 hl2 hosz hus h4 h5
  show Calls Try.prog 70 (#[ndA (gnd ts k nos) _] ++ _) w _
  generalize gnd ts k nos = y at *
  obtain ⟨op, width, flags, args, imm⟩ := y
  simp only [ndA] at im ⊢
  show Calls Try.prog 70 #[.agg #[.int .i64 op, .int .i64 width, .int .i64 flags, .slice aa args.length ac, .int .u32 imm], .pointer (some ⟨b4, 0, none⟩), .pointer (some ⟨b11, 0, none⟩), .pointer (some ⟨b5, 0, none⟩), .pointer (some ⟨b12, 0, none⟩)] w _
  have HBX : Hid (Below w.heap.size w (w.alloc (.cells #[.int .i64 op, .int .i64 width, .int .i64 flags, .slice aa args.length ac, .int .u32 imm] 47))) := (Below.refl _ _).alloc (Nat.le_refl _) _
  have HADD : Hid (Calls Try.prog 67 #[.pointer (some ⟨bb, 0, none⟩), .agg #[.int .i64 op, .int .i64 width, .int .i64 flags, .slice aa args.length ac, .int .u32 imm]] (w.alloc (.cells #[.int .i64 op, .int .i64 width, .int .i64 flags, .slice aa args.length ac, .int .u32 imm] 47)) fun e w' => e = .returned (.int .i64 (stepA s.1 ⟨op, width, flags, args, imm⟩).2) ∧
      ∃ T', Bld bb (stepA s.1 ⟨op, width, flags, args, imm⟩).1 T' w' ∧ (∀ b, T' b → T1 b ∨ (w.alloc (.cells #[.int .i64 op, .int .i64 width, .int .i64 flags, .slice aa args.length ac, .int .u32 imm] 47)).heap.size ≤ b ∨ (Value.slice aa args.length ac).ownBlock = some b) ∧ Chg T1 (w.alloc (.cells #[.int .i64 op, .int .i64 width, .int .i64 flags, .slice aa args.length ac, .int .u32 imm] 47)) w') :=
    add_any bb s.1 T1 ⟨op, width, flags, args, imm⟩ (.slice aa args.length ac) _ (HI.out.bld.next HBX.out) HK.out (HF.out.below HBX.out) (fun b hb => ⟨fun h => HAT.out b hb (.inl h), by have := HAL.out b hb; simp; omega⟩) (by have := HSS.out.1; omega)
  have HFRM : Hid (Calls Try.prog 66 #[.pointer (some ⟨bb, 0, none⟩), .slice ua us.length uc, .int .i64 ((us.length : Int) - 1), .map (some s2), .func (.func 67) #[.pointer (some ⟨bb, 0, none⟩)] #[]] (w.alloc (.cells #[.int .i64 op, .int .i64 width, .int .i64 flags, .slice aa args.length ac, .int .u32 imm] 47)) fun e w' => e = .returned (.int .i64 (gno (gvis stepA us (us.length - 1 + 1) (us.length - 1) (s.1, s.2)).2 (us.length - 1))) ∧ FrP (Bld bb) s2 T1 (w.alloc (.cells #[.int .i64 op, .int .i64 width, .int .i64 flags, .slice aa args.length ac, .int .u32 imm] 47)) (gvis stepA us (us.length - 1 + 1) (us.length - 1) (s.1, s.2)) w') := by
    have h9 := from_any (step := stepA) (I := Bld bb) (J := JA (cnt nos) us) us (.slice ua us.length uc) (.pointer (some ⟨bb, 0, none⟩)) w0 _ #[.pointer (some ⟨bb, 0, none⟩)] #[] callf_add hu (gjJA (cnt nos) us) (iok_bld bb) HUS.out (fun k hk => by have := (hvu k hk).len; omega) (made_add bb (cnt nos) us w0 (by have := HSS.out.2; omega) hvu) (us.length - 1 + 1) (us.length - 1) s.1 s.2 T1 (w.alloc (.cells #[.int .i64 op, .int .i64 width, .int .i64 flags, .slice aa args.length ac, .int .u32 imm] 47)) s2 (by omega) (by omega) HJA.out (HI.out.bld.next HBX.out) (HI.out.next HBX.out).seen HI.out.n2 (HTB.out s2 ((HT.out s2).2 (.inr (.inl rfl)))) (fun b hb => HTB.out b ((HT.out b).2 (.inl hb))) (below_hop HB.out HBX.out)
    rw [show ((us.length - 1 : Nat) : Int) = (us.length : Int) - 1 by omega] at h9
    exact h9
  clear HJA HTB HUS HSS
  cases h33 : (op != 33)
  · have e33 : op = 33 := by simpa using h33
    subst e33
    cases hiv : (imm != v)
    · have eiv : imm = v := by simpa using hiv
      have HS : Hid (stepP v us s ⟨33, width, flags, args, imm⟩ = (gvis stepA us (us.length - 1 + 1) (us.length - 1) s, gno (gvis stepA us (us.length - 1 + 1) (us.length - 1) s).2 (us.length - 1))) := if_pos ⟨rfl, eiv⟩
      clear eiv h33 HADD
      rw [HS.out]
      change Hid (Calls _ _ _ _ fun e w' => e = .returned (.int .i64 (gno (gvis stepA us (us.length - 1 + 1) (us.length - 1) s).2 (us.length - 1))) ∧ FrP (Bld bb) s2 T1 _ (gvis stepA us (us.length - 1 + 1) (us.length - 1) s) w') at HFRM
      generalize gvis stepA us (us.length - 1 + 1) (us.length - 1) s = c at *
      go_enter Try.func70, Try.ntmps70
      go_wp2_with fail
      refine HFRM.out.mono ?_
      rintro e w' ⟨rfl, hp⟩
      have HP := Lib.hid hp
      clear hp
      go_wp2_with fail
      go_ret
      obtain ⟨T', p1, p2, p3⟩ := (HI.out.next HBX.out).walked HP.out
      refine ⟨rfl, fun b => T' b ∨ b = s2 ∨ b = b11 ∨ b = b12, ⟨T', fun b => Iff.rfl, p1⟩, fun b hb => ?_, ((Chg.of_below HBX.out).trans p3 (fun _ _ h => h)).mono fun k _ h => (HT.out k).2 (by rcases h with h | h; exact .inl h; exact .inr (.inl h))⟩
      rcases hb with hb | hb
      · rcases p2 b hb with h | h
        · exact .inl ((HT.out b).2 (.inl h))
        · exact .inr (.inl (by simp at h; omega))
      · exact .inl ((HT.out b).2 (.inr hb))
    · have eiv : ¬ imm = v := by simpa using hiv
      have HS : Hid (stepP v us s ⟨33, width, flags, args, imm⟩ = (((addN s.1 ⟨33, width, flags, args, imm⟩).1, s.2), ((addN s.1 ⟨33, width, flags, args, imm⟩).2 : Int))) := if_neg (fun h => eiv h.2)
      clear eiv h33 HFRM
      rw [HS.out]
      go_enter Try.func70, Try.ntmps70
      go_wp2_with fail
      refine HADD.out.mono ?_
      rintro e w' ⟨rfl, hp⟩
      have HP := Lib.hid hp
      clear hp
      go_wp2_with fail
      go_ret
      obtain ⟨T', p1, p2, p3⟩ := HP.out
      have p4 := (HI.out.next HBX.out).added p1 p2 p3 HAT.out
      refine ⟨rfl, fun b => T' b ∨ b = s2 ∨ b = b11 ∨ b = b12, ⟨T', fun b => Iff.rfl, p4⟩, fun b hb => ?_, ((Chg.of_below HBX.out).trans p3 (fun _ _ h => h)).mono fun k _ h => (HT.out k).2 (.inl h)⟩
      rcases hb with hb | hb
      · rcases p2 b hb with h | h | h
        · exact .inl ((HT.out b).2 (.inl h))
        · exact .inr (.inl (by simp at h; omega))
        · exact .inr (.inr h)
      · exact .inl ((HT.out b).2 (.inr hb))
  · have e33 : ¬ op = 33 := by simpa using h33
    have HS : Hid (stepP v us s ⟨op, width, flags, args, imm⟩ = (((addN s.1 ⟨op, width, flags, args, imm⟩).1, s.2), ((addN s.1 ⟨op, width, flags, args, imm⟩).2 : Int))) := if_neg (fun h => e33 h.1)
    clear e33 HFRM
    rw [HS.out]
    go_enter Try.func70, Try.ntmps70
    go_wp2_with fail
    refine HADD.out.mono ?_
    rintro e w' ⟨rfl, hp⟩
    have HP := Lib.hid hp
    clear hp
    go_wp2_with fail
    go_ret
    obtain ⟨T', p1, p2, p3⟩ := HP.out
    have p4 := (HI.out.next HBX.out).added p1 p2 p3 HAT.out
    refine ⟨rfl, fun b => T' b ∨ b = s2 ∨ b = b11 ∨ b = b12, ⟨T', fun b => Iff.rfl, p4⟩, fun b hb => ?_, ((Chg.of_below HBX.out).trans p3 (fun _ _ h => h)).mono fun k _ h => (HT.out k).2 (.inl h)⟩
    rcases hb with hb | hb
    · rcases p2 b hb with h | h | h
      · exact .inl ((HT.out b).2 (.inl h))
      · exact .inr (.inl (by simp at h; omega))
      · exact .inr (.inr h)
    · exact .inl ((HT.out b).2 (.inr hb))
end Go.Proofs.Ythopdfikikdcbaa
/- The errors of Put, and that its result is as a term must be: plain. -/
namespace Go.Proofs.Ythopdfikikdcbaa
open Go.RowKit Wd
set_option linter.unusedVariables false
set_option linter.unusedSimpArgs false
theorem sub_ok {v : Int} {U : Tr} (hU : U.Ok) (t : Tr) : t.Ok → t.All (fun op w f i => op = 33 → i = v → w = U.w) → (subT v U t).Ok ∧ (subT v U t).w = t.w := by
  induction t using Tr.ind with
  | _ op w f l i ih =>
    intro ht hv
    cases ht with
    | mk h1 h2 h3 =>
      cases hv with
      | mk v1 v2 =>
        rw [subT_mk]
        by_cases hc : op = 33 ∧ i = v
        · rw [if_pos hc]
          exact ⟨hU, (v1 hc.1 hc.2).symm⟩
        · rw [if_neg hc]
          refine ⟨.mk (by rw [List.length_map]; exact h1) ?_ ?_, rfl⟩
          · have e : (l.map (subT v U)).map Tr.w = l.map Tr.w := by
              rw [List.map_map]
              exact List.map_congr_left fun t ht => (ih t ht (h3 t ht) (v2 t ht)).2
            rw [e]; exact h2
          · intro t ht
            obtain ⟨t', ht', rfl⟩ := List.mem_map.1 ht
            exact (ih t' ht' (h3 t' ht') (v2 t' ht')).1
theorem sub_all {p : Int → Int → Int → Int → Prop} {v : Int} {U : Tr} (hU : U.All p) (t : Tr) : t.All p → (subT v U t).All p := by
  induction t using Tr.ind with
  | _ op w f l i ih =>
    intro hv
    cases hv with
    | mk v1 v2 =>
      rw [subT_mk]
      split
      · exact hU
      · refine .mk v1 fun t ht => ?_
        obtain ⟨t', ht', rfl⟩ := List.mem_map.1 ht
        exact ih t' ht' (v2 t' ht')
theorem var_w {ts : List Nd} (h : valE ts = 0) (hI : ∀ x ∈ ts, 0 ≤ x.imm ∧ x.imm ≤ 4294967295) : ∀ x ∈ ts, x.op = 33 → (widL ts).getD x.imm.toNat 0 = x.width := by
  intro x hx h33
  obtain ⟨_, _, hS, _, _⟩ := valid_facts h
  obtain ⟨i, hi, rfl⟩ := List.getElem_of_mem hx
  have hinv := (wmap_inv (fun x hx => (hI x hx).1) (fun i hi => okS_at hS hi) ts.length (widL ts) (Nat.le_refl _) (by rw [List.take_length]; exact (widL_ok h).1)).1 i hi
  rw [List.getD_eq_getElem?_getD, List.getElem?_eq_getElem hi] at hinv
  exact hinv h33
section
variable {v : Nat} {ts us : List Nd}
theorem putT_ok (h : valE ts = 0) (hu : valE us = 0) (hI : ∀ x ∈ ts, 0 ≤ x.imm ∧ x.imm ≤ 4294967295) (hw : (nd us (us.length - 1)).width = (widL ts).getD v 0) :
    (putT (v : Int) ts us).Ok ∧ (putT (v : Int) ts us).w = (tree ts (ts.length - 1)).w := by
  obtain ⟨t1, t2, tS, tT, _⟩ := valid_facts h
  obtain ⟨u1, u2, uS, uT, _⟩ := valid_facts hu
  refine sub_ok (tree_ok (valid_down hu) uS uT _ (by omega)) _ (tree_ok (valid_down h) tS tT _ (by omega)) (tree_all (valid_down h) (fun x hx h33 hv => ?_) _ (by omega))
  rw [tree_w (valid_down hu) (by omega), hw, ← var_w h hI x hx h33, hv]
  rfl
theorem outP_good (v : Int) (ts us : List Nd) : Good (outP v ts us) := (put1 (putT v ts us) [] Good.nil).good
theorem outP_shaped (h : valE ts = 0) (hu : valE us = 0) (hI : ∀ x ∈ ts, 0 ≤ x.imm ∧ x.imm ≤ 4294967295) (hw : (nd us (us.length - 1)).width = (widL ts).getD v 0) :
    ∀ i, i < (outP (v : Int) ts us).length → shaped i ((outP (v : Int) ts us).getD i default) = true := fun i hi =>
  (shr_allok (putT_ok h hu hI hw).1).shaped (outP_good _ _ _).down hi
theorem outP_imm (v : Int) (h : valE ts = 0) (hu : valE us = 0) (hI : ∀ x ∈ ts, 0 ≤ x.imm ∧ x.imm ≤ 4294967295) (hI' : ∀ x ∈ us, 0 ≤ x.imm ∧ x.imm ≤ 4294967295) : ∀ x ∈ outP v ts us, 0 ≤ x.imm ∧ x.imm ≤ 4294967295 := by
  obtain ⟨t1, t2, _⟩ := valid_facts h
  obtain ⟨u1, u2, _⟩ := valid_facts hu
  exact insT_all (p := fun _ _ _ i => 0 ≤ i ∧ i ≤ 4294967295) (putT v ts us) [] (sub_all (tree_all (valid_down hu) hI' _ (by omega)) _ (tree_all (valid_down h) hI _ (by omega))) (fun x hx => by cases hx)
theorem outP_var (h : valE ts = 0) (hu : valE us = 0) (hI : ∀ x ∈ ts, 0 ≤ x.imm ∧ x.imm ≤ 4294967295) (hI' : ∀ x ∈ us, 0 ≤ x.imm ∧ x.imm ≤ 4294967295) (hw : (nd us (us.length - 1)).width = (widL ts).getD v 0) :
    ∀ x ∈ outP (v : Int) ts us, 0 ≤ x.imm ∧ (x.op = 33 → x.imm < 4) := fun x hx => by
  refine ⟨(outP_imm (v : Int) h hu hI hI' x hx).1, fun h33 => ?_⟩
  obtain ⟨i, hi, rfl⟩ := List.getElem_of_mem hx
  have hs := shaped_facts (outP_shaped (v := v) h hu hI hw i hi)
  rw [List.getD_eq_getElem?_getD, List.getElem?_eq_getElem hi] at hs
  exact hs.2.2.2.2.2.1 h33
theorem outP_len (v : Int) (h : valE ts = 0) (hu : valE us = 0) : (outP v ts us).length ≤ 600 := by
  obtain ⟨t1, t2, _⟩ := valid_facts h
  obtain ⟨u1, u2, _⟩ := valid_facts hu
  obtain ⟨h1, h2, h3, h4, h5⟩ := put_share (v := v) (valid_down h) (valid_down hu) (by omega) (by omega) rfl
  rw [← h4]
  have := shr_len h1 h3
  omega
end
/-- The error of Put behind the replacing. -/
def putF (v : Int) (ts us : List Nd) : Int := if wmap (outP v ts us) = none then 7 else if 300 < (outP v ts us).length then 3 else 0
def putFL (v : Int) (ts us : List Nd) : List Nd := if putF v ts us = 0 then outP v ts us else []
theorem putFL_no {v : Int} {ts us : List Nd} (h : putF v ts us ≠ 0) : putFL v ts us = [] := if_neg h
theorem putFL_ok {v : Int} {ts us : List Nd} (h : putF v ts us = 0) : putFL v ts us = outP v ts us := if_pos h
def putE (v : Int) (ts us : List Nd) : Int :=
  if valE ts ≠ 0 then valE ts else if valE us ≠ 0 then valE us else if v < 0 ∨ 4 ≤ v then 1 else
  if (widL ts).getD v.toNat 0 = 0 then 4 else if (nd us (us.length - 1)).width ≠ (widL ts).getD v.toNat 0 then 6 else putF v ts us
def putO (v : Int) (ts us : List Nd) : List Nd := if putE v ts us = 0 then outP v ts us else []
theorem putO_no {v : Int} {ts us : List Nd} (h : putE v ts us ≠ 0) : putO v ts us = [] := if_neg h
theorem putE_t {v : Int} {ts us : List Nd} (h : valE ts ≠ 0) : putE v ts us = valE ts := if_pos h
theorem putE_u {v : Int} {ts us : List Nd} (h : valE ts = 0) (hu : valE us ≠ 0) : putE v ts us = valE us := by unfold putE; rw [if_neg (by simpa using h), if_pos hu]
theorem putE_v {v : Int} {ts us : List Nd} (h : valE ts = 0) (hu : valE us = 0) (hv : v < 0 ∨ 4 ≤ v) : putE v ts us = 1 := by unfold putE; rw [if_neg (by simpa using h), if_neg (by simpa using hu), if_pos hv]
theorem putE_0 {v : Nat} {ts us : List Nd} (h : valE ts = 0) (hu : valE us = 0) (hv : v < 4) (hw : (widL ts).getD v 0 = 0) : putE (v : Int) ts us = 4 := by
  unfold putE; rw [if_neg (by simpa using h), if_neg (by simpa using hu), if_neg (by omega), Int.toNat_natCast, if_pos hw]
theorem putE_w {v : Nat} {ts us : List Nd} (h : valE ts = 0) (hu : valE us = 0) (hv : v < 4) (hw : (widL ts).getD v 0 ≠ 0) (hr : (nd us (us.length - 1)).width ≠ (widL ts).getD v 0) : putE (v : Int) ts us = 6 := by
  unfold putE; rw [if_neg (by simpa using h), if_neg (by simpa using hu), if_neg (by omega), Int.toNat_natCast, if_neg hw, if_pos hr]
theorem putE_f {v : Nat} {ts us : List Nd} (h : valE ts = 0) (hu : valE us = 0) (hv : v < 4) (hw : (widL ts).getD v 0 ≠ 0) (hr : (nd us (us.length - 1)).width = (widL ts).getD v 0) : putE (v : Int) ts us = putF (v : Int) ts us := by
  unfold putE; rw [if_neg (by simpa using h), if_neg (by simpa using hu), if_neg (by omega), Int.toNat_natCast, if_neg hw, if_neg (by simpa using hr)]
end Go.Proofs.Ythopdfikikdcbaa
/- Walk of Put of the program. -/
namespace Go.Proofs.Ythopdfikikdcbaa
open Go.RowKit Go.Maps Wd
set_option linter.unusedVariables false
set_option linter.unusedSimpArgs false
theorem below_al {w w' : World} (h : Below w.heap.size w w') (o : Obj) : Below w.heap.size w (w'.alloc o) := h.alloc h.size o
/-- Two boxes are made at the start. -/
theorem two_boxes (w : World) (o1 o2 : Obj) : Below w.heap.size w ((w.alloc o1).alloc o2) := ((Below.refl _ _).alloc (Nat.le_refl _) _).alloc (by simp) _
section
variable {ts us : List Nd} {ta ua : Option Addr} {tc uc : Nat} {w : World}
set_option maxRecDepth 100000 in
set_option maxHeartbeats 2000000 in
theorem pPut_t (hts : Nds w (.slice ta ts.length tc) ts) (hus : Nds w (.slice ua us.length uc) us) (hi : ∀ x ∈ ts, 0 ≤ x.imm ∧ x.imm ≤ 4294967295) (hi' : ∀ x ∈ us, 0 ≤ x.imm ∧ x.imm ≤ 4294967295) (v : Int) (h : valE ts ≠ 0) :
    Calls Try.prog 41 #[.slice ta ts.length tc, .int .i64 v, .slice ua us.length uc] w fun e w' => e = .returned (.tuple #[.slice none 0 0, .int .i64 (valE ts)]) ∧ Below w.heap.size w w' := by
  have hne : (valE ts != 0) = true := by simpa using h
  clear h
  have hb2 : Below w.heap.size w ((w.alloc (.cells #[.int .i64 v] 3)).alloc (.cells #[.slice ua us.length uc] 22)) := two_boxes w _ _
  have HB2 := Lib.hid hb2
  have HW := Lib.hid (pWidths ts (.slice ta ts.length tc) _ (hts.stays hb2) hi)
  have HTS := Lib.hid hts
  have HUS := Lib.hid hus
  have HI := Lib.hid hi
  have HI' := Lib.hid hi'
  obtain ⟨_, _, _, _, ht2⟩ := hts.shape
  obtain ⟨_, _, _, _, hu2⟩ := hus.shape
  clear hb2 hts hus hi hi'
  go_enter Try.func41, Try.ntmps41
  go_wp2_with fail
  refine HW.out.mono ?_
  rintro e w1 ⟨wv, rfl, hwv, hb1⟩
  obtain ⟨wa, wc, rfl, _⟩ := hwv.shape
  have HB1 := Lib.hid (HB2.out.trans (hb1.mono (by simp; omega)))
  have e4 := below_cell hb1 (b := w.heap.size) (o := 0) (v := .int .i64 v) (by simp; omega) (by simp [go_sem])
  have e5 := below_cell hb1 (b := w.heap.size + 1) (o := 0) (v := .slice ua us.length uc) (by simp) (by simp [go_sem])
  have hs1 := hb1.size
  simp only [World.size_alloc] at hs1
  have HWV := Lib.hid hwv
  clear hb1 hwv
  go_wp2_with fail
  go_ret2
  exact ⟨rfl, HB1.out⟩
set_option maxRecDepth 100000 in
set_option maxHeartbeats 2000000 in
theorem pPut_u (hts : Nds w (.slice ta ts.length tc) ts) (hus : Nds w (.slice ua us.length uc) us) (hi : ∀ x ∈ ts, 0 ≤ x.imm ∧ x.imm ≤ 4294967295) (hi' : ∀ x ∈ us, 0 ≤ x.imm ∧ x.imm ≤ 4294967295) (v : Int) (h : valE ts = 0) (hu : valE us ≠ 0) :
    Calls Try.prog 41 #[.slice ta ts.length tc, .int .i64 v, .slice ua us.length uc] w fun e w' => e = .returned (.tuple #[.slice none 0 0, .int .i64 (valE us)]) ∧ Below w.heap.size w w' := by
  have HV0 := Lib.hid h
  have hne : (valE us != 0) = true := by simpa using hu
  clear h hu
  have hb2 : Below w.heap.size w ((w.alloc (.cells #[.int .i64 v] 3)).alloc (.cells #[.slice ua us.length uc] 22)) := two_boxes w _ _
  have HB2 := Lib.hid hb2
  have HW := Lib.hid (pWidths ts (.slice ta ts.length tc) _ (hts.stays hb2) hi)
  have HTS := Lib.hid hts
  have HUS := Lib.hid hus
  have HI := Lib.hid hi
  have HI' := Lib.hid hi'
  obtain ⟨_, _, _, _, ht2⟩ := hts.shape
  obtain ⟨_, _, _, _, hu2⟩ := hus.shape
  clear hb2 hts hus hi hi'
  go_enter Try.func41, Try.ntmps41
  go_wp2_with fail
  refine HW.out.mono ?_
  rintro e w1 ⟨wv, rfl, hwv, hb1⟩
  rw [HV0.out]
  obtain ⟨wa, wc, rfl, _⟩ := hwv.shape
  have HB1 := Lib.hid (HB2.out.trans (hb1.mono (by simp; omega)))
  have e4 := below_cell hb1 (b := w.heap.size) (o := 0) (v := .int .i64 v) (by simp; omega) (by simp [go_sem])
  have e5 := below_cell hb1 (b := w.heap.size + 1) (o := 0) (v := .slice ua us.length uc) (by simp) (by simp [go_sem])
  have hs1 := hb1.size
  simp only [World.size_alloc] at hs1
  have HWV := Lib.hid hwv
  clear hb1 hwv
  have HVU := Lib.hid (pValidate us (.slice ua us.length uc) w1 (HUS.out.stays HB1.out) HI'.out)
  go_wp2_with fail
  refine HVU.out.mono ?_
  rintro e w2 ⟨rfl, hb3⟩
  have HB3 := Lib.hid (below_hop HB1.out hb3)
  clear hb3
  go_wp2_with fail
  go_ret2
  exact ⟨rfl, HB3.out⟩
set_option maxRecDepth 100000 in
set_option maxHeartbeats 2000000 in
theorem pPut_v1 (hts : Nds w (.slice ta ts.length tc) ts) (hus : Nds w (.slice ua us.length uc) us) (hi : ∀ x ∈ ts, 0 ≤ x.imm ∧ x.imm ≤ 4294967295) (hi' : ∀ x ∈ us, 0 ≤ x.imm ∧ x.imm ≤ 4294967295) (v : Int) (h : valE ts = 0) (hu : valE us = 0) (hv : v < 0) :
    Calls Try.prog 41 #[.slice ta ts.length tc, .int .i64 v, .slice ua us.length uc] w fun e w' => e = .returned (.tuple #[.slice none 0 0, .int .i64 1]) ∧ Below w.heap.size w w' := by
  have HV0 := Lib.hid h
  have HVU0 := Lib.hid hu
  have hv1 : decide (v < 0) = true := decide_eq_true hv
  clear h hu hv
  have hb2 : Below w.heap.size w ((w.alloc (.cells #[.int .i64 v] 3)).alloc (.cells #[.slice ua us.length uc] 22)) := two_boxes w _ _
  have HB2 := Lib.hid hb2
  have HW := Lib.hid (pWidths ts (.slice ta ts.length tc) _ (hts.stays hb2) hi)
  have HTS := Lib.hid hts
  have HUS := Lib.hid hus
  have HI := Lib.hid hi
  have HI' := Lib.hid hi'
  obtain ⟨_, _, _, _, ht2⟩ := hts.shape
  obtain ⟨_, _, _, _, hu2⟩ := hus.shape
  clear hb2 hts hus hi hi'
  go_enter Try.func41, Try.ntmps41
  go_wp2_with fail
  refine HW.out.mono ?_
  rintro e w1 ⟨wv, rfl, hwv, hb1⟩
  rw [HV0.out]
  obtain ⟨wa, wc, rfl, _⟩ := hwv.shape
  have HB1 := Lib.hid (HB2.out.trans (hb1.mono (by simp; omega)))
  have e4 := below_cell hb1 (b := w.heap.size) (o := 0) (v := .int .i64 v) (by simp; omega) (by simp [go_sem])
  have e5 := below_cell hb1 (b := w.heap.size + 1) (o := 0) (v := .slice ua us.length uc) (by simp) (by simp [go_sem])
  have hs1 := hb1.size
  simp only [World.size_alloc] at hs1
  have HWV := Lib.hid hwv
  clear hb1 hwv
  have HVU := Lib.hid (pValidate us (.slice ua us.length uc) w1 (HUS.out.stays HB1.out) HI'.out)
  go_wp2_with fail
  refine HVU.out.mono ?_
  rintro e w2 ⟨rfl, hb3⟩
  rw [HVU0.out]
  have HB3 := Lib.hid (below_hop HB1.out hb3)
  have f4 := below_cell hb3 (by omega) e4
  have f5 := below_cell hb3 (by omega) e5
  have hs3 := hb3.size
  have HWV3 := Lib.hid (HWV.out.stays hb3)
  clear hb3 e4 e5
  go_wp2_with fail
  go_ret2
  exact ⟨rfl, HB3.out⟩
set_option maxRecDepth 100000 in
set_option maxHeartbeats 2000000 in
theorem pPut_v2 (hts : Nds w (.slice ta ts.length tc) ts) (hus : Nds w (.slice ua us.length uc) us) (hi : ∀ x ∈ ts, 0 ≤ x.imm ∧ x.imm ≤ 4294967295) (hi' : ∀ x ∈ us, 0 ≤ x.imm ∧ x.imm ≤ 4294967295) (v : Int) (h : valE ts = 0) (hu : valE us = 0) (hv : 4 ≤ v) :
    Calls Try.prog 41 #[.slice ta ts.length tc, .int .i64 v, .slice ua us.length uc] w fun e w' => e = .returned (.tuple #[.slice none 0 0, .int .i64 1]) ∧ Below w.heap.size w w' := by
  have HV0 := Lib.hid h
  have HVU0 := Lib.hid hu
  have hv1 : decide (v < 0) = false := decide_eq_false (by omega)
  have hv2 : decide (4 ≤ v) = true := decide_eq_true hv
  clear h hu hv
  have hb2 : Below w.heap.size w ((w.alloc (.cells #[.int .i64 v] 3)).alloc (.cells #[.slice ua us.length uc] 22)) := two_boxes w _ _
  have HB2 := Lib.hid hb2
  have HW := Lib.hid (pWidths ts (.slice ta ts.length tc) _ (hts.stays hb2) hi)
  have HTS := Lib.hid hts
  have HUS := Lib.hid hus
  have HI := Lib.hid hi
  have HI' := Lib.hid hi'
  obtain ⟨_, _, _, _, ht2⟩ := hts.shape
  obtain ⟨_, _, _, _, hu2⟩ := hus.shape
  clear hb2 hts hus hi hi'
  go_enter Try.func41, Try.ntmps41
  go_wp2_with fail
  refine HW.out.mono ?_
  rintro e w1 ⟨wv, rfl, hwv, hb1⟩
  rw [HV0.out]
  obtain ⟨wa, wc, rfl, _⟩ := hwv.shape
  have HB1 := Lib.hid (HB2.out.trans (hb1.mono (by simp; omega)))
  have e4 := below_cell hb1 (b := w.heap.size) (o := 0) (v := .int .i64 v) (by simp; omega) (by simp [go_sem])
  have e5 := below_cell hb1 (b := w.heap.size + 1) (o := 0) (v := .slice ua us.length uc) (by simp) (by simp [go_sem])
  have hs1 := hb1.size
  simp only [World.size_alloc] at hs1
  have HWV := Lib.hid hwv
  clear hb1 hwv
  have HVU := Lib.hid (pValidate us (.slice ua us.length uc) w1 (HUS.out.stays HB1.out) HI'.out)
  go_wp2_with fail
  refine HVU.out.mono ?_
  rintro e w2 ⟨rfl, hb3⟩
  rw [HVU0.out]
  have HB3 := Lib.hid (below_hop HB1.out hb3)
  have f4 := below_cell hb3 (by omega) e4
  have f5 := below_cell hb3 (by omega) e5
  have hs3 := hb3.size
  have HWV3 := Lib.hid (HWV.out.stays hb3)
  clear hb3 e4 e5
  go_wp2_with fail
  go_ret2
  exact ⟨rfl, HB3.out⟩
set_option maxRecDepth 100000 in
set_option maxHeartbeats 2000000 in
theorem pPut_0 (hts : Nds w (.slice ta ts.length tc) ts) (hus : Nds w (.slice ua us.length uc) us) (hi : ∀ x ∈ ts, 0 ≤ x.imm ∧ x.imm ≤ 4294967295) (hi' : ∀ x ∈ us, 0 ≤ x.imm ∧ x.imm ≤ 4294967295) (v : Nat) (h : valE ts = 0) (hu : valE us = 0) (hv4 : v < 4) (hw : (widL ts).getD v 0 = 0) :
    Calls Try.prog 41 #[.slice ta ts.length tc, .int .i64 (v : Int), .slice ua us.length uc] w fun e w' => e = .returned (.tuple #[.slice none 0 0, .int .i64 4]) ∧ Below w.heap.size w w' := by
  have HV0 := Lib.hid h
  have HVU0 := Lib.hid hu
  have hv1 : decide ((v : Int) < 0) = false := decide_eq_false (by omega)
  have hv2 : decide (4 ≤ (v : Int)) = false := decide_eq_false (by omega)
  have HW0 := Lib.hid hw
  clear h hu hw
  have hb2 : Below w.heap.size w ((w.alloc (.cells #[.int .i64 (v : Int)] 3)).alloc (.cells #[.slice ua us.length uc] 22)) := two_boxes w _ _
  have HB2 := Lib.hid hb2
  have HW := Lib.hid (pWidths ts (.slice ta ts.length tc) _ (hts.stays hb2) hi)
  have HTS := Lib.hid hts
  have HUS := Lib.hid hus
  have HI := Lib.hid hi
  have HI' := Lib.hid hi'
  obtain ⟨_, _, _, _, ht2⟩ := hts.shape
  obtain ⟨_, _, _, _, hu2⟩ := hus.shape
  clear hb2 hts hus hi hi'
  go_enter Try.func41, Try.ntmps41
  go_wp2_with fail
  refine HW.out.mono ?_
  rintro e w1 ⟨wv, rfl, hwv, hb1⟩
  rw [HV0.out]
  obtain ⟨wa, wc, rfl, _⟩ := hwv.shape
  have HB1 := Lib.hid (HB2.out.trans (hb1.mono (by simp; omega)))
  have e4 := below_cell hb1 (b := w.heap.size) (o := 0) (v := .int .i64 (v : Int)) (by simp; omega) (by simp [go_sem])
  have e5 := below_cell hb1 (b := w.heap.size + 1) (o := 0) (v := .slice ua us.length uc) (by simp) (by simp [go_sem])
  have hs1 := hb1.size
  simp only [World.size_alloc] at hs1
  have HWV := Lib.hid hwv
  clear hb1 hwv
  have HVU := Lib.hid (pValidate us (.slice ua us.length uc) w1 (HUS.out.stays HB1.out) HI'.out)
  go_wp2_with fail
  refine HVU.out.mono ?_
  rintro e w2 ⟨rfl, hb3⟩
  rw [HVU0.out]
  have HB3 := Lib.hid (below_hop HB1.out hb3)
  have f4 := below_cell hb3 (by omega) e4
  have f5 := below_cell hb3 (by omega) e5
  have hs3 := hb3.size
  have HWV3 := Lib.hid (HWV.out.stays hb3)
  clear hb3 e4 e5
  have hwl : (widL ts).length = 4 := (widL_ok HV0.out).2
  have HWVV := HWV3.out
  rw [hwl] at HWVV ⊢
  clear hwl
  obtain ⟨wb, wo, rfl, hwb, d0⟩ : ∃ b o, wa = some ⟨b, o, none⟩ ∧ b < w2.heap.size ∧ w2.cell? ⟨b, o + v, none⟩ = some (.int .i64 ((widL ts).getD v 0)) := by
    have h9 := HWV3.out
    obtain ⟨b, o, e, h1, h2⟩ := h9.row (by rw [(widL_ok HV0.out).2]; omega)
    exact ⟨b, o, e, h1, h2 v (by rw [(widL_ok HV0.out).2]; exact hv4)⟩
  clear HWVV
  have HBD := Lib.hid (widL_bd HV0.out HI.out v)
  rw [HW0.out] at d0
  go_wp2_with fail
  go_ret2
  exact ⟨rfl, HB3.out⟩
set_option maxRecDepth 100000 in
set_option maxHeartbeats 2000000 in
theorem pPut_w (hts : Nds w (.slice ta ts.length tc) ts) (hus : Nds w (.slice ua us.length uc) us) (hi : ∀ x ∈ ts, 0 ≤ x.imm ∧ x.imm ≤ 4294967295) (hi' : ∀ x ∈ us, 0 ≤ x.imm ∧ x.imm ≤ 4294967295) (v : Nat) (h : valE ts = 0) (hu : valE us = 0) (hv4 : v < 4) (hw : (widL ts).getD v 0 ≠ 0) (hr : (nd us (us.length - 1)).width ≠ (widL ts).getD v 0) :
    Calls Try.prog 41 #[.slice ta ts.length tc, .int .i64 (v : Int), .slice ua us.length uc] w fun e w' => e = .returned (.tuple #[.slice none 0 0, .int .i64 6]) ∧ Below w.heap.size w w' := by
  have HV0 := Lib.hid h
  have HVU0 := Lib.hid hu
  have hv1 : decide ((v : Int) < 0) = false := decide_eq_false (by omega)
  have hv2 : decide (4 ≤ (v : Int)) = false := decide_eq_false (by omega)
  obtain ⟨ww, HWE⟩ : ∃ ww, Hid ((widL ts).getD v 0 = ww) := ⟨_, rfl⟩
  rw [HWE.out] at hw hr
  have hw0 : (ww == 0) = false := by simpa using hw
  have hr0 : ((nd us (us.length - 1)).width != ww) = true := by simpa using hr
  clear h hu hw hr
  have hb2 : Below w.heap.size w ((w.alloc (.cells #[.int .i64 (v : Int)] 3)).alloc (.cells #[.slice ua us.length uc] 22)) := two_boxes w _ _
  have HB2 := Lib.hid hb2
  have HW := Lib.hid (pWidths ts (.slice ta ts.length tc) _ (hts.stays hb2) hi)
  have HTS := Lib.hid hts
  have HUS := Lib.hid hus
  have HI := Lib.hid hi
  have HI' := Lib.hid hi'
  obtain ⟨_, _, _, _, ht2⟩ := hts.shape
  obtain ⟨_, _, _, _, hu2⟩ := hus.shape
  clear hb2 hts hus hi hi'
  go_enter Try.func41, Try.ntmps41
  go_wp2_with fail
  refine HW.out.mono ?_
  rintro e w1 ⟨wv, rfl, hwv, hb1⟩
  rw [HV0.out]
  obtain ⟨wa, wc, rfl, _⟩ := hwv.shape
  have HB1 := Lib.hid (HB2.out.trans (hb1.mono (by simp; omega)))
  have e4 := below_cell hb1 (b := w.heap.size) (o := 0) (v := .int .i64 (v : Int)) (by simp; omega) (by simp [go_sem])
  have e5 := below_cell hb1 (b := w.heap.size + 1) (o := 0) (v := .slice ua us.length uc) (by simp) (by simp [go_sem])
  have hs1 := hb1.size
  simp only [World.size_alloc] at hs1
  have HWV := Lib.hid hwv
  clear hb1 hwv
  have HVU := Lib.hid (pValidate us (.slice ua us.length uc) w1 (HUS.out.stays HB1.out) HI'.out)
  go_wp2_with fail
  refine HVU.out.mono ?_
  rintro e w2 ⟨rfl, hb3⟩
  rw [HVU0.out]
  have HB3 := Lib.hid (below_hop HB1.out hb3)
  have f4 := below_cell hb3 (by omega) e4
  have f5 := below_cell hb3 (by omega) e5
  have hs3 := hb3.size
  have HWV3 := Lib.hid (HWV.out.stays hb3)
  clear hb3 e4 e5
  have hwl : (widL ts).length = 4 := (widL_ok HV0.out).2
  have HWVV := HWV3.out
  rw [hwl] at HWVV ⊢
  clear hwl
  obtain ⟨wb, wo, rfl, hwb, d0⟩ : ∃ b o, wa = some ⟨b, o, none⟩ ∧ b < w2.heap.size ∧ w2.cell? ⟨b, o + v, none⟩ = some (.int .i64 ((widL ts).getD v 0)) := by
    have h9 := HWV3.out
    obtain ⟨b, o, e, h1, h2⟩ := h9.row (by rw [(widL_ok HV0.out).2]; omega)
    exact ⟨b, o, e, h1, h2 v (by rw [(widL_ok HV0.out).2]; exact hv4)⟩
  clear HWVV
  have HBD := Lib.hid (widL_bd HV0.out HI.out v)
  obtain ⟨u1, u2, _⟩ := valid_facts HVU0.out
  obtain ⟨ub, uq, ucc, uav, e', _, hub, _, _, g1, _⟩ := (HUS.out.stays HB3.out).at2 (Below.refl _ _) (show us.length - 1 < us.length by omega)
  cases e'
  change _ = some (Value.int .i64 (nd us (us.length - 1)).width) at g1
  rw [HWE.out] at d0
  generalize (nd us (us.length - 1)).width = uw at *
  have hb3q : Below w2.heap.size w2 w2 := Below.refl _ _
  have hi1 : (0 : Int) ≤ (us.length : Int) - 1 := by omega
  have hi2 : (us.length : Int) - 1 < us.length := by omega
  have hi3 : (0 : Int) ≤ (v : Int) := by omega
  have hi4 : (v : Int) < 4 := by omega
  have htn : ((us.length : Int) - 1).toNat = us.length - 1 := by omega
  have hwr : IntKind.i64.wrap ((us.length : Int) - 1) = (us.length : Int) - 1 := IntWalk.i64_in _ (by omega)
  go_wp2_with fail
  go_quiet (fail)
  clear hwr htn
  go_wp2_with fail
  go_ret2
  exact ⟨rfl, below_drewN HB3.out nq⟩
theorem callf_put (args : Array Value) (w : World) : (callFunc 70 args).run Try.prog w = .ok (.enter 70 args) w := by kernel_rfl
set_option maxRecDepth 100000 in
set_option maxHeartbeats 2000000 in
theorem pPut_f (hts : Nds w (.slice ta ts.length tc) ts) (hus : Nds w (.slice ua us.length uc) us) (hi : ∀ x ∈ ts, 0 ≤ x.imm ∧ x.imm ≤ 4294967295) (hi' : ∀ x ∈ us, 0 ≤ x.imm ∧ x.imm ≤ 4294967295) (v : Nat) (h : valE ts = 0) (hu : valE us = 0) (hv4 : v < 4) (hw : (widL ts).getD v 0 ≠ 0) (hr : (nd us (us.length - 1)).width = (widL ts).getD v 0) :
    Calls Try.prog 41 #[.slice ta ts.length tc, .int .i64 (v : Int), .slice ua us.length uc] w fun e w' => ∃ x, e = .returned (.tuple #[x, .int .i64 (putF (v : Int) ts us)]) ∧ Nds w' x (putFL (v : Int) ts us) ∧ Below w.heap.size w w' := by
  have HV0 := Lib.hid h
  have HVU0 := Lib.hid hu
  have hv1 : decide ((v : Int) < 0) = false := decide_eq_false (by omega)
  have hv2 : decide (4 ≤ (v : Int)) = false := decide_eq_false (by omega)
  have HOV := Lib.hid (outP_var h hu hi hi' hr)
  have HOI := Lib.hid (outP_imm (v : Int) h hu hi hi')
  have HOL := Lib.hid (outP_len (v : Int) h hu)
  obtain ⟨ww, HWE⟩ : ∃ ww, Hid ((widL ts).getD v 0 = ww) := ⟨_, rfl⟩
  rw [HWE.out] at hw hr
  have hw0 : (ww == 0) = false := by simpa using hw
  have hr0 : ((nd us (us.length - 1)).width != ww) = false := by simpa using hr
  obtain ⟨hmk⟩ : Nonempty (∀ w : World, (Instr.makeMap 108 none).run Try.prog w = .ok (.map (some w.heap.size)) (w.alloc (.map #[] 0))) := ⟨fun _ => by kernel_rfl⟩
  clear h hu hw hr
  have hb2 : Below w.heap.size w ((w.alloc (.cells #[.int .i64 (v : Int)] 3)).alloc (.cells #[.slice ua us.length uc] 22)) := two_boxes w _ _
  have HB2 := Lib.hid hb2
  have HW := Lib.hid (pWidths ts (.slice ta ts.length tc) _ (hts.stays hb2) hi)
  have HTS := Lib.hid hts
  have HUS := Lib.hid hus
  have HI := Lib.hid hi
  have HI' := Lib.hid hi'
  obtain ⟨_, _, _, _, ht2⟩ := hts.shape
  obtain ⟨_, _, _, _, hu2⟩ := hus.shape
  clear hb2 hts hus hi hi'
  go_enter Try.func41, Try.ntmps41
  go_wp2_with fail
  refine HW.out.mono ?_
  rintro e w1 ⟨wv, rfl, hwv, hb1⟩
  rw [HV0.out]
  obtain ⟨wa, wc, rfl, _⟩ := hwv.shape
  have HB1 := Lib.hid (HB2.out.trans (hb1.mono (by simp; omega)))
  have e4 := below_cell hb1 (b := w.heap.size) (o := 0) (v := .int .i64 (v : Int)) (by simp; omega) (by simp [go_sem])
  have e5 := below_cell hb1 (b := w.heap.size + 1) (o := 0) (v := .slice ua us.length uc) (by simp) (by simp [go_sem])
  have hs1 := hb1.size
  simp only [World.size_alloc] at hs1
  have HWV := Lib.hid hwv
  clear hb1 hwv
  have HVU := Lib.hid (pValidate us (.slice ua us.length uc) w1 (HUS.out.stays HB1.out) HI'.out)
  go_wp2_with fail
  refine HVU.out.mono ?_
  rintro e w2 ⟨rfl, hb3⟩
  rw [HVU0.out]
  have HB3 := Lib.hid (below_hop HB1.out hb3)
  have f4 := below_cell hb3 (by omega) e4
  have f5 := below_cell hb3 (by omega) e5
  have hs3 := hb3.size
  have HWV3 := Lib.hid (HWV.out.stays hb3)
  clear hb3 e4 e5
  have hwl : (widL ts).length = 4 := (widL_ok HV0.out).2
  have HWVV := HWV3.out
  rw [hwl] at HWVV ⊢
  clear hwl
  obtain ⟨wb, wo, rfl, hwb, d0⟩ : ∃ b o, wa = some ⟨b, o, none⟩ ∧ b < w2.heap.size ∧ w2.cell? ⟨b, o + v, none⟩ = some (.int .i64 ((widL ts).getD v 0)) := by
    have h9 := HWV3.out
    obtain ⟨b, o, e, h1, h2⟩ := h9.row (by rw [(widL_ok HV0.out).2]; omega)
    exact ⟨b, o, e, h1, h2 v (by rw [(widL_ok HV0.out).2]; exact hv4)⟩
  clear HWVV
  have HBD := Lib.hid (widL_bd HV0.out HI.out v)
  obtain ⟨u1, u2, _⟩ := valid_facts HVU0.out
  obtain ⟨ub, uq, ucc, uav, e', _, hub, _, _, g1, _⟩ := (HUS.out.stays HB3.out).at2 (Below.refl _ _) (show us.length - 1 < us.length by omega)
  cases e'
  change _ = some (Value.int .i64 (nd us (us.length - 1)).width) at g1
  rw [HWE.out] at d0
  generalize (nd us (us.length - 1)).width = uw at *
  have hb3q : Below w2.heap.size w2 w2 := Below.refl _ _
  have hi1 : (0 : Int) ≤ (us.length : Int) - 1 := by omega
  have hi2 : (us.length : Int) - 1 < us.length := by omega
  have hi3 : (0 : Int) ≤ (v : Int) := by omega
  have hi4 : (v : Int) < 4 := by omega
  have htn : ((us.length : Int) - 1).toNat = us.length - 1 := by omega
  have hwr : IntKind.i64.wrap ((us.length : Int) - 1) = (us.length : Int) - 1 := IntWalk.i64_in _ (by omega)
  go_wp2_with fail
  go_quiet (fail)
  clear hwr htn
  have hbq : Below w2.heap.size w2 (w2.drewN nq) := below_drewN (Below.refl _ _) nq
  have HBQ := Lib.hid (below_hop HB3.out hbq)
  have q4 := below_cell hbq (by omega) f4
  have q5 := below_cell hbq (by omega) f5
  have hqs := hbq.size
  clear hbq f4 f5 d0 g1 hb3q
  generalize w2.drewN nq = wq at *
  obtain ⟨t1, t2, _⟩ := valid_facts HV0.out
  have HDT := Lib.hid (valid_down HV0.out)
  have HDU := Lib.hid (valid_down HVU0.out)
  have HVT := Lib.hid (ndV_of HV0.out HI.out)
  have HVUU := Lib.hid (ndV_of HVU0.out HI'.out)
  have HPS := Lib.hid (fun c hc => put_share (v := (v : Int)) HDT.out HDU.out (by omega) (by omega) (c := c) hc)
  have hb4 : Below wq.heap.size wq ((((wq.alloc (.cells #[.slice none 0 0, .map none] 106)).alloc (.cells #[.pointer (some ⟨wq.heap.size, 0, none⟩)] 103)).alloc (.map #[] 0)).alloc (.cells #[.map (some (wq.heap.size + 2))] 108)) := below_al (below_al (below_al (below_al (Below.refl _ _) _) _) _) _
  have hb5 : Below wq.heap.size wq (((((wq.alloc (.cells #[.slice none 0 0, .map none] 106)).alloc (.cells #[.pointer (some ⟨wq.heap.size, 0, none⟩)] 103)).alloc (.map #[] 0)).alloc (.cells #[.map (some (wq.heap.size + 2))] 108)).alloc (.map #[] 0)) := below_al hb4 _
  have HI5 : Hid (PutI wq.heap.size (wq.heap.size + 2) (wq.heap.size + 1) (wq.heap.size + 3) (([], List.replicate us.length (-1)) : List Nd × List Int) (fun b => b = wq.heap.size ∨ b = wq.heap.size + 2 ∨ b = wq.heap.size + 1 ∨ b = wq.heap.size + 3) (((((wq.alloc (.cells #[.slice none 0 0, .map none] 106)).alloc (.cells #[.pointer (some ⟨wq.heap.size, 0, none⟩)] 103)).alloc (.map #[] 0)).alloc (.cells #[.map (some (wq.heap.size + 2))] 108)).alloc (.map #[] 0))) := ⟨fun b => b = wq.heap.size, fun b => Iff.rfl, {
    bld := bld_made (below_al (below_al (below_al (below_al (Below.refl _ _) _) _) _) _)
    seen := by
      have h9 := seen_made (wx := ((wq.alloc (.cells #[.slice none 0 0, .map none] 106)).alloc (.cells #[.pointer (some ⟨wq.heap.size, 0, none⟩)] 103))) (n := us.length) (by omega) (below_al (below_al (Below.refl _ _) (.cells #[.map (some (wq.heap.size + 2))] 108)) (.map #[] 0))
      simp only [World.size_alloc] at h9
      exact h9
    cb := by simp [go_sem]
    cs := by simp [go_sem]
    n2 := by omega
    n11 := by omega
    n12 := by omega
    d11 := by omega
    d12 := by omega }⟩
  have HFA := Lib.hid (from_any (step := stepP (v : Int) us) (I := PutI wq.heap.size (wq.heap.size + 2) (wq.heap.size + 1) (wq.heap.size + 3)) (J := JP (v : Int) us ts) ts (.slice ta ts.length tc) (.pointer (some ⟨wq.heap.size, 0, none⟩)) wq _ #[] #[.pointer (some ⟨w.heap.size, 0, none⟩), .pointer (some ⟨wq.heap.size + 1, 0, none⟩), .pointer (some ⟨w.heap.size + 1, 0, none⟩), .pointer (some ⟨wq.heap.size + 3, 0, none⟩)] callf_put HDT.out (gjP HDT.out HDU.out (by omega)) (iok_put _ _ _ _) (HTS.out.stays HBQ.out) (args_le HV0.out HI.out)
    (made_put wq.heap.size (wq.heap.size + 2) w.heap.size (w.heap.size + 1) (wq.heap.size + 1) (wq.heap.size + 3) (v : Int) us ts _ wq q4 q5 (HUS.out.stays HBQ.out) HDU.out HVUU.out (by omega) (by omega) HVT.out (by omega))
    (ts.length - 1 + 1) (ts.length - 1) ([], List.replicate us.length (-1)) (List.replicate ts.length (-1)) _ (((((wq.alloc (.cells #[.slice none 0 0, .map none] 106)).alloc (.cells #[.pointer (some ⟨wq.heap.size, 0, none⟩)] 103)).alloc (.map #[] 0)).alloc (.cells #[.map (some (wq.heap.size + 2))] 108)).alloc (.map #[] 0)) (wq.heap.size + 4) (by omega) (by omega) (jp_start (v : Int) us ts) HI5.out (by
      have h9 := seen_made (wx := ((((wq.alloc (.cells #[.slice none 0 0, .map none] 106)).alloc (.cells #[.pointer (some ⟨wq.heap.size, 0, none⟩)] 103)).alloc (.map #[] 0)).alloc (.cells #[.map (some (wq.heap.size + 2))] 108))) (n := ts.length) (by omega) (Below.refl _ _)
      simp only [World.size_alloc] at h9
      exact h9) (by omega) (by omega) (fun b hb => by omega) hb5)
  have HB5 := Lib.hid hb5
  have hsz5 := hb5.size
  clear hb4 hb5
  generalize hgv : gvis (stepP (v : Int) us) ts (ts.length - 1 + 1) (ts.length - 1) ((([], List.replicate us.length (-1)) : List Nd × List Int), List.replicate ts.length (-1)) = c at *
  obtain ⟨r1, r2, r3, r4, r5⟩ := HPS.out c rfl
  obtain ⟨k2, hk2⟩ : ∃ k2 : Nat, gno c.2 (ts.length - 1) = (k2 : Int) := Int.eq_ofNat_of_zero_le r2
  rw [hk2, Int.toNat_natCast] at r3 r4
  rw [hk2, show ((ts.length - 1 : Nat) : Int) = (ts.length : Int) - 1 by omega] at HFA
  have R1 := Lib.hid r1
  have R4 := Lib.hid r4
  obtain ⟨⟨o, nos2⟩, nos⟩ := c
  simp only at r3 r5
  clear r1 r2 r4 hk2 hgv HPS
  go_wp2_with fail
  refine HFA.out.mono ?_
  rintro e w6 ⟨rfl, T', ⟨T1, hT1, hP⟩, hS6, hT6, hc6⟩
  have HB6 := Lib.hid (HBQ.out.trans ((HB5.out.trans (hc6.below hsz5 (fun k hk => by omega))).mono HBQ.out.size))
  obtain ⟨W6, R6, nv6, fv6, avs6, _, hb6⟩ := hP.bld
  obtain ⟨na6, nc6, rfl⟩ := own_shape hb6.row
  have c0 := hb6.b0
  have c11 := hP.cb
  have hcl := hb6.Wlt _ hb6.Wb
  have hcl11 := cell_lt c11
  have HSC := Lib.hid (share_any o (.slice na6 o.length nc6) w6 k2 (hb6.nds (by show o.length ≤ _; omega)) R1.out (ndV_of_K hb6.kn) r3 (by omega))
  rw [R4.out] at HSC
  clear hb6 hP hT1 hS6 hT6 hc6 R1 R4 q4 q5 hmk
  go_wp2_with fail
  refine HSC.out.mono ?_
  rintro e w7 ⟨sv, rfl, hs⟩
  have hsn := hs.nds (by have := HOL.out; omega)
  have HB7 := Lib.hid (below_hop HB6.out hs.bel)
  have HS := Lib.hid hsn
  have HWD := Lib.hid (widths_any (outP (v : Int) ts us) sv w7 hsn HOV.out)
  obtain ⟨sa, sc, rfl, _⟩ := hsn.shape
  have hol : (outP (v : Int) ts us).length ≤ 600 := HOL.out
  clear hs hsn c0 c11
  cases hwm : wmap (outP (v : Int) ts us) with
  | none =>
    have HPF : Hid (putF (v : Int) ts us = 7) := if_pos hwm
    rw [hwm] at HWD
    clear hwm
    go_wp2_with fail
    refine HWD.out.mono ?_
    rintro e w8 ⟨xv, rfl, _, _, hb8⟩
    have HB8 := Lib.hid (below_hop HB7.out hb8)
    clear hb8
    simp only [Option.isSome_none]
    go_wp2_with fail
    rw [HPF.out]
    go_ret2
    exact ⟨_, rfl, by rw [putFL_no (by rw [HPF.out]; simp)]; exact Nds.nil _, HB8.out⟩
  | some wl =>
    have HNN : Hid (wmap (outP (v : Int) ts us) ≠ none) := by show _ ≠ _; rw [hwm]; simp
    rw [hwm] at HWD
    clear hwm
    by_cases h300 : 300 < (outP (v : Int) ts us).length
    · have HPF : Hid (putF (v : Int) ts us = 3) := by show _ = _; unfold putF; rw [if_neg HNN.out, if_pos h300]
      have h300i : (300 : Int) < (outP (v : Int) ts us).length := by omega
      go_wp2_with fail
      refine HWD.out.mono ?_
      rintro e w8 ⟨xv, rfl, _, _, hb8⟩
      have HB8 := Lib.hid (below_hop HB7.out hb8)
      clear hb8
      simp only [Option.isSome_some]
      go_wp2_with fail
      rw [HPF.out]
      go_ret2
      exact ⟨_, rfl, by rw [putFL_no (by rw [HPF.out]; simp)]; exact Nds.nil _, HB8.out⟩
    · have HPF : Hid (putF (v : Int) ts us = 0) := by show _ = _; unfold putF; rw [if_neg HNN.out, if_neg h300]
      have h300i : ¬ (300 : Int) < (outP (v : Int) ts us).length := by omega
      go_wp2_with fail
      refine HWD.out.mono ?_
      rintro e w8 ⟨xv, rfl, _, _, hb8⟩
      have HB8 := Lib.hid hb8
      clear hb8
      simp only [Option.isSome_some]
      go_wp2_with fail
      rw [HPF.out]
      go_ret2
      exact ⟨_, rfl, by rw [putFL_ok HPF.out]; exact HS.out.stays HB8.out, below_hop HB7.out HB8.out⟩
end
end Go.Proofs.Ythopdfikikdcbaa
/- Walk of put of the answer: a variable is replaced by a term. -/
namespace Go.Proofs.Ythopdfikikdcbaa
open Go.RowKit Go.Maps Wd
set_option linter.unusedVariables false
set_option linter.unusedSimpArgs false
structure RpR (w0 : World) (A n : Nat) (c : List Nd × List Int) (R : Nat → Prop) (avs : List Value) (nv : Value) (wx : World) : Prop where
  out : OSt w0.heap.size c.1 R wx nv avs
  at_ : OInts .i64 wx A (c.2 ++ List.replicate (n - c.2.length) 0)
  nA : nv.ownBlock ≠ some A
  RA : ¬ R A
  bel : Below w0.heap.size w0 wx
  AB : w0.heap.size ≤ A
theorem at_set (l : List Int) (n : Nat) (x : Int) (h : l.length < n) : (l ++ List.replicate (n - l.length) 0).set l.length x = (l ++ [x]) ++ List.replicate (n - (l ++ [x]).length) 0 := by
  rw [List.set_append_right _ _ (Nat.le_refl _), Nat.sub_self, List.length_append, List.length_singleton, show n - l.length = (n - (l.length + 1)) + 1 by omega, List.replicate_succ, List.set_cons_zero, List.append_assoc]
  rfl
theorem at_len (l : List Int) (n : Nat) (h : l.length ≤ n) : (l ++ List.replicate (n - l.length) 0).length = n := by simp; omega
theorem at_get (l : List Int) (n m : Nat) (h : m < l.length) : (l ++ List.replicate (n - l.length) 0).getD m 0 = l.getD m 0 := getD_app_l h
set_option maxRecDepth 100000 in
set_option maxHeartbeats 4000000 in
theorem rput (ts us : List Nd) (v : Int) (tv uv : Value) (w : World) (hts : Nds w tv ts) (hus : Nds w uv us) (hd : Down ts) (hu : Down us) (h0 : 0 < us.length) (h1 : 0 < ts.length) (htl : ts.length ≤ 1000) (hul : us.length ≤ 1000)
    (hna : ∀ k, k < ts.length → (nd ts k).args.length ≤ 1000) (hnu : ∀ k, k < us.length → (nd us k).args.length ≤ 1000) (him : ∀ x ∈ ts, 0 ≤ x.imm ∧ x.imm ≤ 4294967295) :
    Calls Try.prog 71 #[tv, .int .i64 v, uv] w fun e w' => ∃ x, e = .returned x ∧ Nds w' x (outP v ts us) ∧ Below w.heap.size w w' := by
  have HT := Lib.hid hts
  have HD := Lib.hid hd
  have HNA := Lib.hid hna
  have HIM := Lib.hid him
  have HC := Lib.hid (rCopy us uv w hus hul (fun x hx => by
    obtain ⟨i, hi, rfl⟩ := List.getElem_of_mem hx
    have := hnu i hi
    unfold nd at this
    rw [List.getD_eq_getElem?_getD, List.getElem?_eq_getElem hi] at this
    exact this))
  have HOK := Lib.hid (fun j hj => rp_ok v hd hu h0 j hj)
  have HNX := Lib.hid (fun j hj => rp_next v us ts j hj)
  have HSH := Lib.hid (rp_share v hd hu h0 h1)
  have HSA : Hid (∀ k, k < (rp v us ts).1.length → (nd (rp v us ts).1 k).args.length ≤ 1000) := by
    have key : ∀ (l : List Nd) (c : List Nd × List Int), (∀ x ∈ l, x.args.length ≤ 1000) → (∀ x ∈ c.1, x.args.length ≤ 1000) → ∀ x ∈ (l.foldl (rpS v us.length) c).1, x.args.length ≤ 1000 := by
      intro l
      induction l with
      | nil => intro c _ hc; exact hc
      | cons y l ih =>
        intro c hl hc
        rw [List.foldl_cons]
        refine ih _ (fun x hx => hl x (List.mem_cons_of_mem _ hx)) ?_
        unfold rpS
        split
        · exact hc
        · intro x hx
          rcases List.mem_append.1 hx with hx | hx
          · exact hc x hx
          · simp only [List.mem_singleton] at hx; subst hx
            have := hl y (List.mem_cons_self ..)
            simpa using this
    have tomem : ∀ (l : List Nd), (∀ k, k < l.length → (nd l k).args.length ≤ 1000) → ∀ x ∈ l, x.args.length ≤ 1000 := by
      intro l h x hx
      obtain ⟨i, hi, rfl⟩ := List.getElem_of_mem hx
      have := h i hi
      unfold nd at this
      rw [List.getD_eq_getElem?_getD, List.getElem?_eq_getElem hi] at this
      exact this
    intro k hk
    exact key ts (us, []) (tomem ts hna) (tomem us hnu) _ (mem_getD hk)
  obtain ⟨ta, tc, rfl, ht1, ht2⟩ := hts.shape
  obtain ⟨ua, uc, rfl, hu1, hu2⟩ := hus.shape
  obtain ⟨i0, hi0, hz0, hz1, hz2⟩ := info_parts info_int
  obtain ⟨n0, hn0, hy0, hy1, hy2⟩ := info_parts info_node
  clear hts hus hd hu hna hnu him
  go_enter Try.func71, Try.ntmps71
  go_wp2_with fail
  refine HC.out.mono ?_
  rintro e w1 ⟨ov, R, avs, rfl, ho, hb, _⟩
  have HO := Lib.hid ho
  have HB := Lib.hid hb
  have hbs := hb.size
  obtain ⟨na, nc, rfl⟩ := own_shape ho.row
  clear ho hb
  go_wp2_with (at_make; refine wpList_make_full _ rfl _ _ 25 rfl (w1.heap.size) 3 i0 (.int .i64 0) 1 Try.underlying25 hi0 hz0 hz1 .i64 .i64 _ _ ts.length rfl rfl rfl rfl ?d1 ?d2 ?d3 ?_)
  case d1 => rw [hz2]; omega
  case d2 => unfold maxLen; omega
  case d3 => exact Nat.le_refl _
  intro w2 hown hgr
  have hO : OInts .i64 w2 w1.heap.size (List.replicate ts.length 0) := OInts.made hown
  have hb2 := below_made hgr
  have HR0 : Hid (RpR w w1.heap.size ts.length (rp v us (ts.take 0)) R avs (.slice na us.length nc) w2) := {
    out := HO.out.below hb2
    at_ := by simpa [rp] using hO
    nA := fun e => by have := own_lt HO.out.row _ e; omega
    RA := fun e => by have := (HO.out.Rlt _ e).2; omega
    bel := below_hop HB.out hb2
    AB := hbs }
  clear hown hgr hO hb2
  go_wp2_with fail
  go_loopw [7, 9] (fun ov0 iv wx => ∃ (k : Nat) (nv : Value) (R : Nat → Prop) (avs : List Value), nv = ov0 ∧ iv = .int .i64 k ∧ k ≤ ts.length ∧ RpR w w1.heap.size ts.length (rp v us (ts.take k)) R avs nv wx) (fun _ iv _ => ts.length - (intOf iv).toNat)
  case atStart => exact ⟨0, _, R, avs, rfl, rfl, Nat.zero_le _, HR0.out⟩
  case round =>
    obtain ⟨k, nv, R, avs, rfl, rfl, hk, hM⟩ := hrel
    clear HR0
    obtain ⟨wo, rfl⟩ : ∃ wo : World, wo = wr := ⟨_, rfl⟩
    have hok := HOK.out k hk
    have hcl := hok.cnt
    have hlen := hok.len
    have HM := Lib.hid hM
    by_cases hlt : k < ts.length
    · have hnx := HNX.out k hlt
      have HCL := Lib.hid hcl
      have HRG := Lib.hid hok.rng
      clear hok
      obtain ⟨b, q, c', av, e', _, hbq, hav, c0, c1, c2, c3, c4⟩ := HT.out.at2 hM.bel hlt
      cases e'
      have HX : Hid (nd ts k = ts.getD k default) := rfl
      have HDA := Lib.hid (HD.out k hlt)
      have hn20 := HNA.out k hlt
      have him := HIM.out _ (mem_getD hlt)
      rw [HX.out] at hn20
      generalize ts.getD k default = x at *
      generalize rp v us (ts.take k) = cc at *
      obtain ⟨cN, cA⟩ := cc
      obtain ⟨op, width, flags, args, imm⟩ := x
      simp only at hav c0 c1 c2 c3 c4 hn20 him hcl hlen
      have HAV := Lib.hid (hav.stays hM.bel)
      obtain ⟨aa, ac, rfl, ha1, ha2⟩ := hav.shape
      have hat := hM.at_
      have hatl : (cA ++ List.replicate (ts.length - cA.length) 0).length = ts.length := at_len _ _ (by omega)
      have a1 := hat.cell (i := k) (by rw [hatl]; exact hlt)
      have a2 := hat.free (i := k) (by rw [hatl]; exact hlt)
      have hAs := hat.1
      have hbw := hM.bel.size
      have HATL := Lib.hid hatl
      have HROWA := Lib.hid (fun h0 => HAV.out.row h0)
      obtain ⟨na, nc, rfl⟩ := own_shape hM.out.row
      have HNEQ := Lib.hid hnx
      clear hav hat hatl hnx hM hcl
      generalize (cA ++ List.replicate (ts.length - cA.length) 0).getD k 0 = z0 at a1
      by_cases hc : op = 33 ∧ imm = v
      · obtain ⟨rfl, rfl⟩ := hc
        have HST : Hid (rp imm us (ts.take (k + 1)) = (cN, cA ++ [(us.length : Int) - 1])) := by
          show _ = _
          rw [HNEQ.out]; unfold rpS; rw [if_pos ⟨rfl, rfl⟩]
        have hci : IntKind.i64.wrap imm = imm := IntWalk.i64_in _ (by omega)
        clear HNEQ
        go_wp2_with fail
        go_roundw
        case rel =>
          refine ⟨k + 1, _, R, avs, rfl, by go_num, by omega, ?_⟩
          rw [HST.out]
          have hm := HM.out
          have hset : Chg (fun b => b = w1.heap.size) wo (wo.setCell ⟨w1.heap.size, k, none⟩ (.int .i64 ((us.length : Int) - 1))) := (Chg.refl (fun b => b = w1.heap.size) wo).setCell (b := w1.heap.size) rfl _
          exact {
            out := hm.out.chg hset (fun b hb e => hm.nA (e ▸ hb)) (fun b hb e => hm.RA (e ▸ hb))
            at_ := by
              have h9 := hm.at_.set (i := k) (by rw [HATL.out]; exact hlt) ((us.length : Int) - 1)
              have h10 := at_set cA ts.length ((us.length : Int) - 1) (by rw [HCL.out]; exact hlt)
              rw [show cA.length = k from HCL.out] at h10
              have h11 : (cA ++ List.replicate (ts.length - cA.length) 0).set k ((us.length : Int) - 1) = (cA ++ [(us.length : Int) - 1]) ++ List.replicate (ts.length - (cA ++ [(us.length : Int) - 1]).length) 0 := by rw [show cA.length = k from HCL.out]; exact h10
              rw [← h11]; exact h9
            nA := hm.nA
            RA := hm.RA
            bel := below_at hm.bel hm.AB _ _
            AB := hm.AB }
        case measure => simp [intOf] <;> omega
      · have hci : IntKind.i64.wrap imm = imm := IntWalk.i64_in _ (by omega)
        have HCI := Lib.hid hci
        have HST : Hid (rp v us (ts.take (k + 1)) = (cN ++ [⟨op, width, flags, args.map fun a => cA.getD a.toNat 0, imm⟩], cA ++ [(cN.length : Int)])) := by
          show _ = _
          rw [HNEQ.out]; unfold rpS; rw [if_neg hc]
        have htest : (op == 33) = false ∨ (op == 33) = true ∧ (imm == v) = false := by
          by_cases h : op = 33
          · exact .inr ⟨by simpa using h, by simpa using fun e => hc ⟨h, e⟩⟩
          · exact .inl (by simpa using h)
        have hcn : cN.length ≤ 2000 := by omega
        clear HNEQ hc hlen hci
        rcases htest with h33 | ⟨h33, hiv⟩
        · have hci := HCI.out
          go_wp2_with fail
          clear hci
          go_loopw [11, 12] (fun av0 iv wx => ∃ (j : Nat) (v' : Value), v' = av0 ∧ iv = .int .i64 j ∧ j ≤ args.length ∧ RowI wx (wo.heap.size + 1) 3 .i64 v' ((args.take j).map fun a => cA.getD a.toNat 0) ∧ Below (wo.alloc (.cells #[.int .i64 op, .int .i64 width, .int .i64 flags, .slice aa args.length ac, .int .u32 imm] 47)).heap.size (wo.alloc (.cells #[.int .i64 op, .int .i64 width, .int .i64 flags, .slice aa args.length ac, .int .u32 imm] 47)) wx) (fun _ iv _ => args.length - (intOf iv).toNat)
          case atStart => exact ⟨0, _, rfl, rfl, Nat.zero_le _, RowI.nil _ _ _ _, Below.refl _ _⟩
          case round =>
            obtain ⟨j, v', rfl, rfl, hj, hrow, hb⟩ := hrel
            have hbo : Below wo.heap.size wo wr := ((Below.refl _ _).alloc (Nat.le_refl _) _).trans (hb.mono (by simp))
            have q3 : wr.cell? ⟨wo.heap.size, 3, none⟩ = some (.slice aa args.length ac) := below_cell hb (by simp) (by simp [go_sem])
            have hbz := hb.size
            simp only [World.size_alloc] at hbz
            have HROW0 := Lib.hid hrow
            have HBB := Lib.hid hb
            by_cases hjl : j < args.length
            · obtain ⟨ab, ao, rfl, hab, hcs⟩ := HROWA.out (by omega)
              have q1 := below_cell hbo hab (hcs j hjl)
              have hak := HDA.out (args.getD j 0) (by rw [HX.out]; exact mem_getD hjl)
              have HMT := Lib.hid (map_take_succ (fun a => cA.getD a.toNat 0) args j hjl)
              have HLT := Lib.hid (show ((args.take j).map fun a => cA.getD a.toNat 0).length = j by rw [List.length_map, List.length_take, Nat.min_eq_left hj])
              clear hcs
              generalize args.getD j 0 = y at *
              obtain ⟨m, rfl⟩ := Int.eq_ofNat_of_zero_le hak.1
              have hmk : m < k := by omega
              have hml : m < cA.length := by have e9 : cA.length = k := HCL.out; omega
              have q2 := below_cell hbo hAs (HM.out.at_.cell (i := m) (by rw [HATL.out]; omega))
              rw [at_get cA ts.length m hml] at q2
              rw [Int.toNat_natCast] at HMT
              obtain ⟨va, vc, rfl⟩ := hrow.shape
              rw [HLT.out] at hrow
              have HROW : Hid (wr.ownsRow (wo.heap.size + 1) 3 1 (.slice va j vc) j (((args.take j).map fun a => cA.getD a.toNat 0).map (Value.int .i64))) := by
                unfold RowI at hrow
                rw [HLT.out] at hrow
                exact hrow
              have hm1 : m < ts.length := by omega
              have hm2 : (m : Int) < ts.length := by omega
              rw [HLT.out]
              clear hml hrow hb hbo HROW0
              generalize cA.getD m 0 = z at *
              generalize ((args.take j).map fun a => cA.getD a.toNat 0) = gl at *
              go_wp2_with (at_builtin; go_must (refine wpList_append_own_at _ rfl _ _ 25 rfl (wo.heap.size + 1) 3 i0 (.int .i64 0) 1 8 Try.underlying25 hi0 hz0 hz1 hz2 rfl (by decide) _ _ _ rfl (HROW.out.alloc _) ⟨wr.heap.size, 0, none⟩ 1 1 [.int .i64 z] rfl rfl ?f1a ?f2a ?f3a ?f4a ?f5a ?_))
              try case f1a =>
                intro i u h
                rcases i with _ | i
                · cases h; simp [go_sem, Addr.add]
                · cases h
              try case f2a => simp [Value.oneCell']
              try case f3a => unfold maxLen; omega
              try case f4a => omega
              try case f5a => first | omega | (simp; done) | (simp; omega)
              intro v2 w5 hown5 hgrow5 _ hat5
              have HB5 := Lib.hid ((HBB.out.alloc HBB.out.size _).grown hgrow5 (by first | omega | (simp; done) | (simp; omega)) (fun b hb => by have := own_ge HROW.out b hb; simp; omega))
              have HOW5 := Lib.hid hown5
              clear hown5 hgrow5 hat5
              go_wp2_with fail
              go_roundw
              case rel => exact ⟨j + 1, v2, rfl, by go_num, by omega, by rw [HMT.out]; exact RowI.app1 HOW5.out HLT.out rfl, HB5.out⟩
              case measure => simp [intOf] <;> omega
            · obtain rfl : j = args.length := by omega
              rw [List.take_length] at hrow
              have HAR : Hid ((args.map fun a => cA.getD a.toNat 0).length ≤ 1000) := by show _ ≤ _; rw [List.length_map]; exact hn20
              generalize (args.map fun a => cA.getD a.toNat 0) = yl at *
              obtain ⟨va, vc, rfl⟩ := hrow.shape
              have hyl : yl.length ≤ 1000 := HAR.out
              have x0 : wr.cell? ⟨wo.heap.size, 0, none⟩ = some (.int .i64 op) := below_cell hb (by simp) (by simp [go_sem])
              have x1 : wr.cell? ⟨wo.heap.size, 1, none⟩ = some (.int .i64 width) := below_cell hb (by simp) (by simp [go_sem])
              have x2 : wr.cell? ⟨wo.heap.size, 2, none⟩ = some (.int .i64 flags) := below_cell hb (by simp) (by simp [go_sem])
              have x4 : wr.cell? ⟨wo.heap.size, 4, none⟩ = some (.int .u32 imm) := below_cell hb (by simp) (by simp [go_sem])
              have x3f : wr.frozen? ⟨wo.heap.size, 3, none⟩ = false := by rw [hb.frozen (p := ⟨wo.heap.size, 3, none⟩) (by simp)]; simp [go_sem]
              have a1r := below_cell hbo hAs a1
              have a2r : wr.frozen? ⟨w1.heap.size, k, none⟩ = false := by rw [hbo.frozen (p := ⟨w1.heap.size, k, none⟩) hAs]; exact a2
              have hs1 : Chg (fun b => b = wo.heap.size) wr (wr.setCell ⟨wo.heap.size, 3, none⟩ (.slice va yl.length vc)) := (Chg.refl (fun b => b = wo.heap.size) wr).setCell (b := wo.heap.size) rfl _
              have hs2 : Chg (fun b => b = w1.heap.size) (wr.setCell ⟨wo.heap.size, 3, none⟩ (.slice va yl.length vc)) ((wr.setCell ⟨wo.heap.size, 3, none⟩ (.slice va yl.length vc)).setCell ⟨w1.heap.size, k, none⟩ (.int .i64 (cN.length : Int))) := (Chg.refl (fun b => b = w1.heap.size) _).setCell (b := w1.heap.size) rfl _
              have h12 : Chg (fun b => b = w1.heap.size) wo ((wr.setCell ⟨wo.heap.size, 3, none⟩ (.slice va yl.length vc)).setCell ⟨w1.heap.size, k, none⟩ (.int .i64 (cN.length : Int))) := ((Chg.of_below hbo).trans hs1 (fun k hk e => by omega)).trans hs2 (fun _ _ h => h)
              have ho2 := HM.out.out.chg h12 (fun b hb e => HM.out.nA (e ▸ hb)) (fun b hb e => HM.out.RA (e ▸ hb))
              have HO2 := Lib.hid ho2
              have HROW : Hid (((wr.setCell ⟨wo.heap.size, 3, none⟩ (.slice va yl.length vc)).setCell ⟨w1.heap.size, k, none⟩ (.int .i64 (cN.length : Int))).ownsRow w.heap.size 47 5 (.slice na cN.length nc) cN.length (rowsC cN avs)) := ho2.row
              have hrw1 : RowI (wr.setCell ⟨wo.heap.size, 3, none⟩ (.slice va yl.length vc)) (wo.heap.size + 1) 3 .i64 (.slice va yl.length vc) yl := hrow.chg hs1 (fun b hb e => by have := own_ge hrow b hb; omega)
              have HRW2 := Lib.hid (hrw1.chg hs2 (fun b hb e => by have := own_ge hrow b hb; omega))
              have HRWG : Hid (∀ b, (Value.slice va yl.length vc).ownBlock = some b → wo.heap.size + 1 ≤ b) := own_ge hrow
              have HAT1 := Lib.hid ((HM.out.at_.chg (Chg.of_below (T := fun _ => False) hbo) (fun h => h)).chg hs1 (by omega))
              have H12 := Lib.hid h12
              have hne : ¬ wo.heap.size = w1.heap.size := by omega
              clear hrow hb hbo hs1 hs2 h12 ho2 hrw1 HROW0 a1 a2
              go_wp2_with (at_builtin; go_must (refine wpList_append_own_at _ rfl _ _ 22 rfl w.heap.size 47 n0 _ 5 56 Try.underlying22 hn0 hy0 hy1 hy2 rfl (by decide) _ _ _ rfl (HROW.out.alloc _) ⟨_, 0, none⟩ 1 1 [.int .i64 op, .int .i64 width, .int .i64 flags, .slice va yl.length vc, .int .u32 imm] rfl rfl ?g1a ?g2a ?g3a ?g4a ?g5a ?_))
              try case g1a =>
                intro i u h
                rcases i with _ | _ | _ | _ | _ | i <;> first | (cases h; simp [go_sem, Addr.add]) | cases h
              try case g2a => simp [Value.oneCell']
              try case g3a => unfold maxLen; omega
              try case g4a => omega
              try case g5a => first | omega | (simp; done) | (simp; omega)
              intro v7 w7 hown7 hgrow7 _ hat7
              have HOW7 := Lib.hid hown7
              have HGR7 := Lib.hid hgrow7
              have HAT7 := Lib.hid hat7
              clear hown7 hgrow7 hat7
              go_wp2_with fail
              go_roundw
              case rel =>
                have hm := HM.out
                have hz6 : ((wr.setCell ⟨wo.heap.size, 3, none⟩ (.slice va yl.length vc)).setCell ⟨w1.heap.size, k, none⟩ (.int .i64 (cN.length : Int))).heap.size = wr.heap.size := by simp [World.setCell]
                have hgr : Chg (fun b => (Value.slice na cN.length nc).ownBlock = some b) ((wr.setCell ⟨wo.heap.size, 3, none⟩ (.slice va yl.length vc)).setCell ⟨w1.heap.size, k, none⟩ (.int .i64 (cN.length : Int))) w7 := (Chg.of_below ((Below.refl _ _).alloc (Nat.le_refl _) _)).trans (Chg.of_grown HGR7.out (fun k hk => hk)) (fun _ _ h => h)
                have hno := own_lt hm.out.row
                have hv7 : (v7.ownBlock = (Value.slice na cN.length nc).ownBlock ∨ ∃ g, v7.ownBlock = some g ∧ wr.heap.size ≤ g) := HAT7.out.elim .inl fun h => .inr ⟨_, h, by first | omega | (simp; done) | (simp; omega)⟩
                have h9 : RpR w w1.heap.size ts.length (cN ++ [⟨op, width, flags, yl, imm⟩], cA ++ [(cN.length : Int)]) (fun b => R b ∨ (Value.slice va yl.length vc).ownBlock = some b) (avs ++ [.slice va yl.length vc]) v7 w7 := {
                  out := OSt.add HO2.out (HRW2.out.intsF (by omega)) (fun b hb => ⟨fun e => by have := hno b e; have := HRWG.out b hb; omega, by have := HRWG.out b hb; omega, own_lt HRW2.out b hb⟩) hgr HOW7.out (by rw [hz6]; exact hv7)
                  at_ := by
                    have g9 := HAT1.out.set (i := k) (by rw [HATL.out]; exact hlt) (cN.length : Int)
                    have g10 := at_set cA ts.length (cN.length : Int) (by rw [show cA.length = k from HCL.out]; exact hlt)
                    have g11 : (cA ++ List.replicate (ts.length - cA.length) 0).set k (cN.length : Int) = (cA ++ [(cN.length : Int)]) ++ List.replicate (ts.length - (cA ++ [(cN.length : Int)]).length) 0 := by
                      have e : cA.length = k := HCL.out
                      rw [e] at g10 ⊢; exact g10
                    rw [← g11]
                    exact g9.chg hgr hm.nA
                  nA := fun e => by
                    rcases hv7 with h | ⟨g, h, h2⟩
                    · exact hm.nA (by rw [← h]; exact e)
                    · rw [h] at e; cases e; omega
                  RA := fun e => by
                    rcases e with e | e
                    · exact hm.RA e
                    · have := HRWG.out _ e; omega
                  bel := hm.bel.trans ((H12.out.mono (T := fun b => b = w1.heap.size ∨ (Value.slice na cN.length nc).ownBlock = some b) (fun _ _ h => .inl h)).trans hgr (fun _ _ h => .inr h) |>.below hbw (fun b hb => by
                    rcases hb with hb | hb
                    · have := hm.AB; omega
                    · exact own_ge hm.out.row b hb))
                  AB := hm.AB }
                rw [← HST.out] at h9
                exact ⟨k + 1, v7, _, _, rfl, by go_num, by omega, h9⟩
              case measure => simp [intOf] <;> omega
        · have hci := HCI.out
          go_wp2_with fail
          clear hci
          go_loopw [11, 12] (fun av0 iv wx => ∃ (j : Nat) (v' : Value), v' = av0 ∧ iv = .int .i64 j ∧ j ≤ args.length ∧ RowI wx (wo.heap.size + 1) 3 .i64 v' ((args.take j).map fun a => cA.getD a.toNat 0) ∧ Below (wo.alloc (.cells #[.int .i64 op, .int .i64 width, .int .i64 flags, .slice aa args.length ac, .int .u32 imm] 47)).heap.size (wo.alloc (.cells #[.int .i64 op, .int .i64 width, .int .i64 flags, .slice aa args.length ac, .int .u32 imm] 47)) wx) (fun _ iv _ => args.length - (intOf iv).toNat)
          case atStart => exact ⟨0, _, rfl, rfl, Nat.zero_le _, RowI.nil _ _ _ _, Below.refl _ _⟩
          case round =>
            obtain ⟨j, v', rfl, rfl, hj, hrow, hb⟩ := hrel
            have hbo : Below wo.heap.size wo wr := ((Below.refl _ _).alloc (Nat.le_refl _) _).trans (hb.mono (by simp))
            have q3 : wr.cell? ⟨wo.heap.size, 3, none⟩ = some (.slice aa args.length ac) := below_cell hb (by simp) (by simp [go_sem])
            have hbz := hb.size
            simp only [World.size_alloc] at hbz
            have HROW0 := Lib.hid hrow
            have HBB := Lib.hid hb
            by_cases hjl : j < args.length
            · obtain ⟨ab, ao, rfl, hab, hcs⟩ := HROWA.out (by omega)
              have q1 := below_cell hbo hab (hcs j hjl)
              have hak := HDA.out (args.getD j 0) (by rw [HX.out]; exact mem_getD hjl)
              have HMT := Lib.hid (map_take_succ (fun a => cA.getD a.toNat 0) args j hjl)
              have HLT := Lib.hid (show ((args.take j).map fun a => cA.getD a.toNat 0).length = j by rw [List.length_map, List.length_take, Nat.min_eq_left hj])
              clear hcs
              generalize args.getD j 0 = y at *
              obtain ⟨m, rfl⟩ := Int.eq_ofNat_of_zero_le hak.1
              have hmk : m < k := by omega
              have hml : m < cA.length := by have e9 : cA.length = k := HCL.out; omega
              have q2 := below_cell hbo hAs (HM.out.at_.cell (i := m) (by rw [HATL.out]; omega))
              rw [at_get cA ts.length m hml] at q2
              rw [Int.toNat_natCast] at HMT
              obtain ⟨va, vc, rfl⟩ := hrow.shape
              rw [HLT.out] at hrow
              have HROW : Hid (wr.ownsRow (wo.heap.size + 1) 3 1 (.slice va j vc) j (((args.take j).map fun a => cA.getD a.toNat 0).map (Value.int .i64))) := by
                unfold RowI at hrow
                rw [HLT.out] at hrow
                exact hrow
              have hm1 : m < ts.length := by omega
              have hm2 : (m : Int) < ts.length := by omega
              rw [HLT.out]
              clear hml hrow hb hbo HROW0
              generalize cA.getD m 0 = z at *
              generalize ((args.take j).map fun a => cA.getD a.toNat 0) = gl at *
              go_wp2_with (at_builtin; go_must (refine wpList_append_own_at _ rfl _ _ 25 rfl (wo.heap.size + 1) 3 i0 (.int .i64 0) 1 8 Try.underlying25 hi0 hz0 hz1 hz2 rfl (by decide) _ _ _ rfl (HROW.out.alloc _) ⟨wr.heap.size, 0, none⟩ 1 1 [.int .i64 z] rfl rfl ?f1b ?f2b ?f3b ?f4b ?f5b ?_))
              try case f1b =>
                intro i u h
                rcases i with _ | i
                · cases h; simp [go_sem, Addr.add]
                · cases h
              try case f2b => simp [Value.oneCell']
              try case f3b => unfold maxLen; omega
              try case f4b => omega
              try case f5b => first | omega | (simp; done) | (simp; omega)
              intro v2 w5 hown5 hgrow5 _ hat5
              have HB5 := Lib.hid ((HBB.out.alloc HBB.out.size _).grown hgrow5 (by first | omega | (simp; done) | (simp; omega)) (fun b hb => by have := own_ge HROW.out b hb; simp; omega))
              have HOW5 := Lib.hid hown5
              clear hown5 hgrow5 hat5
              go_wp2_with fail
              go_roundw
              case rel => exact ⟨j + 1, v2, rfl, by go_num, by omega, by rw [HMT.out]; exact RowI.app1 HOW5.out HLT.out rfl, HB5.out⟩
              case measure => simp [intOf] <;> omega
            · obtain rfl : j = args.length := by omega
              rw [List.take_length] at hrow
              have HAR : Hid ((args.map fun a => cA.getD a.toNat 0).length ≤ 1000) := by show _ ≤ _; rw [List.length_map]; exact hn20
              generalize (args.map fun a => cA.getD a.toNat 0) = yl at *
              obtain ⟨va, vc, rfl⟩ := hrow.shape
              have hyl : yl.length ≤ 1000 := HAR.out
              have x0 : wr.cell? ⟨wo.heap.size, 0, none⟩ = some (.int .i64 op) := below_cell hb (by simp) (by simp [go_sem])
              have x1 : wr.cell? ⟨wo.heap.size, 1, none⟩ = some (.int .i64 width) := below_cell hb (by simp) (by simp [go_sem])
              have x2 : wr.cell? ⟨wo.heap.size, 2, none⟩ = some (.int .i64 flags) := below_cell hb (by simp) (by simp [go_sem])
              have x4 : wr.cell? ⟨wo.heap.size, 4, none⟩ = some (.int .u32 imm) := below_cell hb (by simp) (by simp [go_sem])
              have x3f : wr.frozen? ⟨wo.heap.size, 3, none⟩ = false := by rw [hb.frozen (p := ⟨wo.heap.size, 3, none⟩) (by simp)]; simp [go_sem]
              have a1r := below_cell hbo hAs a1
              have a2r : wr.frozen? ⟨w1.heap.size, k, none⟩ = false := by rw [hbo.frozen (p := ⟨w1.heap.size, k, none⟩) hAs]; exact a2
              have hs1 : Chg (fun b => b = wo.heap.size) wr (wr.setCell ⟨wo.heap.size, 3, none⟩ (.slice va yl.length vc)) := (Chg.refl (fun b => b = wo.heap.size) wr).setCell (b := wo.heap.size) rfl _
              have hs2 : Chg (fun b => b = w1.heap.size) (wr.setCell ⟨wo.heap.size, 3, none⟩ (.slice va yl.length vc)) ((wr.setCell ⟨wo.heap.size, 3, none⟩ (.slice va yl.length vc)).setCell ⟨w1.heap.size, k, none⟩ (.int .i64 (cN.length : Int))) := (Chg.refl (fun b => b = w1.heap.size) _).setCell (b := w1.heap.size) rfl _
              have h12 : Chg (fun b => b = w1.heap.size) wo ((wr.setCell ⟨wo.heap.size, 3, none⟩ (.slice va yl.length vc)).setCell ⟨w1.heap.size, k, none⟩ (.int .i64 (cN.length : Int))) := ((Chg.of_below hbo).trans hs1 (fun k hk e => by omega)).trans hs2 (fun _ _ h => h)
              have ho2 := HM.out.out.chg h12 (fun b hb e => HM.out.nA (e ▸ hb)) (fun b hb e => HM.out.RA (e ▸ hb))
              have HO2 := Lib.hid ho2
              have HROW : Hid (((wr.setCell ⟨wo.heap.size, 3, none⟩ (.slice va yl.length vc)).setCell ⟨w1.heap.size, k, none⟩ (.int .i64 (cN.length : Int))).ownsRow w.heap.size 47 5 (.slice na cN.length nc) cN.length (rowsC cN avs)) := ho2.row
              have hrw1 : RowI (wr.setCell ⟨wo.heap.size, 3, none⟩ (.slice va yl.length vc)) (wo.heap.size + 1) 3 .i64 (.slice va yl.length vc) yl := hrow.chg hs1 (fun b hb e => by have := own_ge hrow b hb; omega)
              have HRW2 := Lib.hid (hrw1.chg hs2 (fun b hb e => by have := own_ge hrow b hb; omega))
              have HRWG : Hid (∀ b, (Value.slice va yl.length vc).ownBlock = some b → wo.heap.size + 1 ≤ b) := own_ge hrow
              have HAT1 := Lib.hid ((HM.out.at_.chg (Chg.of_below (T := fun _ => False) hbo) (fun h => h)).chg hs1 (by omega))
              have H12 := Lib.hid h12
              have hne : ¬ wo.heap.size = w1.heap.size := by omega
              clear hrow hb hbo hs1 hs2 h12 ho2 hrw1 HROW0 a1 a2
              go_wp2_with (at_builtin; go_must (refine wpList_append_own_at _ rfl _ _ 22 rfl w.heap.size 47 n0 _ 5 56 Try.underlying22 hn0 hy0 hy1 hy2 rfl (by decide) _ _ _ rfl (HROW.out.alloc _) ⟨_, 0, none⟩ 1 1 [.int .i64 op, .int .i64 width, .int .i64 flags, .slice va yl.length vc, .int .u32 imm] rfl rfl ?g1b ?g2b ?g3b ?g4b ?g5b ?_))
              try case g1b =>
                intro i u h
                rcases i with _ | _ | _ | _ | _ | i <;> first | (cases h; simp [go_sem, Addr.add]) | cases h
              try case g2b => simp [Value.oneCell']
              try case g3b => unfold maxLen; omega
              try case g4b => omega
              try case g5b => first | omega | (simp; done) | (simp; omega)
              intro v7 w7 hown7 hgrow7 _ hat7
              have HOW7 := Lib.hid hown7
              have HGR7 := Lib.hid hgrow7
              have HAT7 := Lib.hid hat7
              clear hown7 hgrow7 hat7
              go_wp2_with fail
              go_roundw
              case rel =>
                have hm := HM.out
                have hz6 : ((wr.setCell ⟨wo.heap.size, 3, none⟩ (.slice va yl.length vc)).setCell ⟨w1.heap.size, k, none⟩ (.int .i64 (cN.length : Int))).heap.size = wr.heap.size := by simp [World.setCell]
                have hgr : Chg (fun b => (Value.slice na cN.length nc).ownBlock = some b) ((wr.setCell ⟨wo.heap.size, 3, none⟩ (.slice va yl.length vc)).setCell ⟨w1.heap.size, k, none⟩ (.int .i64 (cN.length : Int))) w7 := (Chg.of_below ((Below.refl _ _).alloc (Nat.le_refl _) _)).trans (Chg.of_grown HGR7.out (fun k hk => hk)) (fun _ _ h => h)
                have hno := own_lt hm.out.row
                have hv7 : (v7.ownBlock = (Value.slice na cN.length nc).ownBlock ∨ ∃ g, v7.ownBlock = some g ∧ wr.heap.size ≤ g) := HAT7.out.elim .inl fun h => .inr ⟨_, h, by first | omega | (simp; done) | (simp; omega)⟩
                have h9 : RpR w w1.heap.size ts.length (cN ++ [⟨op, width, flags, yl, imm⟩], cA ++ [(cN.length : Int)]) (fun b => R b ∨ (Value.slice va yl.length vc).ownBlock = some b) (avs ++ [.slice va yl.length vc]) v7 w7 := {
                  out := OSt.add HO2.out (HRW2.out.intsF (by omega)) (fun b hb => ⟨fun e => by have := hno b e; have := HRWG.out b hb; omega, by have := HRWG.out b hb; omega, own_lt HRW2.out b hb⟩) hgr HOW7.out (by rw [hz6]; exact hv7)
                  at_ := by
                    have g9 := HAT1.out.set (i := k) (by rw [HATL.out]; exact hlt) (cN.length : Int)
                    have g10 := at_set cA ts.length (cN.length : Int) (by rw [show cA.length = k from HCL.out]; exact hlt)
                    have g11 : (cA ++ List.replicate (ts.length - cA.length) 0).set k (cN.length : Int) = (cA ++ [(cN.length : Int)]) ++ List.replicate (ts.length - (cA ++ [(cN.length : Int)]).length) 0 := by
                      have e : cA.length = k := HCL.out
                      rw [e] at g10 ⊢; exact g10
                    rw [← g11]
                    exact g9.chg hgr hm.nA
                  nA := fun e => by
                    rcases hv7 with h | ⟨g, h, h2⟩
                    · exact hm.nA (by rw [← h]; exact e)
                    · rw [h] at e; cases e; omega
                  RA := fun e => by
                    rcases e with e | e
                    · exact hm.RA e
                    · have := HRWG.out _ e; omega
                  bel := hm.bel.trans ((H12.out.mono (T := fun b => b = w1.heap.size ∨ (Value.slice na cN.length nc).ownBlock = some b) (fun _ _ h => .inl h)).trans hgr (fun _ _ h => .inr h) |>.below hbw (fun b hb => by
                    rcases hb with hb | hb
                    · have := hm.AB; omega
                    · exact own_ge hm.out.row b hb))
                  AB := hm.AB }
                rw [← HST.out] at h9
                exact ⟨k + 1, v7, _, _, rfl, by go_num, by omega, h9⟩
              case measure => simp [intOf] <;> omega
    · obtain rfl : k = ts.length := by omega
      rw [List.take_length] at hM hcl hlen
      obtain ⟨s1, s2, s3, s4, s5, s6⟩ := HSH.out
      have HNDS := Lib.hid (hM.out.nds (by omega))
      have S1 := Lib.hid s1
      have S4 := Lib.hid s4
      have hat := hM.at_
      rw [s6, Nat.sub_self] at hat
      have hat2 : OInts .i64 wo w1.heap.size (rp v us ts).2 := by simpa using hat
      have a1 := hat2.cell (i := ts.length - 1) (by rw [s6]; omega)
      obtain ⟨k2, hk2⟩ : ∃ k2 : Nat, (rp v us ts).2.getD (ts.length - 1) 0 = (k2 : Int) := Int.eq_ofNat_of_zero_le s2
      rw [hk2] at a1
      rw [hk2, Int.toNat_natCast] at s3
      rw [hk2, Int.toNat_natCast] at S4
      have HBW := Lib.hid hM.bel
      obtain ⟨na, nc, hnv⟩ := own_shape hM.out.row
      subst hnv
      have HSC := Lib.hid (rShared (rp v us ts).1 _ wo k2 HNDS.out S1.out s3 (by omega) HSA.out)
      rw [S4.out] at HSC
      clear s1 s2 s4 s6 hat hat2 hM HM hok hk2 S4
      go_wp2_with fail
      refine HSC.out.mono ?_
      rintro e w9 ⟨sv, rfl, hs, hb9⟩
      have HS9 := Lib.hid hs
      have HB9 := Lib.hid hb9
      clear hs hb9
      go_wp2_with fail
      go_ret
      exact ⟨sv, rfl, HS9.out, below_hop HBW.out HB9.out⟩
end Go.Proofs.Ythopdfikikdcbaa
