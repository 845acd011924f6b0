/- Walk of Same of the document at two equal machines. -/
import Derived.Laws.StructEq
import Derived.ChangeKeysEq
import Derived.Test.YtdojafpjipcbjaaRows
import Derived.WalkKit
import Derived.ProofKit
import Derived.OpenShut
import Derived.Below
import Derived.ChangeSame
import Derived.Lib.SmallJoins
import Derived.Test.YtdojafpjipcbjaaF8
import Derived.Test.YtdojafpjipcbjaaF19
import Derived.Test.YtdojafpjipcbjaaF25
namespace Go.Proofs.Ytdojafpjipcbjaa
open Go.RowKit
set_option linter.unusedVariables false
set_option linter.unusedSimpArgs false
theorem CellsAt.regs {w : World} {b : Nat} {c : Mac} {mv : Value} (h : CellsAt w b (macC c mv)) : w.rangeAt b 0 (c.r.map (Value.int .u32)) := fun j v hj => by
  rw [Nat.zero_add]
  refine (h j v ?_).1
  unfold macC
  rw [List.getElem?_append_left ((List.getElem?_eq_some_iff.1 hj).1)]
  exact hj
theorem eqItems_same {P : Program} (w : World) (d : Nat) {e : TypeId} {k : IntKind} (hp : P.plainKey e = true) (hu : P.underlying e = some (.int k)) (hc : P.cellsOf e = 1) (l : List Int) : ∀ is : List Nat, (∀ i ∈ is, i < l.length) → (Op.eqItems (d + 1) e (P.cellsOf e) (l.map (Value.int k)).toArray (l.map (Value.int k)).toArray is).run P w = .ok true w
  | [], _ => by simp [Op.eqItems]
  | i :: is, h => by
    have hi := h i (List.mem_cons_self ..)
    have hx : (l.map (Value.int k)).toArray[i * P.cellsOf e]? = some (.int k l[i]) := by rw [hc]; simp [hi]
    simp only [Op.eqItems, Sem.run_bind, run_part_plain w hp hx, Result.andThen_ok, run_equalIn_int w d e k k _ _ hu]
    simpa using eqItems_same w d hp hu hc l is fun j hj => h j (List.mem_cons_of_mem _ hj)
theorem neq_same {P : Program} (w : World) {t e : TypeId} {n : Nat} {i : TypeInfo} {k : IntKind} (ht : P.underlying t = some (.array n e)) (hi : P.info? e = some i) (hp : P.plainKey e = true) (hu : P.underlying e = some (.int k)) (hc : P.cellsOf e = 1) (l : List Int) (hl : l.length = n) :
    (binOp .neq t (.agg (l.map (Value.int k)).toArray) (.agg (l.map (Value.int k)).toArray)).run P w = .ok (.bool false) w := by
  rw [run_neq_struct, run_equalIn_array w 9999 _ _ ht hi, eqItems_same w 9998 hp hu hc l _ (fun j hj => by rw [hl]; exact List.mem_range.1 hj)]
  rfl
set_option maxRecDepth 100000 in
set_option maxHeartbeats 1000000 in
theorem same_eq (c : Mac) (mv mv2 : Value) (w : World) (hr : c.r.length = 32) (hm : Ints .u8 w mv c.m) (hm2 : Ints .u8 w mv2 c.m) : Calls Try.prog 24 #[.agg (macC c mv).toArray, .agg (macC c mv2).toArray] w fun e w' => e = .returned (.bool true) ∧ Below w.heap.size w w' := by
  obtain ⟨k0, k1, hb1, hs1⟩ := two_new w (macC c mv) (macC c mv2) 47 (by rw [macC_len hr]; decide)
  obtain ⟨W1, hW1⟩ : ∃ W, (w.alloc (.cells (macC c mv).toArray 47)).alloc (.cells (macC c mv2).toArray 47) = W := ⟨_, rfl⟩
  rw [hW1] at k0 k1 hb1 hs1
  have r0 := k0.regs
  have r1 := k1.regs
  obtain ⟨i, hi⟩ : ∃ i, Try.prog.info? 44 = some i := ⟨_, rfl⟩
  have hneq := fun w' => neq_same (P := Try.prog) w' (t := 45) (e := 44) Try.underlying45 hi (by kernel_rfl) Try.underlying44 (by kernel_rfl) c.r hr
  have hgd : Try.prog.eqGuardType Try.prog.depth 45 = false := by kernel_rfl
  have hsz : (Try.prog.info? 45).map (·.size) = some (c.r.map (Value.int .u32)).length := by rw [List.length_map, hr]; kernel_rfl
  obtain ⟨⟨x1, -⟩, ⟨x2, -⟩, ⟨x3, -⟩, ⟨x4, -⟩⟩ := k0.tails hr
  obtain ⟨⟨y1, -⟩, ⟨y2, -⟩, ⟨y3, -⟩, ⟨y4, -⟩⟩ := k1.tails hr
  have HV := Lib.hid (hm.stays hb1)
  have HU := Lib.hid (hm2.stays hb1)
  have HB := Lib.hid hb1
  obtain ⟨va, vc, rfl, hl1, hl2⟩ := hm.shape
  obtain ⟨va2, vc2, rfl, hl3, hl4⟩ := hm2.shape
  have HLEN := Lib.hid hl1
  have hlt : w.heap.size + 1 < W1.heap.size := by omega
  clear k0 k1 hb1 hs1 hm hm2 hi
  generalize hcs : macC c (.slice va c.m.length vc) = cs at *
  generalize hds : macC c (.slice va2 c.m.length vc2) = ds at *
  generalize c.r.map (Value.int .u32) = rs at *
  clear hcs hds
  go_enter Try.func24, Try.ntmps24
  go_upto_region 4 with (first | (refine wpList_load_mid rfl _ _ rfl w.heap.size 0 rfl rs _ r0 Try.underlying45 rfl hsz ?_) | (refine wpList_load_mid rfl _ _ rfl (w.heap.size + 1) 0 rfl rs _ r1 Try.underlying45 rfl hsz ?_))
  clear hW1 r0 r1 hneq hgd hsz
  go_loopw [5] (fun i wr => ∃ j : Nat, j ≤ c.m.length ∧ i = .int .i64 j ∧ Below W1.heap.size W1 wr) (fun i _ => c.m.length - (intOf i).toNat)
  case atStart => exact ⟨0, Nat.zero_le _, rfl, Below.refl _ _⟩
  case round =>
    obtain ⟨j, hj, rfl, hb⟩ := hrel
    have HBJ := Lib.hid hb
    have z3 := (hb.cell (p := ⟨w.heap.size, 34, none⟩) (by show w.heap.size < _; omega)).trans x3
    have z4 := (hb.cell (p := ⟨w.heap.size + 1, 34, none⟩) hlt).trans y3
    have hwr : w.heap.size + 1 < wr.heap.size := Nat.lt_of_lt_of_le hlt hb.size
    by_cases hlt2 : j < c.m.length
    · obtain ⟨b, q, c2, e', hc2, hbl, hcl⟩ := ((HV.out.stays hb).at (j := j) hlt2)
      cases e'
      obtain ⟨b', q', c2', e', hc2', hbl', hcl'⟩ := ((HU.out.stays hb).at (j := j) hlt2)
      cases e'
      have i0 : (0 : Int) ≤ (j : Int) := by omega
      have i1 : (j : Int) < c.m.length := by omega
      have hwr0 : w.heap.size < wr.heap.size := by omega
      generalize c.m.getD j 0 = x at *
      clear hb hlt2 HV HU
      go_wp2_with fail
      go_quiet (fail)
      go_wp2_with fail
      go_roundw
      case rel => exact ⟨j + 1, by omega, by go_num, below_drewN HBJ.out _⟩
      case measure => simp [intOf]; omega
    · obtain rfl : j = c.m.length := by omega
      go_wp2_with fail
      go_ret
      exact ⟨rfl, HB.out.trans (HBJ.out.mono (by omega))⟩
end Go.Proofs.Ytdojafpjipcbjaa
namespace Go.Proofs.Ytdojafpjipcbjaa
open Go.RowKit
set_option linter.unusedVariables false
set_option linter.unusedSimpArgs false
set_option maxRecDepth 100000 in
theorem reads_bad (o d s z i : Int) (w : World) (hok : okI ⟨o, d, s, z, i⟩ = false) : Calls Try.prog 20 #[.agg #[.int .i64 o, .int .i64 d, .int .i64 s, .int .i64 z, .int .i64 i]] w fun e w' => e = .returned (.tuple #[.int .i64 0, .int .i64 1]) ∧ Below w.heap.size w w' := by
  have C0 : Hid (∀ w, Calls Try.prog 14 #[.agg #[.int .i64 o, .int .i64 d, .int .i64 s, .int .i64 z, .int .i64 i]] w fun e w' => e = .returned (.int .i64 1) ∧ Below w.heap.size w w') := fun w => by have h := validate_any ⟨o, d, s, z, i⟩ w; rw [show vaI ⟨o, d, s, z, i⟩ = 1 by unfold vaI; rw [hok]; rfl] at h; exact h
  clear hok
  go_enter Try.func20, Try.ntmps20
  go_wp2_with ((go_at_call 14; with_reducible refine (C0.out _).mono ?_); rintro e w1 ⟨rfl, hb⟩; have HB := Lib.hid hb; have x0 : w1.cell? ⟨w.heap.size, 0, none⟩ = some (.int .i64 (o)) := box_kept hb 0; have x1 : w1.cell? ⟨w.heap.size, 1, none⟩ = some (.int .i64 d) := box_kept hb 1; have x2 : w1.cell? ⟨w.heap.size, 2, none⟩ = some (.int .i64 s) := box_kept hb 2; have x3 : w1.cell? ⟨w.heap.size, 3, none⟩ = some (.int .i64 z) := box_kept hb 3; have x4 : w1.cell? ⟨w.heap.size, 4, none⟩ = some (.int .i64 i) := box_kept hb 4; clear hb)
  go_ret2
  exact ⟨rfl, below_box HB.out⟩
set_option maxRecDepth 100000 in
theorem reads_none (o d s z i : Int) (w : World) (hok : okI ⟨o, d, s, z, i⟩ = true) (h29 : (o == 29) = false) (h31 : (o == 31) = false) (h32 : (o == 32) = false) : Calls Try.prog 20 #[.agg #[.int .i64 o, .int .i64 d, .int .i64 s, .int .i64 z, .int .i64 i]] w fun e w' => e = .returned (.tuple #[.int .i64 0, .int .i64 0]) ∧ Below w.heap.size w w' := by
  have C0 : Hid (∀ w, Calls Try.prog 14 #[.agg #[.int .i64 o, .int .i64 d, .int .i64 s, .int .i64 z, .int .i64 i]] w fun e w' => e = .returned (.int .i64 0) ∧ Below w.heap.size w w') := fun w => by have h := validate_any ⟨o, d, s, z, i⟩ w; rw [show vaI ⟨o, d, s, z, i⟩ = 0 by unfold vaI; rw [hok]; rfl] at h; exact h
  clear hok
  go_enter Try.func20, Try.ntmps20
  go_wp2_with ((go_at_call 14; with_reducible refine (C0.out _).mono ?_); rintro e w1 ⟨rfl, hb⟩; have HB := Lib.hid hb; have x0 : w1.cell? ⟨w.heap.size, 0, none⟩ = some (.int .i64 (o)) := box_kept hb 0; have x1 : w1.cell? ⟨w.heap.size, 1, none⟩ = some (.int .i64 d) := box_kept hb 1; have x2 : w1.cell? ⟨w.heap.size, 2, none⟩ = some (.int .i64 s) := box_kept hb 2; have x3 : w1.cell? ⟨w.heap.size, 3, none⟩ = some (.int .i64 z) := box_kept hb 3; have x4 : w1.cell? ⟨w.heap.size, 4, none⟩ = some (.int .i64 i) := box_kept hb 4; clear hb)
  go_ret2
  exact ⟨rfl, below_box HB.out⟩
theorem tab_reads {c : Int} (h : isC c = true) (w : World) : (Instr.index 70 (.agg #[.int .i64 8, .int .i64 1, .int .i64 2, .int .i64 3, .int .i64 4, .int .i64 0, .int .i64 12, .int .i64 14]) (.int .i64 (c / 2))).run Try.prog w = .ok (.int .i64 (rdT c)) w := by
  rcases isC_cases h with rfl | rfl | rfl | rfl | rfl | rfl | rfl | rfl | rfl | rfl | rfl | rfl | rfl | rfl <;> kernel_rfl
set_option maxRecDepth 100000 in
set_option maxHeartbeats 4000000 in
theorem reads_29 (d s z i : Int) (w : World) (hok : okI ⟨29, d, s, z, i⟩ = true) (hc : isC s = true) : Calls Try.prog 20 #[.agg #[.int .i64 29, .int .i64 d, .int .i64 s, .int .i64 z, .int .i64 i]] w fun e w' => e = .returned (.tuple #[.int .i64 (rdT s), .int .i64 0]) ∧ Below w.heap.size w w' := by
  have C0 : Hid (∀ w, Calls Try.prog 14 #[.agg #[.int .i64 29, .int .i64 d, .int .i64 s, .int .i64 z, .int .i64 i]] w fun e w' => e = .returned (.int .i64 0) ∧ Below w.heap.size w w') := fun w => by have h := validate_any ⟨29, d, s, z, i⟩ w; rw [show vaI ⟨29, d, s, z, i⟩ = 0 by unfold vaI; rw [hok]; rfl] at h; exact h
  have hb2 : 0 ≤ s ∧ s ≤ 15 := by simp [isC] at hc; omega
  obtain ⟨hb3, hb4⟩ := hb2
  have d0 : decide (s < 0) = false := decide_eq_false (by omega)
  have hx := tab_reads hc
  generalize rdT s = r at *
  clear hok hc
  go_enter Try.func20, Try.ntmps20
  go_wp2_with ((go_at_call 14; with_reducible refine (C0.out _).mono ?_); rintro e w1 ⟨rfl, hb⟩; have HB := Lib.hid hb; have x0 : w1.cell? ⟨w.heap.size, 0, none⟩ = some (.int .i64 (29)) := box_kept hb 0; have x1 : w1.cell? ⟨w.heap.size, 1, none⟩ = some (.int .i64 d) := box_kept hb 1; have x2 : w1.cell? ⟨w.heap.size, 2, none⟩ = some (.int .i64 s) := box_kept hb 2; have x3 : w1.cell? ⟨w.heap.size, 3, none⟩ = some (.int .i64 z) := box_kept hb 3; have x4 : w1.cell? ⟨w.heap.size, 4, none⟩ = some (.int .i64 i) := box_kept hb 4; clear hb)
  go_ret2
  exact ⟨rfl, below_box HB.out⟩
set_option maxRecDepth 100000 in
set_option maxHeartbeats 4000000 in
theorem reads_32 (d s z i : Int) (w : World) (hok : okI ⟨32, d, s, z, i⟩ = true) (hc : isC s = true) : Calls Try.prog 20 #[.agg #[.int .i64 32, .int .i64 d, .int .i64 s, .int .i64 z, .int .i64 i]] w fun e w' => e = .returned (.tuple #[.int .i64 (rdT s), .int .i64 0]) ∧ Below w.heap.size w w' := by
  have C0 : Hid (∀ w, Calls Try.prog 14 #[.agg #[.int .i64 32, .int .i64 d, .int .i64 s, .int .i64 z, .int .i64 i]] w fun e w' => e = .returned (.int .i64 0) ∧ Below w.heap.size w w') := fun w => by have h := validate_any ⟨32, d, s, z, i⟩ w; rw [show vaI ⟨32, d, s, z, i⟩ = 0 by unfold vaI; rw [hok]; rfl] at h; exact h
  have hb2 : 0 ≤ s ∧ s ≤ 15 := by simp [isC] at hc; omega
  obtain ⟨hb3, hb4⟩ := hb2
  have d0 : decide (s < 0) = false := decide_eq_false (by omega)
  have hx := tab_reads hc
  generalize rdT s = r at *
  clear hok hc
  go_enter Try.func20, Try.ntmps20
  go_wp2_with ((go_at_call 14; with_reducible refine (C0.out _).mono ?_); rintro e w1 ⟨rfl, hb⟩; have HB := Lib.hid hb; have x0 : w1.cell? ⟨w.heap.size, 0, none⟩ = some (.int .i64 (32)) := box_kept hb 0; have x1 : w1.cell? ⟨w.heap.size, 1, none⟩ = some (.int .i64 d) := box_kept hb 1; have x2 : w1.cell? ⟨w.heap.size, 2, none⟩ = some (.int .i64 s) := box_kept hb 2; have x3 : w1.cell? ⟨w.heap.size, 3, none⟩ = some (.int .i64 z) := box_kept hb 3; have x4 : w1.cell? ⟨w.heap.size, 4, none⟩ = some (.int .i64 i) := box_kept hb 4; clear hb)
  go_ret2
  exact ⟨rfl, below_box HB.out⟩
set_option maxRecDepth 100000 in
set_option maxHeartbeats 4000000 in
theorem reads_31 (d s z i : Int) (w : World) (hok : okI ⟨31, d, s, z, i⟩ = true) (hc : isC i = true) : Calls Try.prog 20 #[.agg #[.int .i64 31, .int .i64 d, .int .i64 s, .int .i64 z, .int .i64 i]] w fun e w' => e = .returned (.tuple #[.int .i64 (rdT i), .int .i64 0]) ∧ Below w.heap.size w w' := by
  have C0 : Hid (∀ w, Calls Try.prog 14 #[.agg #[.int .i64 31, .int .i64 d, .int .i64 s, .int .i64 z, .int .i64 i]] w fun e w' => e = .returned (.int .i64 0) ∧ Below w.heap.size w w') := fun w => by have h := validate_any ⟨31, d, s, z, i⟩ w; rw [show vaI ⟨31, d, s, z, i⟩ = 0 by unfold vaI; rw [hok]; rfl] at h; exact h
  have hb2 : 0 ≤ i ∧ i ≤ 15 := by simp [isC] at hc; omega
  obtain ⟨hb3, hb4⟩ := hb2
  have d0 : decide (i < 0) = false := decide_eq_false (by omega)
  have hx := tab_reads hc
  generalize rdT i = r at *
  clear hok hc
  go_enter Try.func20, Try.ntmps20
  go_wp2_with ((go_at_call 14; with_reducible refine (C0.out _).mono ?_); rintro e w1 ⟨rfl, hb⟩; have HB := Lib.hid hb; have x0 : w1.cell? ⟨w.heap.size, 0, none⟩ = some (.int .i64 (31)) := box_kept hb 0; have x1 : w1.cell? ⟨w.heap.size, 1, none⟩ = some (.int .i64 d) := box_kept hb 1; have x2 : w1.cell? ⟨w.heap.size, 2, none⟩ = some (.int .i64 s) := box_kept hb 2; have x3 : w1.cell? ⟨w.heap.size, 3, none⟩ = some (.int .i64 z) := box_kept hb 3; have x4 : w1.cell? ⟨w.heap.size, 4, none⟩ = some (.int .i64 i) := box_kept hb 4; clear hb)
  go_ret2
  exact ⟨rfl, below_box HB.out⟩
theorem reads_any (x : Ins) (w : World) : Calls Try.prog 20 #[InsV x] w fun e w' => e = .returned (.tuple #[.int .i64 (rdX x), .int .i64 (vaI x)]) ∧ Below w.heap.size w w' := by
  cases hok : okI x
  · rw [show rdX x = 0 by simp [rdX, hok], show vaI x = 1 by simp [vaI, hok]]
    obtain ⟨o, d, s, z, i⟩ := x
    exact reads_bad o d s z i w hok
  · rw [show rdX x = rdT (rdC x) by simp [rdX, hok], show vaI x = 0 by simp [vaI, hok]]
    have hf := ok_fit hok
    obtain ⟨o, d, s, z, i⟩ := x
    by_cases c1 : o = 29
    · subst c1; simp [fitI] at hf; exact reads_29 d s z i w hok hf.2.1
    by_cases c2 : o = 32
    · subst c2; simp [fitI] at hf; exact reads_32 d s z i w hok hf.2.1
    by_cases c3 : o = 31
    · subst c3; simp [fitI] at hf; exact reads_31 d s z i w hok hf.2.2
    · have e : rdC ⟨o, d, s, z, i⟩ = -1 := by unfold rdC; simp only; rw [if_neg (by omega), if_neg c3]
      rw [e]
      exact reads_none o d s z i w hok (by simpa using c1) (by simpa using c3) (by simpa using c2)
end Go.Proofs.Ytdojafpjipcbjaa
namespace Go.Proofs.Ytdojafpjipcbjaa
open Go.RowKit
set_option linter.unusedVariables false
set_option linter.unusedSimpArgs false
theorem mac_sz {c : Mac} (h : c.r.length = 32) (v : Value) : (Try.prog.info? 47).map (·.size) = some (macC c v).length := by rw [macC_len h]; kernel_rfl
theorem mac_sza {c : Mac} (h : c.r.length = 32) (v : Value) : (Try.prog.info? 47).map (·.size) = some (macC c v).toArray.size := by rw [List.size_toArray]; exact mac_sz h v
theorem mac_old {c : Mac} (h : c.r.length = 32) (v : Value) : 36 = (macC c v).toArray.size := by rw [List.size_toArray, macC_len h]
theorem MemO.setO {base b j : Nat} {w : World} {mv : Value} {m : List Int} (h : MemO base w mv m) (hb : mv.ownBlock ≠ some b) (u : Value) : MemO base (w.setCell ⟨b, j, none⟩ u) mv m :=
  h.imp id fun ⟨D, cap, e, h1, h2, h5, h6⟩ => ⟨D, cap, e, h1, h2, h5, h6.setO (fun e' => hb (by rw [e, e']; rfl)) u⟩
theorem fq_eq {a b : Mac} (h : Fq a b) : { b with f := a.f } = a := by
  obtain ⟨r, f, p, m, e⟩ := a
  obtain ⟨r', f', p', m', e'⟩ := b
  obtain ⟨h1, h2, h3, h4⟩ := h
  dsimp only at h1 h2 h3 h4
  subst h1 h2 h3 h4
  rfl
theorem stepR_two {c : Mac} {g : Int} (hf : 0 ≤ c.f ∧ c.f ≤ 15) (hg : 0 ≤ g ∧ g ≤ 15) : (StepR { c with f := g }).2 = (StepR c).2 ∧ ((StepR c).2 = 0 → (StepR c).1 = stepM c ∧ (StepR { c with f := g }).1 = stepM { c with f := g } ∧ c.m.length ≤ 32768) := by
  have h1 : machE { c with f := g } = machE c := by
    unfold machE
    by_cases h : 32768 < c.m.length
    · rw [if_pos (Or.inl h), if_pos (Or.inl h)]
    · rw [if_neg (by rintro (h' | h' | h') <;> first | exact h h' | (have h9 : g < 0 ∨ 15 < g := (by first | exact Or.inl h' | exact Or.inr h'); omega)), if_neg (by omega)]
  unfold StepR
  rw [h1]
  by_cases h : machE c = 0
  · by_cases he : c.e = 0
    · simp only [h, he, if_true]
      exact ⟨trivial, fun _ => ⟨trivial, trivial, (machE_ok h).1⟩⟩
    · simp only [h, he, if_true, if_false]
      exact ⟨trivial, fun h => by cases h⟩
  · simp only [h, if_false]
    exact ⟨trivial, fun h => by cases h⟩
set_option maxRecDepth 100000 in
set_option maxHeartbeats 1000000 in
theorem flags_early (c : Mac) (mv : Value) (fl : Int) (w : World) (ho : MOk c) (hm : Ints .u8 w mv c.m) (h : 70000 < c.m.length ∨ (c.m.length : Int) ≤ c.a ∨ c.f < 0 ∨ 15 < c.f ∨ fl < 0 ∨ 15 < fl) : Calls Try.prog 7 #[.agg (macC c mv).toArray, .int .i64 fl] w fun e w' => e = .returned (.bool true) ∧ Below w.heap.size w w' := by
  have hsz : ∀ v, (Try.prog.info? 47).map (·.size) = some (macC c v).length := fun v => by rw [macC_len ho.rl]; kernel_rfl
  have hlen := macC_len ho.rl mv
  obtain ⟨hb1, k0⟩ := box_cells w (macC c mv) 47
  have hv1 := hm.stays hb1
  obtain ⟨W1, hW1⟩ : ∃ W, w.alloc (.cells (macC c mv).toArray 47) = W := ⟨_, rfl⟩
  have hs1 : W1.heap.size = w.heap.size + 1 := by rw [← hW1]; simp
  rw [hW1] at hb1 k0 hv1
  obtain ⟨⟨c32, f32⟩, ⟨c33, f33⟩, ⟨c34, f34⟩, ⟨c35, f35⟩⟩ := k0.tails ho.rl
  obtain ⟨ab0, ab1⟩ := ho.ab
  obtain ⟨va, vc, hmv, hl1, hl2⟩ := hm.shape
  rw [hmv] at c34
  have HB1 := Lib.hid hb1
  generalize macC c mv = cs at *
  clear k0 hv1 hb1 hsz hlen hm hmv f32 f33 f34 f35 c35 hl2 ho
  by_cases h1 : 70000 < c.m.length
  · have dh1 : decide ((70000 : Int) < (c.m.length : Int)) = true := decide_eq_true (by omega)
    clear h
    go_enter Try.func7, Try.ntmps7
    go_wp2_with (go_at_call 8; with_reducible refine (known_any _).mono ?_; rintro e wk ⟨rfl, hbk⟩)
    go_ret
    exact ⟨rfl, HB1.out.trans (hbk.mono (by omega))⟩
  have dh1 : decide ((70000 : Int) < (c.m.length : Int)) = false := decide_eq_false (by omega)
  by_cases h2 : (c.m.length : Int) ≤ c.a
  · have dh2 : decide ((c.m.length : Int) ≤ c.a) = true := decide_eq_true (by omega)
    clear h
    go_enter Try.func7, Try.ntmps7
    go_wp2_with (go_at_call 8; with_reducible refine (known_any _).mono ?_; rintro e wk ⟨rfl, hbk⟩)
    go_ret
    exact ⟨rfl, HB1.out.trans (hbk.mono (by omega))⟩
  have dh2 : decide ((c.m.length : Int) ≤ c.a) = false := decide_eq_false (by omega)
  by_cases h3 : c.f < 0
  · have dh3 : decide (c.f < 0) = true := decide_eq_true (by omega)
    clear h
    go_enter Try.func7, Try.ntmps7
    go_wp2_with (go_at_call 8; with_reducible refine (known_any _).mono ?_; rintro e wk ⟨rfl, hbk⟩)
    go_ret
    exact ⟨rfl, HB1.out.trans (hbk.mono (by omega))⟩
  have dh3 : decide (c.f < 0) = false := decide_eq_false (by omega)
  by_cases h4 : 15 < c.f
  · have dh4 : decide (15 < c.f) = true := decide_eq_true (by omega)
    clear h
    go_enter Try.func7, Try.ntmps7
    go_wp2_with (go_at_call 8; with_reducible refine (known_any _).mono ?_; rintro e wk ⟨rfl, hbk⟩)
    go_ret
    exact ⟨rfl, HB1.out.trans (hbk.mono (by omega))⟩
  have dh4 : decide (15 < c.f) = false := decide_eq_false (by omega)
  by_cases h5 : fl < 0
  · have dh5 : decide (fl < 0) = true := decide_eq_true (by omega)
    clear h
    go_enter Try.func7, Try.ntmps7
    go_wp2_with (go_at_call 8; with_reducible refine (known_any _).mono ?_; rintro e wk ⟨rfl, hbk⟩)
    go_ret
    exact ⟨rfl, HB1.out.trans (hbk.mono (by omega))⟩
  have dh5 : decide (fl < 0) = false := decide_eq_false (by omega)
  by_cases h6 : 15 < fl
  · have dh6 : decide (15 < fl) = true := decide_eq_true (by omega)
    clear h
    go_enter Try.func7, Try.ntmps7
    go_wp2_with (go_at_call 8; with_reducible refine (known_any _).mono ?_; rintro e wk ⟨rfl, hbk⟩)
    go_ret
    exact ⟨rfl, HB1.out.trans (hbk.mono (by omega))⟩
  have dh6 : decide (15 < fl) = false := decide_eq_false (by omega)
  exfalso; omega
set_option maxRecDepth 100000 in
set_option maxHeartbeats 1000000 in
theorem flags_late (c : Mac) (mv : Value) (fl : Int) (w : World) (ho : MOk c) (hm : Ints .u8 w mv c.m) (hl : c.m.length ≤ 70000) (hal : c.a < (c.m.length : Int)) (hf : 0 ≤ c.f ∧ c.f ≤ 15) (hfl : 0 ≤ fl ∧ fl ≤ 15) : Calls Try.prog 7 #[.agg (macC c mv).toArray, .int .i64 fl] w fun e w' => e = .returned (.bool true) ∧ Below w.heap.size w w' := by
  have hsz : ∀ v, (Try.prog.info? 47).map (·.size) = some (macC c v).length := fun v => by rw [macC_len ho.rl]; kernel_rfl
  have hlen := macC_len ho.rl mv
  obtain ⟨hb1, k0⟩ := box_cells w (macC c mv) 47
  have hv1 := hm.stays hb1
  obtain ⟨W1, hW1⟩ : ∃ W, w.alloc (.cells (macC c mv).toArray 47) = W := ⟨_, rfl⟩
  have hs1 : W1.heap.size = w.heap.size + 1 := by rw [← hW1]; simp
  rw [hW1] at hb1 k0 hv1
  obtain ⟨⟨c32, f32⟩, ⟨c33, f33⟩, ⟨c34, f34⟩, ⟨c35, f35⟩⟩ := k0.tails ho.rl
  obtain ⟨ab0, ab1⟩ := ho.ab
  obtain ⟨va, vc, hmv, hl1, hl2⟩ := hm.shape
  obtain ⟨q, hq⟩ : ∃ q : Nat, c.a = (q : Int) := ⟨c.a.toNat, by omega⟩
  have hqn : c.a.toNat = q := by omega
  have hql : q ≤ c.m.length := by omega
  have hqv : c.m.length ≤ vc := by omega
  have d1 : decide ((70000 : Int) < (c.m.length : Int)) = false := decide_eq_false (by omega)
  have d2 : decide ((c.m.length : Int) ≤ (q : Int)) = false := decide_eq_false (by omega)
  have d2n : decide (c.m.length ≤ q) = false := decide_eq_false (by omega)
  have d3 : decide (c.f < 0) = false := decide_eq_false (by omega)
  have d4 : decide ((15 : Int) < c.f) = false := decide_eq_false (by omega)
  have d5 : decide (fl < 0) = false := decide_eq_false (by omega)
  have d6 : decide ((15 : Int) < fl) = false := decide_eq_false (by omega)
  have HBY : Hid (Byt (c.m.drop q)) := Lib.hid (fun i => by rw [List.getD_eq_getElem?_getD, List.getElem?_drop, ← List.getD_eq_getElem?_getD]; exact ho.mb _)
  have HCD := Lib.hid (fun W' v (hv : Ints .u8 W' v (c.m.drop q)) (hby : Byt (c.m.drop q)) => show Calls _ _ #[v] W' (fun e w' => e = .returned (.tuple #[.agg #[.int .i64 (decX (c.m.drop q)).o, .int .i64 (decX (c.m.drop q)).d, .int .i64 (decX (c.m.drop q)).s, .int .i64 (decX (c.m.drop q)).z, .int .i64 (decX (c.m.drop q)).i], .int .i64 (decN (c.m.drop q)), .bool (decB (c.m.drop q))]) ∧ Below W'.heap.size W' w') from decode_any (c.m.drop q) v W' hv hby)
  have HFQ : Hid (decB (c.m.drop q) = true → okI (decX (c.m.drop q)) = true ∧ Fq (stepM c) (stepM { c with f := mixF (rdX (decX (c.m.drop q))) c.f fl })) := Lib.hid (fun hd => by
    have h1 := (dec_facts hd).1
    have := stepM_fq (c := c) (g := fl) (by rw [hqn]; omega) (by rw [hqn]; exact hd) (by rw [hqn]; exact h1) hf hfl
    rw [hqn] at this
    exact ⟨h1, this⟩)
  generalize decX (c.m.drop q) = y at *
  generalize decN (c.m.drop q) = n at *
  generalize decB (c.m.drop q) = db at *
  rw [hmv] at hv1
  have HID := Lib.hid (Ints.drop hv1 (m := q) (by omega))
  have HV1 := Lib.hid hv1
  have HK0 := Lib.hid k0
  have HB1 := Lib.hid hb1
  have HSZ := Lib.hid hsz
  have HO := Lib.hid ho
  have HMV := Lib.hid hmv
  have HF := Lib.hid hf
  have HFL := Lib.hid hfl
  have HLE := Lib.hid (show c.m.length ≤ 100000 by omega)
  rw [hmv] at c34
  rw [hq] at c33
  have HLN := Lib.hid hlen
  obtain ⟨cs, hcs⟩ : ∃ cs, macC c mv = cs := ⟨_, rfl⟩
  have HCS := Lib.hid hcs
  rw [hcs] at hW1 ⊢
  clear k0 hb1 hsz hlen hv1 ho hm hmv hf hfl hcs hqn hq ab0 ab1
  go_enter Try.func7, Try.ntmps7
  go_upto_region 3 with fail
  go_upto_region 4 with ((go_at_call 9; refine (HCD.out _ _ HID.out HBY.out).mono ?_); rintro e w2 ⟨rfl, hb2⟩)
  have hb3 : Below W1.heap.size W1 (w2.alloc (.cells #[.int .i64 y.o, .int .i64 y.d, .int .i64 y.s, .int .i64 y.z, .int .i64 y.i] 25)) := hb2.alloc hb2.size _
  have hbx := Box5.new w2 y.o y.d y.s y.z y.i
  have k3 := HK0.out.below (by rw [HLN.out]; decide) hb3
  have v3 := HV1.out.stays hb3
  have HB3 := Lib.hid (HB1.out.trans (hb3.mono (by omega)))
  have hlt3 : w.heap.size < (w2.alloc (.cells #[.int .i64 y.o, .int .i64 y.d, .int .i64 y.s, .int .i64 y.z, .int .i64 y.i] 25)).heap.size := by have := hb3.size; omega
  clear hb3 hb2 c32 c33 c34 HID HV1 HK0 HCD HBY d1 d2 d2n d3 d4 d5 d6
  generalize w2.alloc (.cells #[.int .i64 y.o, .int .i64 y.d, .int .i64 y.s, .int .i64 y.z, .int .i64 y.i] 25) = W3 at *
  generalize w2.heap.size = X at *
  generalize (if vc = q then va else Option.map (fun x => x.add q) va) = sa at *
  cases db
  · clear v3 k3 hbx
    go_wp2_with (go_at_call 8; with_reducible refine (known_any _).mono ?_; rintro e wk ⟨rfl, hbk⟩)
    go_ret
    exact ⟨rfl, HB3.out.trans (hbk.mono (by omega))⟩
  · obtain ⟨hok, hfq⟩ := HFQ.out rfl
    have HRD := Lib.hid (fun wk => show Calls Try.prog 20 #[.agg #[.int .i64 y.o, .int .i64 y.d, .int .i64 y.s, .int .i64 y.z, .int .i64 y.i]] wk (fun e w' => e = .returned (.tuple #[.int .i64 (rdX y), .int .i64 0]) ∧ Below wk.heap.size wk w') by have := reads_any y wk; rw [show vaI y = 0 by simp [vaI, hok]] at this; exact this)
    have hk : 0 ≤ rdX y ∧ rdX y ≤ 15 := by
      have h9 := rdT_in (rdC y)
      unfold rdX
      split <;> omega
    have HFX := Lib.hid hfq
    clear hok hfq HFQ
    generalize rdX y = k at *
    obtain ⟨⟨x0, x1, x2, x3, x4⟩, xf⟩ := hbx.cells
    go_upto_region 7 with ((go_at_call 20; with_reducible refine (HRD.out _).mono ?_); rintro e w4 ⟨rfl, hb4⟩)
    have k4 := k3.below (by rw [HLN.out]; decide) hb4
    have v4 := v3.stays hb4
    have HB4 := Lib.hid (HB3.out.trans (hb4.mono (by omega)))
    have hlt4 : w.heap.size < w4.heap.size := by have := hb4.size; omega
    clear k3 v3 hb4 x0 x1 x2 x3 x4 xf hbx HRD
    have HV4 := Lib.hid v4
    have HK4 := Lib.hid k4
    have HST := Lib.hid (fun (c' : Mac) (v : Value) (wk : World) (ho : MOk c') (hv : Ints .u8 wk v c'.m) => Step_any c' v wk ho hv)
    clear v4 k4
    have hrg := HK4.out.range
    have hszm := mac_sz HO.out.rl mv
    rw [HCS.out] at hrg hszm
    have HST1 := Lib.hid (HST.out c mv w4 HO.out (by rw [HMV.out]; exact HV4.out))
    rw [HCS.out] at HST1
    go_upto_region 8 with (first | (refine wpList_load_mid rfl _ _ rfl w.heap.size 0 rfl cs _ hrg Try.underlying47 rfl hszm ?_) | ((go_at_call 22; with_reducible refine (HST1.out).mono ?_); rintro e w5 ⟨⟨mva, rfl, hma, hoa, hla⟩, hb5⟩) | (refine wpList_store_row rfl _ _ _ rfl w5.heap.size (macC (StepR c).1 mva).toArray rfl rfl 47 _ (newest _ _ _) (mac_sza hoa.rl _) (mac_old hoa.rl _) (macC_ones hma.isSlice) ?_))
    obtain ⟨hr1, hr2, hr3⟩ := row_cells w5 #[.int .u32 0, .int .u32 0, .int .u32 0, .int .u32 0, .int .u32 0, .int .u32 0, .int .u32 0, .int .u32 0, .int .u32 0, .int .u32 0, .int .u32 0, .int .u32 0, .int .u32 0, .int .u32 0, .int .u32 0, .int .u32 0, .int .u32 0, .int .u32 0, .int .u32 0, .int .u32 0, .int .u32 0, .int .u32 0, .int .u32 0, .int .u32 0, .int .u32 0, .int .u32 0, .int .u32 0, .int .u32 0, .int .u32 0, .int .u32 0, .int .u32 0, .int .u32 0, .int .i64 0, .int .u32 0, .slice none 0 0, .int .i64 0] (macC (StepR c).1 mva) 47
    have hb6 := hb5.trans (hr1.mono hb5.size)
    have HB6 := Lib.hid (HB4.out.trans (hb6.mono (by omega)))
    have HVA := Lib.hid (hma.below hr1)
    have HOA := Lib.hid hoa
    have HLA := Lib.hid hla
    have hw6 : w4.heap.size ≤ w5.heap.size := hb5.size
    have hk6 := HK4.out.below (by rw [HLN.out]; decide) hb6
    have hv6 := HV4.out.stays hb6
    have hlt6 : w.heap.size < w5.heap.size := by omega
    clear hb5 hma hoa hla hr1 HST1 HV4 HK4 hrg
    generalize (w5.alloc (.cells #[.int .u32 0, .int .u32 0, .int .u32 0, .int .u32 0, .int .u32 0, .int .u32 0, .int .u32 0, .int .u32 0, .int .u32 0, .int .u32 0, .int .u32 0, .int .u32 0, .int .u32 0, .int .u32 0, .int .u32 0, .int .u32 0, .int .u32 0, .int .u32 0, .int .u32 0, .int .u32 0, .int .u32 0, .int .u32 0, .int .u32 0, .int .u32 0, .int .u32 0, .int .u32 0, .int .u32 0, .int .u32 0, .int .u32 0, .int .u32 0, .int .u32 0, .int .u32 0, .int .i64 0, .int .u32 0, .slice none 0 0, .int .i64 0] 47)).setRow w5.heap.size (macC (StepR c).1 mva).toArray = W6 at *
    generalize w5.heap.size = A at *
    have HKA := Lib.hid hr2
    have HK6 := Lib.hid hk6
    have hrg := HK6.out.range
    rw [HCS.out] at hrg
    have HCP := Lib.hid (copy_any c mv W6 HO.out (by rw [HMV.out]; exact hv6) HLE.out)
    rw [HCS.out] at HCP
    clear hb6 hr2 hk6 hv6
    go_upto_region 9 with (first | (refine wpList_load_mid rfl _ _ rfl w.heap.size 0 rfl cs _ hrg Try.underlying47 rfl hszm ?_) | ((go_at_call 23; with_reducible refine (HCP.out).mono ?_); rintro e w7 ⟨mvo, rfl, hmo, hb7⟩) | (refine wpList_store_row rfl _ _ _ rfl w7.heap.size (macC c mvo).toArray rfl rfl 47 _ (newest _ _ _) (mac_sza HO.out.rl _) (mac_old HO.out.rl _) (macC_ones hmo.isSlice) ?_))
    obtain ⟨hr1, hr2, hr3⟩ := row_cells w7 #[.int .u32 0, .int .u32 0, .int .u32 0, .int .u32 0, .int .u32 0, .int .u32 0, .int .u32 0, .int .u32 0, .int .u32 0, .int .u32 0, .int .u32 0, .int .u32 0, .int .u32 0, .int .u32 0, .int .u32 0, .int .u32 0, .int .u32 0, .int .u32 0, .int .u32 0, .int .u32 0, .int .u32 0, .int .u32 0, .int .u32 0, .int .u32 0, .int .u32 0, .int .u32 0, .int .u32 0, .int .u32 0, .int .u32 0, .int .u32 0, .int .u32 0, .int .u32 0, .int .i64 0, .int .u32 0, .slice none 0 0, .int .i64 0] (macC c mvo) 47
    have hb8 := hb7.trans (hr1.mono hb7.size)
    have HB8 := Lib.hid (HB6.out.trans (hb8.mono (by omega)))
    have hw8 : W6.heap.size ≤ w7.heap.size := hb7.size
    have hA6 : A < W6.heap.size := HKA.out.lt (by rw [macC_len HOA.out.rl]; decide)
    have HVA8 := Lib.hid (HVA.out.below hb8)
    have HKA8 := Lib.hid (HKA.out.below (by rw [macC_len HOA.out.rl]; decide) hb8)
    have hk8 := HK6.out.below (by rw [HLN.out]; decide) hb8
    have HVO := Lib.hid (hmo.below hr1)
    have hlt8 : w.heap.size < w7.heap.size := by omega
    obtain ⟨⟨c32, -⟩, -, -, -⟩ := hk8.tails HO.out.rl
    have hAO : mva.ownBlock ≠ some w7.heap.size := fun e => by have := (HVA.out.own _ e).2; omega
    have hOO : mvo.ownBlock ≠ some w7.heap.size := fun e => by have := (hmo.own _ e).2; omega
    clear hb7 hmo hr1 HCP hrg HK6 HVA HKA hk8 hb8
    generalize (w7.alloc (.cells #[.int .u32 0, .int .u32 0, .int .u32 0, .int .u32 0, .int .u32 0, .int .u32 0, .int .u32 0, .int .u32 0, .int .u32 0, .int .u32 0, .int .u32 0, .int .u32 0, .int .u32 0, .int .u32 0, .int .u32 0, .int .u32 0, .int .u32 0, .int .u32 0, .int .u32 0, .int .u32 0, .int .u32 0, .int .u32 0, .int .u32 0, .int .u32 0, .int .u32 0, .int .u32 0, .int .u32 0, .int .u32 0, .int .u32 0, .int .u32 0, .int .u32 0, .int .u32 0, .int .i64 0, .int .u32 0, .slice none 0 0, .int .i64 0] 47)).setRow w7.heap.size (macC c mvo).toArray = W8 at *
    obtain ⟨O, hO⟩ : ∃ O, w7.heap.size = O := ⟨_, rfl⟩
    rw [hO] at hr2 hr3 hw8 hlt8 hAO hOO ⊢
    clear hO
    obtain ⟨⟨o32, o32f⟩, -, -, -⟩ := hr2.tails HO.out.rl
    have HKO := Lib.hid hr2
    have hk0 : 0 ≤ k := hk.1
    have hk1 : k ≤ 15 := hk.2
    have hO8 : O < W8.heap.size := by omega
    clear hr2
    go_upto_region 10 with fail
    obtain ⟨g, hg⟩ : ∃ g, mixF k c.f fl = g := ⟨_, rfl⟩
    have hgb : 0 ≤ g ∧ g ≤ 15 := by rw [← hg]; exact mix_bd hk HF.out HFL.out
    have hg' : bits .or .i64 (bits .and .i64 fl (15 - k)) (bits .and .i64 c.f k) = g := hg
    rw [hg'] 
    rw [hg] at HFX
    clear hg hg' hk0 hk1 o32 o32f c32
    have hKO9 := HKO.out.set (k := 32) (by rw [macC_len HO.out.rl]; decide) (.int .i64 g)
    rw [macC_setF HO.out.rl] at hKO9
    have hKA9 := HKA8.out.other (b' := O) (k := 32) (by omega) (.int .i64 g)
    have hVA9 := HVA8.out.setO (j := 32) hAO (.int .i64 g)
    have hVO9 := HVO.out.setO (j := 32) hOO (.int .i64 g)
    have hB9 := HB8.out.setCell (p := ⟨O, 32, none⟩) (by show w.heap.size ≤ O; omega) (.int .i64 g)
    have hs9 : (W8.setCell ⟨O, 32, none⟩ (.int .i64 g)).heap.size = W8.heap.size := by simp [World.setCell]
    clear HKO HKA8 HVA8 HVO HB8
    generalize W8.setCell ⟨O, 32, none⟩ (.int .i64 g) = W9 at *
    have hoc : MOk { c with f := g } := ⟨HO.out.rl, HO.out.rb, HO.out.ab, HO.out.mb⟩
    have HOC := Lib.hid hoc
    obtain ⟨c2, hc2⟩ : ∃ c2 : Mac, { c with f := g } = c2 := ⟨_, rfl⟩
    have HTW := Lib.hid (stepR_two (c := c) (g := g) HF.out hgb)
    have hmc : c2.m = c.m := by rw [← hc2]
    rw [hc2] at hKO9 HOC HTW HFX
    have HST2 := Lib.hid (HST.out c2 mvo W9 HOC.out (by rw [hmc]; exact hVO9.ints HLE.out))
    have hrg := hKO9.range
    have hszo := mac_sz HOC.out.rl mvo
    have HKA := Lib.hid hKA9
    have HVA := Lib.hid hVA9
    have HB9 := Lib.hid hB9
    have hW9 : A < W9.heap.size ∧ O < W9.heap.size ∧ w.heap.size < W9.heap.size := by omega
    obtain ⟨hA9, hO9, hw9⟩ := hW9
    clear hKA9 hKO9 hVA9 hVO9 hB9 hoc hc2 HST hAO hOO
    obtain ⟨cso, hcso⟩ : ∃ l, macC c2 mvo = l := ⟨_, rfl⟩
    rw [hcso] at hrg hszo HST2
    clear hcso
    go_upto_region 11 with (first | (refine wpList_load_mid rfl _ _ rfl O 0 rfl cso _ hrg Try.underlying47 rfl hszo ?_) | ((go_at_call 22; with_reducible refine (HST2.out).mono ?_); rintro e w10 ⟨⟨mvb, rfl, hmb, hob, -⟩, hb10⟩) | (refine wpList_store_row rfl _ _ _ rfl w10.heap.size (macC (StepR c2).1 mvb).toArray rfl rfl 47 _ (newest _ _ _) (mac_sza hob.rl _) (mac_old hob.rl _) (macC_ones hmb.isSlice) ?_))
    obtain ⟨hr1, hr2, hr3⟩ := row_cells w10 #[.int .u32 0, .int .u32 0, .int .u32 0, .int .u32 0, .int .u32 0, .int .u32 0, .int .u32 0, .int .u32 0, .int .u32 0, .int .u32 0, .int .u32 0, .int .u32 0, .int .u32 0, .int .u32 0, .int .u32 0, .int .u32 0, .int .u32 0, .int .u32 0, .int .u32 0, .int .u32 0, .int .u32 0, .int .u32 0, .int .u32 0, .int .u32 0, .int .u32 0, .int .u32 0, .int .u32 0, .int .u32 0, .int .u32 0, .int .u32 0, .int .u32 0, .int .u32 0, .int .i64 0, .int .u32 0, .slice none 0 0, .int .i64 0] (macC (StepR c2).1 mvb) 47
    have hb11 := hb10.trans (hr1.mono hb10.size)
    have hKA := HKA.out.below (by rw [macC_len HOA.out.rl]; decide) hb11
    have hVA := HVA.out.below hb11
    have hVB := hmb.below hr1
    have hBe := HB9.out.trans (hb11.mono (by omega))
    have hAB : A < w10.heap.size := by have := hb10.size; omega
    have hwB : w.heap.size < w10.heap.size := by have := hb10.size; omega
    have hBA : mva.ownBlock ≠ some w10.heap.size := fun e => by have := (HVA.out.own _ e).2; have := hb10.size; omega
    have hBB : mvb.ownBlock ≠ some w10.heap.size := fun e => by have := (hmb.own _ e).2; omega
    have HOB := Lib.hid hob
    clear hb10 hmb hob hr1 hb11 HKA HVA HB9 HST2 hrg
    generalize (w10.alloc (.cells #[.int .u32 0, .int .u32 0, .int .u32 0, .int .u32 0, .int .u32 0, .int .u32 0, .int .u32 0, .int .u32 0, .int .u32 0, .int .u32 0, .int .u32 0, .int .u32 0, .int .u32 0, .int .u32 0, .int .u32 0, .int .u32 0, .int .u32 0, .int .u32 0, .int .u32 0, .int .u32 0, .int .u32 0, .int .u32 0, .int .u32 0, .int .u32 0, .int .u32 0, .int .u32 0, .int .u32 0, .int .u32 0, .int .u32 0, .int .u32 0, .int .u32 0, .int .u32 0, .int .i64 0, .int .u32 0, .slice none 0 0, .int .i64 0] 47)).setRow w10.heap.size (macC (StepR c2).1 mvb).toArray = W11 at *
    generalize w10.heap.size = Bb at *
    obtain ⟨htw, htw2⟩ := HTW.out
    rw [htw]
    clear htw HTW
    by_cases hr : (StepR c).2 = 0
    · obtain ⟨e1, e2, hle⟩ := htw2 hr
      rw [e1] at hKA hVA
      rw [e2] at hr2 hVB
      rw [hr]
      have hra := HOA.out.rl
      have hrb := HOB.out.rl
      rw [e1] at hra
      rw [e2] at hrb
      obtain ⟨⟨a32, -⟩, -, -, -⟩ := hKA.tails hra
      obtain ⟨⟨b32, b32f⟩, -, -, -⟩ := hr2.tails hrb
      have hkb := hr2.set (k := 32) (by rw [macC_len hrb]; decide) (.int .i64 (stepM c).f)
      rw [macC_setF hrb, fq_eq HFX.out] at hkb
      have hka := hKA.other (b' := Bb) (k := 32) (by omega) (.int .i64 (stepM c).f)
      have hva := (hVA.setO (j := 32) hBA (.int .i64 (stepM c).f))
      have hvb := (hVB.setO (j := 32) hBB (.int .i64 (stepM c).f))
      have hbe := hBe.setCell (p := ⟨Bb, 32, none⟩) (by show w.heap.size ≤ Bb; omega) (.int .i64 (stepM c).f)
      rw [← (HFX.out).m] at hvb
      have e1x := e1
      clear htw2 hr e1 e2 hKA hVA hVB hr2 hBe
      have hml := HLA.out
      rw [e1x] at hml
      go_upto_region 16 with fail
      generalize W11.setCell ⟨Bb, 32, none⟩ (.int .i64 (stepM c).f) = W12 at *
      have hrga := hka.range
      have hrgb := hkb.range
      have hsa := mac_sz hra mva
      have hsb := mac_sz hra mvb
      have HSM := Lib.hid (same_eq (stepM c) mva mvb W12 hra (hva.ints (by omega)) (hvb.ints (by omega)))
      have HBE := Lib.hid hbe
      have hw12 : w.heap.size ≤ W12.heap.size := hbe.size
      clear hka hkb hva hvb hbe a32 b32 b32f hra hrb
      generalize macC (stepM c) mva = csa at *
      generalize macC (stepM c) mvb = csb at *
      go_wp2_with (first | (refine wpList_load_mid rfl _ _ rfl A 0 rfl csa _ hrga Try.underlying47 rfl hsa ?_) | (refine wpList_load_mid rfl _ _ rfl Bb 0 rfl csb _ hrgb Try.underlying47 rfl hsb ?_) | ((go_at_call 24; with_reducible refine (HSM.out).mono ?_); rintro e w13 ⟨rfl, hb13⟩) | (go_at_call 8; with_reducible refine (known_any _).mono ?_; rintro e wk ⟨rfl, hbk⟩))
      go_ret
      exact ⟨rfl, (HBE.out.trans (hb13.mono (by omega))).trans (hbk.mono (by have := hb13.size; omega))⟩
    · have dr : ((StepR c).2 == 0) = false := by simpa using hr
      generalize (StepR c).2 = r at *
      clear hr htw2 hKA hVA hVB hr2
      go_wp2_with (go_at_call 8; with_reducible refine (known_any _).mono ?_; rintro e wk ⟨rfl, hbk⟩)
      go_ret
      exact ⟨rfl, hBe.trans (hbk.mono (by omega))⟩
theorem wIaFlags (c : Mac) (mv : Value) (fl : Int) (w : World) (ho : MOk c) (hm : Ints .u8 w mv c.m) : Calls Try.prog 7 #[.agg (macC c mv).toArray, .int .i64 fl] w fun e w' => e = .returned (.bool true) ∧ Below w.heap.size w w' := by
  by_cases h : 70000 < c.m.length ∨ (c.m.length : Int) ≤ c.a ∨ c.f < 0 ∨ 15 < c.f ∨ fl < 0 ∨ 15 < fl
  · exact flags_early c mv fl w ho hm h
  · exact flags_late c mv fl w ho hm (by omega) (by omega) (by omega) (by omega)
end Go.Proofs.Ytdojafpjipcbjaa
namespace Go.Proofs.Ytdojafpjipcbjaa
open Go.RowKit Go.WideShapes Go.ChangeShapes
section
variable {H : Type} {enc : TypeId × Value → H} {P : Program}
theorem trodAll_stays (hl : laidOutB P = true) {W W' : World} (hb : Below W.heap.size W W') (sp : Nat → Bool) : ∀ (ts : List TypeId) (vs : List Value) (ds : List (DataW H)) (ps : List MemPlace),
    (∀ t ∈ ts, P.readableRec t = true ∧ t < P.types.size) → DataW.TrodAll enc P W 0 (fun _ => true) true ts vs ds ps → (∀ x ∈ ps, x.block < W.heap.size) → (∀ p ∈ ps, sp p.block = true) → DataW.TrodAll enc P W' 0 sp true ts vs ds ps
  | [], vs, ds, ps, _, h, _, _ => by
    obtain ⟨rfl, rfl, rfl⟩ := trodAll_nil h
    exact trodAll_mk0
  | t :: ts, vs, ds, ps, ht, h, hlt, hsp => by
    obtain ⟨v, vs', d, ds', p, q, rfl, rfl, rfl, h1, h2⟩ := trodAll_cons h
    have h3 := ht t (List.mem_cons_self ..)
    exact trodAll_cons_mk (WideElems.Trod_stays hl h3.1 h3.2 h1 (fun x hx => hb.same (hlt x (List.mem_append.2 (.inl hx)))) (fun x hx => hsp x (List.mem_append.2 (.inl hx))))
      (trodAll_stays hl hb sp ts vs' ds' q (fun t' h' => ht t' (List.mem_cons_of_mem _ h')) h2 (fun x hx => hlt x (List.mem_append.2 (.inr hx))) (fun x hx => hsp x (List.mem_append.2 (.inr hx))))
theorem post_below {f : Func} {s : ChangeSpec} {apart fresh handsOn again : Bool} {W W' : World} {args : Array Value} {v : Value} {ds gs : List (DataW H)} {before pa pv : List MemPlace}
    (hW : DataW.Whole enc P f.params.toList s.vars apart W args.toList ds gs before)
    (hres : ∀ (b : Nat) (sp : Nat → Bool) (hd : Bool), DataW.TrodAll enc P W' b sp hd f.resultTypes.toList (v.resultList f.resultTypes.size) (s.fn H (ds ++ gs)).results [])
    (hargs : ∀ sp : Nat → Bool, (∀ p ∈ before, sp p.block = true) → DataW.TrodAll enc P W' 0 sp true f.params.toList args.toList (s.fn H (ds ++ gs)).args pa)
    (hvars : ∀ sp : Nat → Bool, (∀ p ∈ before, sp p.block = true) → DataW.TrodVars enc P W' sp s.vars (s.fn H (ds ++ gs)).vars pv)
    (hps : before = pa ++ pv) (hb : Below W.heap.size W W')
    (hok : ∀ (j : Nat) (t : TypeId) (r : Value), f.resultTypes[j]? = some t → (v.resultList f.resultTypes.size)[j]? = some r → Value.okWide P W' .any 0 t r) :
    s.post enc P f apart fresh handsOn again W args v W' := by
  have hlt : ∀ p ∈ before, p.block < W.heap.size := fun p hp => hW.lt p hp
  have hold : ∀ p ∈ before, (fun b => decide (b < W.heap.size)) p.block = true := fun p hp => by simpa using hlt p hp
  refine ⟨ds, gs, before, [], pa, pv, hW, hres _ _ _, hargs _ hold, hvars _ hold, World.keptBut_mono (fun p hp => ⟨hp, ?_⟩) (hb.frame (· ∈ before)), fun _ => ?_⟩
  · rw [hps, List.mem_append] at hp
    exact Or.inr hp
  · obtain ⟨_, _, _, _, _, hz, hn⟩ := hW
    refine ⟨hok, _, _, ([] ++ pa) ++ pv, ⟨[] ++ pa, pv, trodAll_append (hargs _ (fun _ _ => rfl)) (hres _ _ _), hvars _ (fun _ _ => rfl), rfl, ?_, ?_⟩, ?_⟩
    · intro b off hp
      have hin : MemPlace.cell b off ∈ before := by rw [hps]; simpa using hp
      rw [hb.frozen (hlt _ hin)]
      exact hz b off hin
    · intro ha
      have := hn ha
      rw [hps] at this
      simpa using this
    · intro p hp _
      rw [hps]
      simpa using hp
/-- A law that returned true and left alone what it found. -/
theorem post_law {f : Func} {s : ChangeSpec} {apart fresh handsOn again : Bool} {W W' : World} {args : Array Value} {ds gs : List (DataW H)} {before : List MemPlace} {tb : TypeId}
    (hl : laidOutB P = true) (hts : ∀ t ∈ f.params.toList, P.readableRec t = true ∧ t < P.types.size) (hres : f.resultTypes = #[tb]) (htb : P.underlying tb = some .bool) (hv : s.vars = [])
    (hW : DataW.Whole enc P f.params.toList s.vars apart W args.toList ds gs before) (hfn : s.fn H (ds ++ gs) = { results := [.lit (.bool true)], args := ds }) (hb : Below W.heap.size W W') :
    s.post enc P f apart fresh handsOn again W args (.bool true) W' := by
  have hW2 := hW
  obtain ⟨p, q, hA, hV, rfl, _, _⟩ := hW2
  rw [hv] at hV
  obtain ⟨rfl, rfl⟩ := trodVars_none hV
  refine post_below (pa := p) (pv := []) hW (fun b sp hd => ?_) (fun sp hsp => ?_) (fun sp _ => ?_) rfl hb (ok_one hres rfl (okWide_bool_mk htb _))
  · rw [hfn, hres]
    exact trodAll_mk1 (shut_bool htb _)
  · rw [hfn]
    exact trodAll_stays hl hb sp _ _ _ _ hts hA (fun x hx => hW.lt x (List.mem_append.2 (.inl hx))) (fun x hx => hsp x (List.mem_append.2 (.inl hx)))
  · rw [hfn, hv]
    trivial
end
end Go.Proofs.Ytdojafpjipcbjaa
