/- Walk of Depth of the answer. -/
import Derived.Test.YthopdfikikdcbaaTj
namespace Go.Proofs.Ythopdfikikdcbaa
open Go.RowKit Wd
set_option linter.unusedVariables false
set_option linter.unusedSimpArgs false

set_option maxRecDepth 100000 in
set_option maxHeartbeats 8000000 in
theorem rDepth (ts : List Nd) (tv : Value) (w : World) (hts : Nds w tv ts) (hi : ∀ x ∈ ts, 0 ≤ x.imm ∧ x.imm ≤ 4294967295) : Calls Try.prog 16 #[tv] w fun e w' => e = .returned (.tuple #[.int .i64 (depV ts), .int .i64 (valE ts)]) ∧ Below w.heap.size w w' := by
  have HT := Lib.hid hts
  have HI := Lib.hid hi
  obtain ⟨ta, tc, rfl, ht1, ht2⟩ := hts.shape
  clear hi hts
  obtain ⟨i0, hi0, hz0, hz1, hz2⟩ := info_parts info_int
  cases hz : (valE ts != 0)
  rotate_left
  · have HZ : Hid (valE ts ≠ 0) := by
      have h : ¬ valE ts = 0 := by simpa using hz
      exact h
    have HV : Hid (depV ts = 0) := if_neg HZ.out
    go_enter Try.func16, Try.ntmps16
    go_wp2_with fail
    refine (rValidate ts _ _ HT.out HI.out).mono ?_
    rintro e w' ⟨rfl, hb1⟩
    go_wp2_with fail
    go_ret2
    exact ⟨by rw [HV.out]; rfl, hb1⟩
  have hz' : valE ts = 0 := by simpa using hz
  have HZ := Lib.hid hz'
  clear hz hz'
  have HF := Lib.hid (valid_facts HZ.out)
  have hlen : 1 ≤ ts.length ∧ ts.length ≤ 300 := ⟨HF.out.1, HF.out.2.1⟩
  obtain ⟨hl1, hl2⟩ := hlen
  have HV : Hid (depV ts = (deep ts).getD (ts.length - 1) 0) := if_pos HZ.out
  go_enter Try.func16, Try.ntmps16
  go_wp2_with fail
  refine (rValidate ts _ _ HT.out HI.out).mono ?_
  rintro e w1 ⟨rfl, hb1⟩
  rw [HZ.out]
  have hb1s := hb1.size
  have HB1 := Lib.hid hb1
  clear hb1
  go_wp2_with fail
  go_loopw [5, 6] (fun v i wr => ∃ j : Nat, j ≤ ts.length ∧ i = .int .i64 j ∧ RowI wr w.heap.size 3 .i64 v (deep (ts.take j)) ∧ Below w.heap.size w wr) (fun _ i _ => ts.length - (intOf i).toNat)
  case atStart => exact ⟨0, Nat.zero_le _, rfl, RowI.nil _ _ _ _, HB1.out⟩
  case round =>
    obtain ⟨j, hj, rfl, hrow, hb⟩ := hrel
    have HB := Lib.hid hb
    have hbs := hb.size
    by_cases hlt : j < ts.length
    · obtain ⟨b, q, c', av, e', _, hbq, hav, c0, c1, c2, c3, c4⟩ := HT.out.at2 hb hlt
      cases e'
      have HAV := Lib.hid (hav.stays hb)
      have HSF := Lib.hid (shaped_facts (okS_at HF.out.2.2.1 hlt))
      have HDB := Lib.hid (deep_bd ts j hj)
      have hdl := deep_take_len hj
      have HDM := Lib.hid (dmax_snoc (deep (ts.take j)))
      have HDS := Lib.hid (deep_snoc ts j hlt)
      generalize deep (ts.take j) = acc at *
      generalize ts.getD j default = x at *
      obtain ⟨op, width, flags, args, imm⟩ := x
      simp only at c0 c1 c2 c3 c4 hav HSF HDS
      have hal : args.length ≤ 3 := by have := HSF.out.1; rcases arV_cases op with h | h | h | h | h <;> omega
      obtain ⟨aa, ac, rfl, _⟩ := hav.shape
      obtain ⟨ra, rc, rfl⟩ := hrow.shape
      have hints := hrow.ints (by omega)
      unfold RowI at hrow
      rw [hdl] at hrow hints ⊢
      have HO0 := Lib.hid hrow
      have HAI := Lib.hid hints
      have HDL := Lib.hid hdl
      clear hb hav hrow hints hdl
      go_wp2_with fail
      go_loop [7, 8] (fun d i => ∃ k : Nat, k ≤ args.length ∧ i = .int .i64 k ∧ d = .int .i64 (dmax acc (args.take k))) (fun _ i => args.length - (intOf i).toNat)
      case atStart => exact ⟨0, Nat.zero_le _, rfl, rfl⟩
      case round =>
        obtain ⟨k, hk, rfl, rfl⟩ := hrel
        by_cases hlk : k < args.length
        · obtain ⟨b2, q2, c2', e', _, hb2, d0⟩ := HAV.out.at hlk
          cases e'
          have hr := HSF.out.2.1 (args.getD k 0) (by rw [List.getD_eq_getElem?_getD, List.getElem?_eq_getElem hlk]; exact List.getElem_mem hlk)
          have HM := Lib.hid (HDM.out args k hlk)
          generalize args.getD k 0 = y at *
          obtain ⟨m, rfl⟩ := Int.eq_ofNat_of_zero_le hr.1
          have hmj : m < j := by omega
          obtain ⟨b3, q3, rfl, _, hcs⟩ := HAI.out.row (by rw [HDL.out]; omega)
          have e2 := hcs m (by rw [HDL.out]; exact hmj)
          have bd := HDB.out m
          have bm := dmax_bd HDB.out (by omega) (args.take k)
          rw [Int.toNat_natCast] at HM
          clear hr hcs
          generalize dmax acc (args.take k) = p at *
          generalize acc.getD m 0 = z at *
          go_wp2_with fail
          go_round
          case rel => exact ⟨k + 1, by omega, by go_num, by rw [HM.out, ← max_if]⟩
          case measure => simp [intOf]; omega
        · obtain rfl : k = args.length := by omega
          rw [List.take_length]
          have bm := dmax_bd HDB.out (by omega) args
          generalize dmax acc args = p at *
          go_wp2_with (at_builtin; refine wpList_append_own _ rfl _ _ 25 rfl (w.heap.size) 3 i0 (.int .i64 0) 1 8 Try.underlying25 hi0 hz0 hz1 hz2 rfl (by decide) _ _ _ rfl (HO0.out.alloc _) ⟨wr.heap.size, 0, none⟩ 1 1 [.int .i64 (p + 1)] rfl rfl ?c1 ?c2 ?c3 ?c4 ?c5 ?_)
          case c2 => simp [Value.oneCell']
          case c3 => unfold maxLen; omega
          case c4 => omega
          case c5 => first | omega | (simp; omega)
          intro v' w2 hown' hgrow _
          have HO := Lib.hid hown'
          have HG := Lib.hid hgrow
          clear hown' hgrow
          go_wp2_with fail
          go_roundw
          case rel => exact ⟨j + 1, by omega, by go_num, RowI.app1 HO.out HDL.out HDS.out, (HB.out.alloc (by omega) _).grown HG.out (by simp; omega) (own_ge HO0.out)⟩
          case measure => simp [intOf]; omega
    · obtain rfl : j = ts.length := by omega
      rw [List.take_length] at hrow
      have hdl := deep_len ts
      obtain ⟨ra, rc, rfl⟩ := hrow.shape
      obtain ⟨b3, q3, rfl, _, hcs⟩ := (hrow.ints (by omega)).row (by omega)
      have e1 := hcs (ts.length - 1) (by omega)
      rw [← HV.out] at e1
      rw [hdl]
      clear hrow hdl hcs hb
      go_wp2_with fail
      go_ret2
      exact ⟨by rw [HZ.out]; rfl, HB.out⟩

end Go.Proofs.Ythopdfikikdcbaa
