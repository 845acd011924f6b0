/- Walks of Below, Values, Eval of the answer. -/
import Derived.Test.YthopdfikikdcbaaTo
namespace Go.Proofs.Ythopdfikikdcbaa
open Go.RowKit Wd
set_option linter.unusedVariables false
set_option linter.unusedSimpArgs false
theorem ownDr {w : World} {base : Nat} {e : TypeId} {size : Nat} {v : Value} {n : Nat} {xs : List Value} (h : w.ownsRow base e size v n xs) (k : Nat) : (w.drewN k).ownsRow base e size v n xs := h

set_option maxRecDepth 100000 in
set_option maxHeartbeats 2000000 in
theorem rBelow (ts : List Nd) (env : List Int) (tv ev : Value) (w : World) (hts : Nds w tv ts) (hev : Ints .u32 w ev env) (hi : ∀ x ∈ ts, 0 ≤ x.imm ∧ x.imm ≤ 4294967295) (hE : ∀ x ∈ env, 0 ≤ x ∧ x ≤ 4294967295) (hz : valE ts = 0) (he : EnvOk ts env) : Calls Try.prog 52 #[tv, ev] w fun e w' => ∃ v, e = .returned v ∧ Ints .u32 w' v (vals ts env) ∧ Below w.heap.size w w' := by
  have HT := Lib.hid hts
  have HI := Lib.hid hi
  have HEV := Lib.hid hev
  have HE := Lib.hid hE
  obtain ⟨ta, tc, rfl, ht1, ht2⟩ := hts.shape
  obtain ⟨ea, ec, rfl, he1, he2⟩ := hev.shape
  clear hi hts hev hE
  have HZ := Lib.hid hz
  have HEO := Lib.hid he
  have hlen : 1 ≤ ts.length ∧ ts.length ≤ 300 := ⟨(valid_facts hz).1, (valid_facts hz).2.1⟩
  obtain ⟨hl1, hl2⟩ := hlen
  have HL4 := Lib.hid he.1
  clear hz he
  obtain ⟨i0, hi0, hz0, hz1, hz2⟩ := info_parts info_u32
  go_enter Try.func52, Try.ntmps52
  go_wp2_with fail
  go_loopw [5, 6] (fun v i wr => ∃ j : Nat, j ≤ ts.length ∧ i = .int .i64 j ∧ RowI wr w.heap.size 34 .u32 v (valsF ts env (ts.take j)) ∧ Below w.heap.size w wr) (fun _ i _ => ts.length - (intOf i).toNat)
  case atStart => exact ⟨0, Nat.zero_le _, rfl, RowI.nil _ _ _ _, Below.refl _ _⟩
  case round =>
    obtain ⟨j, hj, rfl, hrow, hb⟩ := hrel
    have HB := Lib.hid hb
    have hbs := hb.size
    have hdl := valsF_take_len (env := env) hj
    by_cases hlt : j < ts.length
    · obtain ⟨b, q, c', av, e', _, hbq, hav, c0, c1, c2, c3, c4⟩ := HT.out.at2 hb hlt
      cases e'
      have HAV := Lib.hid (hav.stays hb)
      have HN := Lib.hid (nodeOk HZ.out hlt)
      have HW := Lib.hid (vals_words HZ.out HI.out HEO.out j hj)
      have HS := Lib.hid (vals_snoc ts env j hlt)
      have hI := HI.out _ (mem_getD hlt)
      generalize valsF ts env (ts.take j) = acc at *
      generalize ts.getD j default = x at *
      obtain ⟨op, width, flags, args, imm⟩ := x
      simp only at c0 c1 c2 c3 c4 hav hI
      obtain ⟨aa, ac, rfl, ha1, _⟩ := hav.shape
      obtain ⟨ra, rc, rfl⟩ := hrow.shape
      have hints := hrow.ints (by omega)
      unfold RowI at hrow
      rw [hdl] at hrow hints ⊢
      have HO0 := Lib.hid hrow
      have HRI := Lib.hid hints
      have HDL := Lib.hid hdl
      clear hb hav hrow hints hdl
      by_cases o0 : op = 0
      · subst o0
        have HVN : Hid (vNode ts env acc ⟨0, width, flags, args, imm⟩ = imm) := by
          show _ = _
          simp only [vNode]
          rfl
        go_wp2_with (at_builtin; refine wpList_append_own _ rfl _ _ 33 rfl (w.heap.size) 34 i0 (.int .u32 0) 1 4 Try.underlying33 hi0 hz0 hz1 hz2 rfl (by decide) _ _ _ rfl ((HO0.out.alloc _).alloc _) ⟨_, 0, none⟩ 1 1 [.int .u32 (imm)] rfl rfl ?c1x1 ?c2x1 ?c3x1 ?c4x1 ?c5x1 ?_)
        case c2x1 => simp [Value.oneCell']
        case c3x1 => unfold maxLen; omega
        case c4x1 => omega
        case c5x1 => first | omega | (simp; omega)
        intro v' w2 hown' hgrow _
        have HO := Lib.hid hown'
        have HG := Lib.hid hgrow
        clear hown' hgrow
        go_wp2_with fail
        go_roundw
        case rel => exact ⟨j + 1, by omega, by go_num, RowI.app1 HO.out HDL.out (by rw [HS.out, HVN.out] <;> rfl), Below.grown ((HB.out.alloc (by omega) _).alloc (by simp; omega) _) HG.out (by simp; omega) (own_ge HO0.out)⟩
        case measure => simp [intOf]; omega
      by_cases o33 : op = 33
      · subst o33
        obtain ⟨k, rfl⟩ := Int.eq_ofNat_of_zero_le hI.1
        have hk4 : k < 4 := by have := HN.out.imm; unfold immOk at this; rw [if_neg (by simp), if_pos rfl] at this; simp at this; omega
        obtain ⟨eb, eo, ec2, ee, _, heb, ecell⟩ := (HEV.out.stays HB.out).at (show k < env.length by rw [HL4.out]; exact hk4)
        cases ee
        have hke : (k : Int) < env.length := by rw [HL4.out]; omega
        have HVN : Hid (vNode ts env acc ⟨33, width, flags, args, (k : Int)⟩ = env.getD k 0) := by
          show _ = _
          simp only [vNode]
          rfl
        generalize env.getD k 0 = y at *
        clear o0 hI
        go_wp2_with (at_builtin; refine wpList_append_own _ rfl _ _ 33 rfl (w.heap.size) 34 i0 (.int .u32 0) 1 4 Try.underlying33 hi0 hz0 hz1 hz2 rfl (by decide) _ _ _ rfl ((HO0.out.alloc _).alloc _) ⟨_, 0, none⟩ 1 1 [.int .u32 (y)] rfl rfl ?c1x2 ?c2x2 ?c3x2 ?c4x2 ?c5x2 ?_)
        case c2x2 => simp [Value.oneCell']
        case c3x2 => unfold maxLen; omega
        case c4x2 => omega
        case c5x2 => first | omega | (simp; omega)
        intro v' w2 hown' hgrow _
        have HO := Lib.hid hown'
        have HG := Lib.hid hgrow
        clear hown' hgrow
        go_wp2_with fail
        go_roundw
        case rel => exact ⟨j + 1, by omega, by go_num, RowI.app1 HO.out HDL.out (by rw [HS.out, HVN.out] <;> rfl), Below.grown ((HB.out.alloc (by omega) _).alloc (by simp; omega) _) HG.out (by simp; omega) (own_ge HO0.out)⟩
        case measure => simp [intOf]; omega
      by_cases o14 : op = 14
      · subst o14
        have hlen : args.length = 2 := by have := HN.out.len; simp only at this; have h14 : arV 14 = 2 := rfl; omega
        have HR := Lib.hid HN.out.rng
        simp only at HR
        have hn0 : 0 < args.length := by omega
        have hn1 : 1 < args.length := by omega
        have HN2 := Lib.hid hlen
        clear hlen
        obtain ⟨ab, ao, rfl, hab, hcs⟩ := HAV.out.row hn0
        have hr0 := HR.out 0 hn0
        obtain ⟨m0, hm0⟩ := Int.eq_ofNat_of_zero_le hr0.1
        have hj0 : m0 < j := by omega
        have hmt0 : m0 < ts.length := by omega
        have d0 := hcs 0 hn0
        rw [hm0] at d0
        rw [Nat.add_zero] at d0
        have hr1 := HR.out 1 hn1
        obtain ⟨m1, hm1⟩ := Int.eq_ofNat_of_zero_le hr1.1
        have hj1 : m1 < j := by omega
        have hmt1 : m1 < ts.length := by omega
        have d1 := hcs 1 hn1
        rw [hm1] at d1
        obtain ⟨rb, rq, rfl, hrb, hro⟩ := HRI.out.row (by rw [HDL.out]; omega)
        have y0 := hro m0 (by rw [HDL.out]; exact hj0)
        have b0 := HW.out m0 hj0
        have p0 := @pw_le32 (ts.getD m0 default).width (nodeOk HZ.out hmt0).wid.2
        have u0 : 0 ≤ acc.getD m0 0 := b0.1
        have v0 : acc.getD m0 0 ≤ 4294967295 := by omega
        have ij0 : (m0 : Int) < j := by omega
        have t0 : (m0 : Int) < ts.length := by omega
        have s0 : (0 : Int) < args.length := by omega
        have y1 := hro m1 (by rw [HDL.out]; exact hj1)
        have b1 := HW.out m1 hj1
        have p1 := @pw_le32 (ts.getD m1 default).width (nodeOk HZ.out hmt1).wid.2
        have u1 : 0 ≤ acc.getD m1 0 := b1.1
        have v1 : acc.getD m1 0 ≤ 4294967295 := by omega
        have ij1 : (m1 : Int) < j := by omega
        have t1 : (m1 : Int) < ts.length := by omega
        have s1 : (1 : Int) < args.length := by omega
        obtain ⟨nb, nq, nc, nav, ne, _, hnb, _, _, w0, _⟩ := HT.out.at2 HB.out hmt0
        cases ne
        have hbr : b < wr.heap.size := by omega
        clear hcs hro
        have HVN : Hid (vNode ts env acc ⟨14, width, flags, args, imm⟩ = if coX imm (wdt ts args 0) (acc.getD m0 0) (acc.getD m1 0) = true then 1 else 0) := by
          show _ = _
          simp only [vNode, vArg, if_true, if_false, hm0, hm1, Int.toNat_natCast] <;> rfl
        generalize acc.getD m0 0 = a0 at *
        generalize acc.getD m1 0 = a1 at *
        have hwd : wdt ts args 0 = (ts.getD m0 default).width := by unfold wdt; rw [hm0, Int.toNat_natCast]
        rw [← hwd] at w0
        clear hr0 b0 p0 hm0 hr1 b1 p1 hm1 hwd
        clear o0 o33
        cases hco : coX imm (wdt ts args 0) a0 a1
        · rw [hco] at HVN
          go_wp2_with fail
          have wI : IntKind.i64.wrap imm = imm := IntWalk.i64_in _ (by omega)
          go_quiet (first | (go_at_call 86; exact quiet_same (rCompare imm (wdt ts args 0) a0 a1 u0 v0 u1 v1 _)))
          clear wI
          go_wp2_with (at_builtin; refine wpList_append_own _ rfl _ _ 33 rfl (w.heap.size) 34 i0 (.int .u32 0) 1 4 Try.underlying33 hi0 hz0 hz1 hz2 rfl (by decide) _ _ _ rfl ((ownDr (HO0.out.alloc _) _).alloc _) ⟨_, 0, none⟩ 1 1 [.int .u32 (0)] rfl rfl ?c1x3 ?c2x3 ?c3x3 ?c4x3 ?c5x3 ?_)
          case c1x3 =>
            intro i u h
            rcases i with _ | i
            · cases h; simp [go_sem, Addr.add]
            · cases h
          case c2x3 => simp [Value.oneCell']
          case c3x3 => unfold maxLen; omega
          case c4x3 => omega
          case c5x3 => first | omega | (simp; omega)
          intro v' w2 hown' hgrow _
          have HO := Lib.hid hown'
          have HG := Lib.hid hgrow
          clear hown' hgrow
          go_wp2_with fail
          go_roundw
          case rel => exact ⟨j + 1, by omega, by go_num, RowI.app1 HO.out HDL.out (by rw [HS.out, HVN.out] <;> rfl), Below.grown ((below_drewN (HB.out.alloc (by omega) _) _).alloc (by simp; omega) _) HG.out (by simp; omega) (own_ge HO0.out)⟩
          case measure => simp [intOf]; omega
        · rw [hco] at HVN
          go_wp2_with fail
          have wI : IntKind.i64.wrap imm = imm := IntWalk.i64_in _ (by omega)
          go_quiet (first | (go_at_call 86; exact quiet_same (rCompare imm (wdt ts args 0) a0 a1 u0 v0 u1 v1 _)))
          clear wI
          go_wp2_with (at_builtin; refine wpList_append_own _ rfl _ _ 33 rfl (w.heap.size) 34 i0 (.int .u32 0) 1 4 Try.underlying33 hi0 hz0 hz1 hz2 rfl (by decide) _ _ _ rfl ((ownDr (HO0.out.alloc _) _).alloc _) ⟨_, 0, none⟩ 1 1 [.int .u32 (1)] rfl rfl ?c1x4 ?c2x4 ?c3x4 ?c4x4 ?c5x4 ?_)
          case c1x4 =>
            intro i u h
            rcases i with _ | i
            · cases h; simp [go_sem, Addr.add]
            · cases h
          case c2x4 => simp [Value.oneCell']
          case c3x4 => unfold maxLen; omega
          case c4x4 => omega
          case c5x4 => first | omega | (simp; omega)
          intro v' w2 hown' hgrow _
          have HO := Lib.hid hown'
          have HG := Lib.hid hgrow
          clear hown' hgrow
          go_wp2_with fail
          go_roundw
          case rel => exact ⟨j + 1, by omega, by go_num, RowI.app1 HO.out HDL.out (by rw [HS.out, HVN.out] <;> rfl), Below.grown ((below_drewN (HB.out.alloc (by omega) _) _).alloc (by simp; omega) _) HG.out (by simp; omega) (own_ge HO0.out)⟩
          case measure => simp [intOf]; omega
      by_cases o15 : op = 15
      · subst o15
        have hlen : args.length = 3 := by have := HN.out.len; simp only at this; have h15 : arV 15 = 3 := rfl; omega
        have hsel := typed_sel HN.out.typ rfl
        simp only at hsel
        have HR := Lib.hid HN.out.rng
        simp only at HR
        have hn0 : 0 < args.length := by omega
        have hn1 : 1 < args.length := by omega
        have hn2 : 2 < args.length := by omega
        have HN2 := Lib.hid hlen
        clear hlen
        obtain ⟨ab, ao, rfl, hab, hcs⟩ := HAV.out.row hn0
        have hr0 := HR.out 0 hn0
        obtain ⟨m0, hm0⟩ := Int.eq_ofNat_of_zero_le hr0.1
        have hj0 : m0 < j := by omega
        have hmt0 : m0 < ts.length := by omega
        have d0 := hcs 0 hn0
        rw [hm0] at d0
        rw [Nat.add_zero] at d0
        have hr1 := HR.out 1 hn1
        obtain ⟨m1, hm1⟩ := Int.eq_ofNat_of_zero_le hr1.1
        have hj1 : m1 < j := by omega
        have hmt1 : m1 < ts.length := by omega
        have d1 := hcs 1 hn1
        rw [hm1] at d1
        have hr2 := HR.out 2 hn2
        obtain ⟨m2, hm2⟩ := Int.eq_ofNat_of_zero_le hr2.1
        have hj2 : m2 < j := by omega
        have hmt2 : m2 < ts.length := by omega
        have d2 := hcs 2 hn2
        rw [hm2] at d2
        obtain ⟨rb, rq, rfl, hrb, hro⟩ := HRI.out.row (by rw [HDL.out]; omega)
        have y0 := hro m0 (by rw [HDL.out]; exact hj0)
        have b0 := HW.out m0 hj0
        have p0 := @pw_le32 (ts.getD m0 default).width (nodeOk HZ.out hmt0).wid.2
        have u0 : 0 ≤ acc.getD m0 0 := b0.1
        have v0 : acc.getD m0 0 ≤ 4294967295 := by omega
        have ij0 : (m0 : Int) < j := by omega
        have t0 : (m0 : Int) < ts.length := by omega
        have s0 : (0 : Int) < args.length := by omega
        have y1 := hro m1 (by rw [HDL.out]; exact hj1)
        have b1 := HW.out m1 hj1
        have p1 := @pw_le32 (ts.getD m1 default).width (nodeOk HZ.out hmt1).wid.2
        have u1 : 0 ≤ acc.getD m1 0 := b1.1
        have v1 : acc.getD m1 0 ≤ 4294967295 := by omega
        have ij1 : (m1 : Int) < j := by omega
        have t1 : (m1 : Int) < ts.length := by omega
        have s1 : (1 : Int) < args.length := by omega
        have y2 := hro m2 (by rw [HDL.out]; exact hj2)
        have b2 := HW.out m2 hj2
        have p2 := @pw_le32 (ts.getD m2 default).width (nodeOk HZ.out hmt2).wid.2
        have u2 : 0 ≤ acc.getD m2 0 := b2.1
        have v2 : acc.getD m2 0 ≤ 4294967295 := by omega
        have ij2 : (m2 : Int) < j := by omega
        have t2 : (m2 : Int) < ts.length := by omega
        have s2 : (2 : Int) < args.length := by omega
        clear hcs hro
        unfold wdt at hsel
        rw [hm0, Int.toNat_natCast] at hsel
        rw [hsel.1] at b0
        have HVN : Hid (vNode ts env acc ⟨15, width, flags, args, imm⟩ = acc.getD (args.getD (2 - acc.getD m0 0).toNat 0).toNat 0) := by
          show _ = _
          simp only [vNode, vArg, if_true, if_false, hm0, Int.toNat_natCast] <;> rfl
        have hp1 : pw 1 = 2 := rfl
        rw [hp1] at b0
        have h01 : acc.getD m0 0 = 0 ∨ acc.getD m0 0 = 1 := by omega
        clear hsel hp1 o0 o33 o14
        rcases h01 with h01 | h01
        · rw [h01] at y0 HVN
          have HVN2 : Hid (vNode ts env acc ⟨15, width, flags, args, imm⟩ = acc.getD m2 0) := by
            show _ = _
            rw [HVN.out, show ((2 : Int) - 0).toNat = 2 by decide, hm2]; rfl
          clear HVN h01
          have HVN := HVN2
          clear HVN2
          generalize acc.getD m0 0 = a0 at *
          generalize acc.getD m1 0 = a1 at *
          generalize acc.getD m2 0 = a2 at *
          clear hr0 b0 p0 hm0 hr1 b1 p1 hm1 hr2 b2 p2 hm2
          go_wp2_with fail
          have wI0 : IntKind.i64.wrap 0 = 0 := by decide
          have wI1 : IntKind.i64.wrap 1 = 1 := by decide
          have wI2 : IntKind.i64.wrap 2 = 2 := by decide
          go_quiet (fail)
          clear wI0 wI1 wI2
          go_wp2_with (at_builtin; refine wpList_append_own _ rfl _ _ 33 rfl (w.heap.size) 34 i0 (.int .u32 0) 1 4 Try.underlying33 hi0 hz0 hz1 hz2 rfl (by decide) _ _ _ rfl ((ownDr (HO0.out.alloc _) _).alloc _) ⟨_, 0, none⟩ 1 1 [.int .u32 (a2)] rfl rfl ?c1x5 ?c2x5 ?c3x5 ?c4x5 ?c5x5 ?_)
          case c1x5 =>
            intro i u h
            rcases i with _ | i
            · cases h; simp [go_sem, Addr.add]
            · cases h
          case c2x5 => simp [Value.oneCell']
          case c3x5 => unfold maxLen; omega
          case c4x5 => omega
          case c5x5 => first | omega | (simp; omega)
          intro v' w2 hown' hgrow _
          have HO := Lib.hid hown'
          have HG := Lib.hid hgrow
          clear hown' hgrow
          go_wp2_with fail
          go_roundw
          case rel => exact ⟨j + 1, by omega, by go_num, RowI.app1 HO.out HDL.out (by rw [HS.out, HVN.out] <;> rfl), Below.grown ((below_drewN (HB.out.alloc (by omega) _) _).alloc (by simp; omega) _) HG.out (by simp; omega) (own_ge HO0.out)⟩
          case measure => simp [intOf]; omega
        · rw [h01] at y0 HVN
          have HVN2 : Hid (vNode ts env acc ⟨15, width, flags, args, imm⟩ = acc.getD m1 0) := by
            show _ = _
            rw [HVN.out, show ((2 : Int) - 1).toNat = 1 by decide, hm1]; rfl
          clear HVN h01
          have HVN := HVN2
          clear HVN2
          generalize acc.getD m0 0 = a0 at *
          generalize acc.getD m1 0 = a1 at *
          generalize acc.getD m2 0 = a2 at *
          clear hr0 b0 p0 hm0 hr1 b1 p1 hm1 hr2 b2 p2 hm2
          go_wp2_with fail
          have wI0 : IntKind.i64.wrap 0 = 0 := by decide
          have wI1 : IntKind.i64.wrap 1 = 1 := by decide
          have wI2 : IntKind.i64.wrap 2 = 2 := by decide
          go_quiet (fail)
          clear wI0 wI1 wI2
          go_wp2_with (at_builtin; refine wpList_append_own _ rfl _ _ 33 rfl (w.heap.size) 34 i0 (.int .u32 0) 1 4 Try.underlying33 hi0 hz0 hz1 hz2 rfl (by decide) _ _ _ rfl ((ownDr (HO0.out.alloc _) _).alloc _) ⟨_, 0, none⟩ 1 1 [.int .u32 (a1)] rfl rfl ?c1x6 ?c2x6 ?c3x6 ?c4x6 ?c5x6 ?_)
          case c1x6 =>
            intro i u h
            rcases i with _ | i
            · cases h; simp [go_sem, Addr.add]
            · cases h
          case c2x6 => simp [Value.oneCell']
          case c3x6 => unfold maxLen; omega
          case c4x6 => omega
          case c5x6 => first | omega | (simp; omega)
          intro v' w2 hown' hgrow _
          have HO := Lib.hid hown'
          have HG := Lib.hid hgrow
          clear hown' hgrow
          go_wp2_with fail
          go_roundw
          case rel => exact ⟨j + 1, by omega, by go_num, RowI.app1 HO.out HDL.out (by rw [HS.out, HVN.out] <;> rfl), Below.grown ((below_drewN (HB.out.alloc (by omega) _) _).alloc (by simp; omega) _) HG.out (by simp; omega) (own_ge HO0.out)⟩
          case measure => simp [intOf]; omega
      by_cases o16 : 16 ≤ op
      · have hlen : args.length = 1 := by have := HN.out.len; have := HN.out.ar; simp only at *; rcases arV_cases op with h | h | h | h | h <;> omega
        have HR := Lib.hid HN.out.rng
        simp only at HR
        have hn0 : 0 < args.length := by omega
        have HN2 := Lib.hid hlen
        clear hlen
        obtain ⟨ab, ao, rfl, hab, hcs⟩ := HAV.out.row hn0
        have hr0 := HR.out 0 hn0
        obtain ⟨m0, hm0⟩ := Int.eq_ofNat_of_zero_le hr0.1
        have hj0 : m0 < j := by omega
        have hmt0 : m0 < ts.length := by omega
        have d0 := hcs 0 hn0
        rw [hm0] at d0
        rw [Nat.add_zero] at d0
        obtain ⟨rb, rq, rfl, hrb, hro⟩ := HRI.out.row (by rw [HDL.out]; omega)
        have y0 := hro m0 (by rw [HDL.out]; exact hj0)
        have b0 := HW.out m0 hj0
        have p0 := @pw_le32 (ts.getD m0 default).width (nodeOk HZ.out hmt0).wid.2
        have u0 : 0 ≤ acc.getD m0 0 := b0.1
        have v0 : acc.getD m0 0 ≤ 4294967295 := by omega
        have ij0 : (m0 : Int) < j := by omega
        have t0 : (m0 : Int) < ts.length := by omega
        have s0 : (0 : Int) < args.length := by omega
        obtain ⟨nb, nq, nc, nav, ne, _, hnb, _, _, w0, _⟩ := HT.out.at2 HB.out hmt0
        cases ne
        have hbr : b < wr.heap.size := by omega
        clear hcs hro
        have HVN : Hid (vNode ts env acc ⟨op, width, flags, args, imm⟩ = exX op (wdt ts args 0) width (acc.getD m0 0)) := by
          show _ = _
          simp only [vNode, vArg]
          rw [if_neg (by omega), if_neg (by omega), if_neg (by omega), if_neg (by omega), if_pos o16, hm0]; rfl
        generalize acc.getD m0 0 = a0 at *
        have hwd : wdt ts args 0 = (ts.getD m0 default).width := by unfold wdt; rw [hm0, Int.toNat_natCast]
        rw [← hwd] at w0
        clear hr0 b0 p0 hm0 hwd
        have z0 : (op == 0) = false := by simpa using o0
        have z33 : (op == 33) = false := by simpa using o33
        have z14 : (op == 14) = false := by simpa using o14
        have z15 : (op == 15) = false := by simpa using o15
        have z16 : decide (16 ≤ op) = true := by simpa using o16
        clear o0 o33 o14 o15 o16
        go_wp2_with fail
        go_quiet (first | (go_at_call 87; exact quiet_same (rExtend op (wdt ts args 0) width a0 u0 v0 _)))
        go_wp2_with (at_builtin; refine wpList_append_own _ rfl _ _ 33 rfl (w.heap.size) 34 i0 (.int .u32 0) 1 4 Try.underlying33 hi0 hz0 hz1 hz2 rfl (by decide) _ _ _ rfl ((ownDr (HO0.out.alloc _) _).alloc _) ⟨_, 0, none⟩ 1 1 [.int .u32 (exX op (wdt ts args 0) width a0)] rfl rfl ?c1x7 ?c2x7 ?c3x7 ?c4x7 ?c5x7 ?_)
        case c1x7 =>
          intro i u h
          rcases i with _ | i
          · cases h; simp [go_sem, Addr.add]
          · cases h
        case c2x7 => simp [Value.oneCell']
        case c3x7 => unfold maxLen; omega
        case c4x7 => omega
        case c5x7 => first | omega | (simp; omega)
        intro v' w2 hown' hgrow _
        have HO := Lib.hid hown'
        have HG := Lib.hid hgrow
        clear hown' hgrow
        go_wp2_with fail
        go_roundw
        case rel => exact ⟨j + 1, by omega, by go_num, RowI.app1 HO.out HDL.out (by rw [HS.out, HVN.out] <;> rfl), Below.grown ((below_drewN (HB.out.alloc (by omega) _) _).alloc (by simp; omega) _) HG.out (by simp; omega) (own_ge HO0.out)⟩
        case measure => simp [intOf]; omega
      have hlen : args.length = 2 := by have := HN.out.len; have := HN.out.ar; simp only at *; rcases arV_cases op with h | h | h | h | h <;> omega
      have HR := Lib.hid HN.out.rng
      simp only at HR
      have hn0 : 0 < args.length := by omega
      have hn1 : 1 < args.length := by omega
      have HN2 := Lib.hid hlen
      clear hlen
      obtain ⟨ab, ao, rfl, hab, hcs⟩ := HAV.out.row hn0
      have hr0 := HR.out 0 hn0
      obtain ⟨m0, hm0⟩ := Int.eq_ofNat_of_zero_le hr0.1
      have hj0 : m0 < j := by omega
      have hmt0 : m0 < ts.length := by omega
      have d0 := hcs 0 hn0
      rw [hm0] at d0
      rw [Nat.add_zero] at d0
      have hr1 := HR.out 1 hn1
      obtain ⟨m1, hm1⟩ := Int.eq_ofNat_of_zero_le hr1.1
      have hj1 : m1 < j := by omega
      have hmt1 : m1 < ts.length := by omega
      have d1 := hcs 1 hn1
      rw [hm1] at d1
      obtain ⟨rb, rq, rfl, hrb, hro⟩ := HRI.out.row (by rw [HDL.out]; omega)
      have y0 := hro m0 (by rw [HDL.out]; exact hj0)
      have b0 := HW.out m0 hj0
      have p0 := @pw_le32 (ts.getD m0 default).width (nodeOk HZ.out hmt0).wid.2
      have u0 : 0 ≤ acc.getD m0 0 := b0.1
      have v0 : acc.getD m0 0 ≤ 4294967295 := by omega
      have ij0 : (m0 : Int) < j := by omega
      have t0 : (m0 : Int) < ts.length := by omega
      have s0 : (0 : Int) < args.length := by omega
      have y1 := hro m1 (by rw [HDL.out]; exact hj1)
      have b1 := HW.out m1 hj1
      have p1 := @pw_le32 (ts.getD m1 default).width (nodeOk HZ.out hmt1).wid.2
      have u1 : 0 ≤ acc.getD m1 0 := b1.1
      have v1 : acc.getD m1 0 ≤ 4294967295 := by omega
      have ij1 : (m1 : Int) < j := by omega
      have t1 : (m1 : Int) < ts.length := by omega
      have s1 : (1 : Int) < args.length := by omega
      clear hcs hro
      have HVN : Hid (vNode ts env acc ⟨op, width, flags, args, imm⟩ = toX op width (acc.getD m0 0) (acc.getD m1 0)) := by
        show _ = _
        simp only [vNode, vArg]
        rw [if_neg (by omega), if_neg (by omega), if_neg (by omega), if_neg (by omega), if_neg (by omega), hm0, hm1]; rfl
      generalize acc.getD m0 0 = a0 at *
      generalize acc.getD m1 0 = a1 at *
      clear hr0 b0 p0 hm0 hr1 b1 p1 hm1
      have z0 : (op == 0) = false := by simpa using o0
      have z33 : (op == 33) = false := by simpa using o33
      have z14 : (op == 14) = false := by simpa using o14
      have z15 : (op == 15) = false := by simpa using o15
      have z16 : decide (16 ≤ op) = false := by simpa using o16
      clear o0 o33 o14 o15 o16
      go_wp2_with fail
      go_quiet (first | (go_at_call 88; exact Calls.quiet_of ((rTotal op width a0 a1 _ u0 v0 u1 v1).mono fun _ _ h => ⟨h.1, h.2⟩)))
      go_wp2_with (at_builtin; refine wpList_append_own _ rfl _ _ 33 rfl (w.heap.size) 34 i0 (.int .u32 0) 1 4 Try.underlying33 hi0 hz0 hz1 hz2 rfl (by decide) _ _ _ rfl ((ownDr (HO0.out.alloc _) _).alloc _) ⟨_, 0, none⟩ 1 1 [.int .u32 (toX op width a0 a1)] rfl rfl ?c1x8 ?c2x8 ?c3x8 ?c4x8 ?c5x8 ?_)
      case c1x8 =>
        intro i u h
        rcases i with _ | i
        · cases h; simp [go_sem, Addr.add]
        · cases h
      case c2x8 => simp [Value.oneCell']
      case c3x8 => unfold maxLen; omega
      case c4x8 => omega
      case c5x8 => first | omega | (simp; omega)
      intro v' w2 hown' hgrow _
      have HO := Lib.hid hown'
      have HG := Lib.hid hgrow
      clear hown' hgrow
      go_wp2_with fail
      go_roundw
      case rel => exact ⟨j + 1, by omega, by go_num, RowI.app1 HO.out HDL.out (by rw [HS.out, HVN.out] <;> rfl), Below.grown ((below_drewN (HB.out.alloc (by omega) _) _).alloc (by simp; omega) _) HG.out (by simp; omega) (own_ge HO0.out)⟩
      case measure => simp [intOf]; omega
    · obtain rfl : j = ts.length := by omega
      rw [List.take_length] at hrow hdl
      have HO2 := Lib.hid (And.intro hrow hdl)
      clear hrow hdl hb
      go_wp2_with fail
      go_ret
      exact ⟨_, rfl, HO2.out.1.ints (by rw [HO2.out.2]; omega), HB.out⟩

end Go.Proofs.Ythopdfikikdcbaa
