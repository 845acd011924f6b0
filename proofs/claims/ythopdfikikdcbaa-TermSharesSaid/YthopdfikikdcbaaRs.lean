/- Walk of Shared of the answer: the nodes that lead to a node, by a stack. -/
import Derived.Test.YthopdfikikdcbaaRm
import Derived.Deep.LoopGhost
import Derived.Deep.RegionLaw
import Derived.Deep.AppendLies
import Derived.Deep.DeepMust
namespace Go.Proofs.Ythopdfikikdcbaa
open Go.RowKit Go.Maps Wd
set_option linter.unusedVariables false
set_option linter.unusedSimpArgs false
set_option maxRecDepth 100000 in
set_option maxHeartbeats 4000000 in
theorem rShared (ts : List Nd) (tv : Value) (w : World) (k : Nat) (hts : Nds w tv ts) (hd : Down ts) (hk : k < ts.length) (hl : ts.length ≤ 100000) (hn : ∀ k, k < ts.length → (nd ts k).args.length ≤ 1000) :
    Calls Try.prog 54 #[tv, .int .i64 (k : Int)] w fun e w' => ∃ v, e = .returned v ∧ Nds w' v (shr ts k) ∧ Below w.heap.size w w' := by
  have HT := Lib.hid hts
  have HD := Lib.hid hd
  have HN := Lib.hid hn
  have HSR := Lib.hid (fun t => stk_run hd hk t)
  obtain ⟨T0, hT1, hT2⟩ := shared_end hd hk
  have HT1 := Lib.hid hT1
  have HT2 := Lib.hid hT2
  obtain ⟨ta, tc, rfl, ht1, ht2⟩ := hts.shape
  clear hts hd hn hT1 hT2
  obtain ⟨i0, hi0, hz0, hz1, hz2⟩ := info_parts info_int
  obtain ⟨n0, hn0, hy0, hy1, hy2⟩ := info_parts info_node
  go_enter Try.func54, Try.ntmps54
  go_wp2_with (at_make; refine wpList_make_full _ rfl _ _ 25 rfl (w.heap.size) 3 i0 (.int .i64 0) 1 Try.underlying25 hi0 hz0 hz1 .i64 .i64 _ _ ts.length rfl rfl rfl rfl ?d1 ?d2 ?d3 ?_)
  case d1 => rw [hz2]; omega
  case d2 => unfold maxLen; omega
  case d3 => exact Nat.le_refl _
  intro w2 hown hgr
  have hO : OInts .i64 w2 w.heap.size (List.replicate 0 (-1) ++ List.replicate (ts.length - 0) 0) := (OInts.made hown : OInts .i64 w2 w.heap.size (List.replicate ts.length 0))
  have hb2 := below_made hgr
  have HO := Lib.hid hO
  have HB2 := Lib.hid hb2
  clear hown hgr hO hb2
  go_wp2_with fail
  go_loopw [7] (fun i wr => ∃ j : Nat, j ≤ ts.length ∧ i = .int .i64 j ∧ OInts .i64 wr w.heap.size (List.replicate j (-1) ++ List.replicate (ts.length - j) 0) ∧ Below w.heap.size w wr) (fun i _ => ts.length - (intOf i).toNat)
  case atStart => exact ⟨0, Nat.zero_le _, rfl, HO.out, HB2.out⟩
  case round =>
    obtain ⟨j, hj, rfl, ho, hb⟩ := hrel
    by_cases hlt : j < ts.length
    · have hlen : (List.replicate j (-1 : Int) ++ List.replicate (ts.length - j) 0).length = ts.length := by simp; omega
      have hjl : j < (List.replicate j (-1 : Int) ++ List.replicate (ts.length - j) 0).length := by omega
      have d0 := ho.cell hjl
      have d1 := ho.free hjl
      have HO1 := Lib.hid ho
      have HB1 := Lib.hid hb
      have HS1 : Hid ((List.replicate j (-1 : Int) ++ List.replicate (ts.length - j) 0).set j (-1) = List.replicate (j + 1) (-1) ++ List.replicate (ts.length - (j + 1)) 0) := by
        show _ = _
        rw [List.set_append_right _ _ (by simp), List.length_replicate, Nat.sub_self, show ts.length - j = (ts.length - (j + 1)) + 1 by omega, List.replicate_succ, List.set_cons_zero, List.replicate_succ', List.append_assoc]
        rfl
      have HJL := Lib.hid hjl
      clear ho hb hlen hjl
      generalize (List.replicate j (-1 : Int) ++ List.replicate (ts.length - j) 0) = L at *
      generalize L.getD j 0 = y at d0
      go_wp2_with fail
      go_roundw
      case rel => exact ⟨j + 1, by omega, by go_num, by rw [← HS1.out]; exact HO1.out.set HJL.out (-1), below_at HB1.out (Nat.le_refl _) _ _⟩
      case measure => simp [intOf]; omega
    · obtain rfl : j = ts.length := by omega
      have ho2 : OInts .i64 wr w.heap.size (st0 ts).nos := by
        rw [Nat.sub_self] at ho
        simpa [st0] using ho
      have HO2 := Lib.hid ho2
      have HB1 := Lib.hid hb
      have hAs := ho2.1
      clear ho ho2 hb
      go_wp2_with fail
      go_loopg [5, 8] T0 (fun g nv0 sv0 wx => ∃ (t : Nat) (nv sv : Value), nv = nv0 ∧ sv = sv0 ∧ t + g = T0 ∧ Hid (ShR w (runS ts t ([k], st0 ts)).1 (runS ts t ([k], st0 ts)).2 nv sv wx))
      case atStart =>
        refine ⟨0, _, _, rfl, rfl, by omega, ?_⟩
        exact {
          at_ := HO2.out.alloc _
          stk := ⟨by simp [stkL, runS], .inr ⟨wr.heap.size, 1, #[.int .i64 k], rfl, by omega, Array.getElem?_push_size, Nat.le_refl _, by unfold maxLen; omega, rfl, by simp [stkL, runS]⟩⟩
          out := ⟨_, _, OSt.nil _ _, fun h => h, fun b _ h => h⟩
          nA := by simp [Value.ownBlock]
          sA := by simp [Value.ownBlock]; omega
          ns := by simp [Value.ownBlock]
          bel := HB1.out.alloc (by omega) _ }
      case round =>
        obtain ⟨t, nv, sv, rfl, rfl, htg, hM⟩ := hrel
        obtain ⟨wo, rfl⟩ : ∃ wo : World, wo = wr := ⟨_, rfl⟩
        have hok := HSR.out t
        have HNX := Lib.hid (runS_add ts t 1 ([k], st0 ts))
        have HEND : Hid ((runS ts t ([k], st0 ts)).1 = [] → t = T0) := fun h => by
          by_cases e : t < T0
          · exact absurd h (HT1.out t e)
          · omega
        have HLAST : Hid (t = T0 → (runS ts t ([k], st0 ts)).1 = []) := fun h => by
          rw [h, HT2.out]
        generalize hrun : runS ts t ([k], st0 ts) = c at *
        have HRUN := Lib.hid hrun
        clear hrun
        obtain ⟨st, s⟩ := c
        simp only at hok
        have HOK := Lib.hid hok
        clear hok
        replace hM : Hid (ShR w st s nv sv wo) := hM
        cases st with
        | nil =>
          have htT := HEND.out rfl
          obtain ⟨sa, sc, hsv⟩ := hM.out.stk.shape
          rw [show (stkL []).length = 0 from rfl] at hsv
          subst hsv
          have hg0 : Hid (t = T0) := htT
          clear htT
          go_wp2_with fail
          go_ret
          obtain ⟨R, avs, ho, _, _⟩ := hM.out.out
          have hsz := HOK.out.sz
          have hsl := cnt_le s.nos
          have hln := HOK.out.len
          refine ⟨nv, rfl, ?_, hM.out.bel⟩
          have e1 := HRUN.out
          rw [hg0.out, HT2.out] at e1
          have e2 : vis ts k (st0 ts) = s := congrArg Prod.snd e1
          show Nds wo nv (vis ts k (st0 ts)).out
          rw [e2]
          exact ho.nds (by omega)
        | cons n rest =>
          have htl : t < T0 := by
            by_cases e : t = T0
            · have := HLAST.out e; cases this
            · omega
          clear HLAST HEND
          have hnl := HOK.out.lt n (List.mem_cons_self ..)
          obtain ⟨sa, sc, hsv⟩ := hM.out.stk.shape
          rw [stkL_len, List.length_cons] at hsv
          subst hsv
          have hsh := HOK.out.short
          rw [List.length_cons] at hsh
          have hrl : rest.length ≤ 100000 := by omega
          obtain ⟨sb, q0, sc', e', hsc, hsbl, dtop⟩ := (hM.out.stk.ints (by rw [stkL_len, List.length_cons]; omega)).at (j := rest.length) (by rw [stkL_len, List.length_cons]; omega)
          rw [stkL_len, List.length_cons] at e'
          cases e'
          have hform : q0 = 0 := by
            obtain ⟨_, ⟨e9, _⟩ | ⟨g9, cap9, cur9, e9, _⟩⟩ := hM.out.stk
            · simp at e9
            · simp at e9; exact e9.1.2
          subst hform
          rw [Nat.zero_add, stkL_cons, List.getD_eq_getElem?_getD, List.getElem?_append_right (by rw [stkL_len]; exact Nat.le_refl _), stkL_len, Nat.sub_self] at dtop
          rw [show ([(n : Int)][0]?).getD 0 = (n : Int) from rfl] at dtop
          rw [stkL_len, List.length_cons] at hsc
          obtain ⟨b, q, c', av, e', _, hbq, hav, c0, c1, c2, c3, c4⟩ := HT.out.at2 hM.out.bel hnl
          cases e'
          have HX : Hid (nd ts n = ts.getD n default) := rfl
          have HDA := Lib.hid (HD.out n hnl)
          have hn20 := HN.out n hnl
          rw [HX.out] at hn20
          generalize ts.getD n default = x at *
          obtain ⟨op, width, flags, args, imm⟩ := x
          simp only at hav c0 c1 c2 c3 c4 hn20
          have HAV := Lib.hid (hav.stays hM.out.bel)
          obtain ⟨aa, ac, rfl, ha1, ha2⟩ := hav.shape
          have hbs := hM.out.bel.size
          have hAs := hM.out.at_.1
          have hnos : s.nos.length = ts.length := HOK.out.len
          have HNOS := Lib.hid hnos
          have HROWA := Lib.hid (fun h0 => HAV.out.row h0)
          clear hav hnos
          go_wp2_with fail
          go_loop [11, 12] (fun mv iv => ∃ (c : Nat) (i1 : Int), iv = .int .i64 i1 ∧ Hid (i1 = (c : Int) - 1) ∧ c ≤ args.length ∧ mv = .int .i64 (misN s (args.drop c))) (fun mv iv => (intOf iv + 1).toNat)
          case atStart => exact ⟨args.length, _, rfl, rfl, Nat.le_refl _, by rw [List.drop_length]; rfl⟩
          case round =>
            obtain ⟨c, i1, rfl, hi1, hc, rfl⟩ := hrel
            by_cases hc0 : 0 < c
            · obtain ⟨c, rfl⟩ : ∃ c', c = c' + 1 := ⟨c - 1, by omega⟩
              obtain rfl : i1 = (c : Int) := by have := hi1.out; omega
              have hcl : c < args.length := hc
              obtain ⟨ab, ao, rfl, hab, hcs⟩ := HROWA.out (by omega)
              have d0 := hcs c hcl
              have hak := HDA.out (args.getD c 0) (by rw [HX.out]; exact mem_getD hcl)
              have HMS := Lib.hid (misN_drop s args c hcl)
              clear hcs
              generalize args.getD c 0 = y at *
              obtain ⟨m, rfl⟩ := Int.eq_ofNat_of_zero_le hak.1
              have hml : m < s.nos.length := by have := HNOS.out; omega
              have e0 := hM.out.at_.cell hml
              have HZ : Hid (gno s.nos m = s.nos.getD m 0) := by
                show gno s.nos m = _
                unfold gno; rw [List.getD_eq_getElem?_getD, List.getD_eq_getElem?_getD, List.getElem?_eq_getElem hml]; rfl
              generalize s.nos.getD m 0 = z at *
              generalize misN s (args.drop (c + 1)) = mm at *
              cases hz : decide (z < 0)
              · have HZ0 := Lib.hid (of_decide_eq_false hz)
                clear hml
                go_wp2_with fail
                go_round
                case rel => exact ⟨c, (c : Int) - 1, by go_num, rfl, by omega, by
                  have h := HMS.out
                  rw [Int.toNat_natCast, HZ.out, if_neg HZ0.out] at h
                  rw [h]⟩
                case measure => simp [intOf] <;> omega
              · have HZ0 := Lib.hid (of_decide_eq_true hz)
                clear hml
                go_wp2_with fail
                go_round
                case rel => exact ⟨c, (c : Int) - 1, by go_num, rfl, by omega, by
                  have h := HMS.out
                  rw [Int.toNat_natCast, HZ.out, if_pos HZ0.out] at h
                  rw [h]⟩
                case measure => simp [intOf] <;> omega
            · obtain rfl : c = 0 := by omega
              obtain rfl : i1 = -1 := by have := hi1.out; omega
              clear hi1 hc0
              have HMI : Hid (misN s (args.drop 0) = misN s args) := rfl
              generalize misN s (args.drop 0) = mi at *
              cases hmis : missing s args with
              | some a =>
                have HMIS := Lib.hid hmis
                have HMEM := Lib.hid (missing_mem hmis).1
                have ham := HDA.out a (by rw [HX.out]; exact (missing_mem hmis).1)
                obtain rfl : mi = a := by rw [HMI.out]; exact misN_some hmis
                obtain ⟨m, rfl⟩ := Int.eq_ofNat_of_zero_le ham.1
                clear hmis
                have HR1 : Hid ((wo.alloc (.cells #[.int .i64 op, .int .i64 width, .int .i64 flags, .slice aa args.length ac, .int .u32 imm] 47)).ownsRow w.heap.size 3 1 (.slice (some ⟨sb, 0, none⟩) (rest.length + 1) sc) (rest.length + 1) ((stkL (n :: rest)).map (Value.int .i64))) := by
                  have h9 := RowI.below hM.out.stk ((Below.refl _ _).alloc (Nat.le_refl _) (.cells #[.int .i64 op, .int .i64 width, .int .i64 flags, .slice aa args.length ac, .int .u32 imm] 47))
                  unfold RowI at h9
                  rw [stkL_len, List.length_cons] at h9
                  exact h9
                go_wp2_with (at_builtin; go_must (refine wpList_append_own_at _ rfl _ _ 25 rfl w.heap.size 3 i0 (.int .i64 0) 1 8 Try.underlying25 hi0 hz0 hz1 hz2 rfl (by decide) _ _ _ rfl (HR1.out.alloc _) ⟨wo.heap.size + 1, 0, none⟩ 1 1 [.int .i64 m] rfl rfl ?p1x1 ?p2x1 ?p3x1 ?p4x1 ?p5x1 ?_))
                try case p1x1 =>
                  intro i u h
                  rcases i with _ | i
                  · cases h; simp [go_sem, Addr.add]
                  · cases h
                try case p2x1 => simp [Value.oneCell']
                try case p3x1 => unfold maxLen; omega
                try case p4x1 => omega
                try case p5x1 => first | omega | (simp; done) | (simp; omega)
                intro v' w3 hown' hgrow _ hat
                have HOW := Lib.hid hown'
                have HGR := Lib.hid hgrow
                have HAT := Lib.hid hat
                clear hown' hgrow hat
                go_wp2_with fail
                go_roundg (gk - 1)
                case measure => omega
                case rel =>
                  refine ⟨t + 1, _, _, rfl, rfl, by omega, ?_⟩
                  have e1 := HNX.out
                  rw [runS_one, stp_some (a := (m : Int)) (by rw [HX.out]; exact HMIS.out), Int.toNat_natCast] at e1
                  rw [e1]
                  refine hM.out.push (Chg.trans (Chg.of_below (((Below.refl _ _).alloc (Nat.le_refl _) _).alloc (by simp) _)) (Chg.of_grown HGR.out (fun k hk => hk)) (fun _ _ h => h)) ?_ (HAT.out.elim .inl fun h => .inr ⟨_, h, by first | omega | (simp; done) | (simp; omega)⟩)
                  rw [stkL_cons]
                  exact RowI.app1 HOW.out (by rw [stkL_len, List.length_cons]) rfl
              | none =>
                have HMIS := Lib.hid hmis
                obtain rfl : mi = -1 := by rw [HMI.out]; exact misN_none hmis
                clear hmis
                go_wp2_with fail
                go_loopw [14] (fun iv wx => ∃ (j : Nat) (v : Value), iv = .int .i64 j ∧ j ≤ args.length ∧ YAt wx (wo.heap.size + 1) op width flags imm v ∧ RowI wx (wo.heap.size + 2) 3 .i64 v ((args.take j).map fun a => gno s.nos a.toNat) ∧ Chg (fun b => b = wo.heap.size + 1) ((wo.alloc (.cells #[.int .i64 op, .int .i64 width, .int .i64 flags, .slice aa args.length ac, .int .u32 imm] 47)).alloc (.cells #[.int .i64 op, .int .i64 width, .int .i64 flags, .slice none 0 0, .int .u32 imm] 47)) wx) (fun iv _ => args.length - (intOf iv).toNat)
                case atStart =>
                  refine ⟨0, _, rfl, Nat.zero_le _, ⟨by simp [go_sem], by simp [go_sem], by simp [go_sem], by simp [go_sem], by simp [go_sem], by simp [go_sem]⟩, RowI.nil _ _ _ _, Chg.refl _ _⟩
                case round =>
                  obtain ⟨j, v, rfl, hj, hY, hrow, hcg⟩ := hrel
                  have hz2s := hcg.size
                  simp only [World.size_alloc] at hz2s
                  have hcw : Chg (fun _ => False) wo wr := (Chg.of_below (((Below.refl _ _).alloc (Nat.le_refl _) _).alloc (by simp) _)).trans hcg (fun k hk h => by omega)
                  have q3 : wr.cell? ⟨wo.heap.size, 3, none⟩ = some (.slice aa args.length ac) := hcg.cell (by omega) (by simp [go_sem])
                  have q0 : wr.cell? ⟨wo.heap.size, 0, none⟩ = some (.int .i64 op) := hcg.cell (by omega) (by simp [go_sem])
                  have hAt := hM.out.at_.chg hcw (fun h => h)
                  by_cases hlt : j < args.length
                  · obtain ⟨ab, ao, rfl, hab, hcs⟩ := HROWA.out (by omega)
                    have q1 := hcw.cell (fun h => h) (hcs j hlt)
                    have hak := HDA.out (args.getD j 0) (by rw [HX.out]; exact mem_getD hlt)
                    have HMT := Lib.hid (map_take_succ (fun a => gno s.nos a.toNat) args j hlt)
                    have HLT := Lib.hid (show ((args.take j).map fun a => gno s.nos a.toNat).length = j by rw [List.length_map, List.length_take, Nat.min_eq_left hj])
                    clear hcs
                    generalize args.getD j 0 = y at *
                    obtain ⟨m, rfl⟩ := Int.eq_ofNat_of_zero_le hak.1
                    have hml : m < s.nos.length := by have := HNOS.out; omega
                    have q2 := hAt.cell hml
                    have HZ := Lib.hid (gno_getD hml)
                    have hm1 : m < ts.length := by omega
                    have hm2 : (m : Int) < ts.length := by omega
                    have hj2 : (j : Int) < args.length := by omega
                    obtain ⟨va, vc, rfl⟩ := hrow.shape
                    rw [HLT.out] at hY hrow
                    have q4 := hY.c3
                    have q5 := hY.f3
                    have HROW : Hid (wr.ownsRow (wo.heap.size + 2) 3 1 (.slice va j vc) j (((args.take j).map fun a => gno s.nos a.toNat).map (Value.int .i64))) := by
                      unfold RowI at hrow
                      rw [HLT.out] at hrow
                      exact hrow
                    have hnb : some (wo.heap.size + 1) ≠ (Value.slice va j vc).ownBlock := fun e => by have := own_ge hrow _ e.symm; omega
                    have HY := Lib.hid hY
                    have HRW := Lib.hid hrow
                    have HCG := Lib.hid hcg
                    clear hml hAt hcw hY hrow hcg
                    generalize s.nos.getD m 0 = z at *
                    generalize ((args.take j).map fun a => gno s.nos a.toNat) = gl at *
                    go_wp2_with fail
                    have hfz : ∀ ob, (wr.alloc ob).frozen? ⟨wo.heap.size + 1, 3, none⟩ = false := fun ob => by rw [← q5]; exact ((Below.refl _ _).alloc (Nat.le_refl _) ob).frozen (p := ⟨wo.heap.size + 1, 3, none⟩) (by simp; omega)
                    have hcz : ∀ ob, (wr.alloc ob).drew.cell? ⟨wo.heap.size + 1, 3, none⟩ = some (.slice va j vc) := fun ob => below_cell (B := wr.heap.size) (((Below.refl _ _).alloc (Nat.le_refl _) ob).drew) (by omega) q4
                    have hfz2 : ∀ ob, (wr.alloc ob).drew.frozen? ⟨wo.heap.size + 1, 3, none⟩ = false := hfz
                    go_region_law ((refine step_append_lies _ (by rfl) _ _ _ (by rfl) (wo.heap.size + 2) 3 i0 _ 1 8 Try.underlying25 hi0 hz0 hz1 hz2 rfl (by omega) (.slice va j vc) j (gl.map (Value.int .i64)) (by rfl) (((HROW.out).alloc _).drew) ⟨wr.heap.size, 0, none⟩ 1 1 [.int .i64 z] (by rfl) (by rfl) (World.news_of_block (cs := #[.int .i64 z]) (t := 3) (fr := (0, 0)) (heap_alloc_new wr _)) (by simp [Value.oneCell']) (by omega) (by unfold maxLen; omega) (by omega) (by simp; omega) (wr.heap.size + 1) (by simp) ?_; intro gg cap w1 hown1 hgrow hat hlt2; have G0 := (hgrow.cell_far ⟨wo.heap.size + 1, 3, none⟩ (by simp; omega) hnb).trans (hcz _); have G1 := (hgrow.frozen_far ⟨wo.heap.size + 1, 3, none⟩ (by simp; omega) hnb).trans (hfz2 _)))
                    all_goals
                      clear hfz hfz2 hcz
                      go_wp2_with fail
                      go_roundw
                      case rel =>
                        obtain ⟨r1, r2, r3⟩ := HY.out.next HRW.out HCG.out (by omega) (by simp) hgrow hown1 HLT.out
                        rw [Int.toNat_natCast, HZ.out] at HMT
                        exact ⟨j + 1, _, by go_num, by omega, r1, by rw [HMT.out]; exact r2, r3⟩
                      case measure => simp [intOf] <;> omega
                  · obtain rfl : j = args.length := by omega
                    obtain ⟨w5, rfl⟩ : ∃ w5 : World, w5 = wr := ⟨_, rfl⟩
                    have HYN : Hid (mapN s (nd ts n) = ⟨op, width, flags, args.map fun a => gno s.nos a.toNat, imm⟩) := by
                      show _ = _
                      rw [HX.out]; rfl
                    rw [List.take_length] at hrow
                    have HCW := Lib.hid hcw
                    have HRW := Lib.hid hrow
                    have HY := Lib.hid hY
                    have hmz : (args.map fun a => gno s.nos a.toNat).length ≤ 1000 := by rw [List.length_map]; exact hn20
                    generalize (args.map fun a => gno s.nos a.toNat) = yl at *
                    obtain ⟨va, vc, rfl⟩ := hrow.shape
                    have h5s := hcw.size
                    obtain ⟨R, avs, hos, hRA, hsR⟩ := hM.out.out
                    have HOSW := Lib.hid hos
                    have HOS5 := Lib.hid (hos.chg hcw (fun _ _ h => h) (fun _ _ h => h))
                    have HRA := Lib.hid hRA
                    have HSR2 := Lib.hid hsR
                    obtain ⟨na, nc, rfl⟩ := own_shape hos.row
                    have hln := HOK.out.len
                    have hsz5 := HOK.out.sz
                    have hcl5 := cnt_le s.nos
                    have hso : s.out.length ≤ 100000 := by omega
                    have hun := HOK.out.un n (List.mem_cons_self ..)
                    have hnl2 : (n : Int) < ts.length := by omega
                    have HATF := Lib.hid (fun i hi => hAt.cell (i := i) hi)
                    have HAT5 := Lib.hid hAt
                    have HUN := Lib.hid hun
                    have HLN := Lib.hid hln
                    clear hcg hz2s q0 hAt hcw hY hrow hos hRA hsR hln hsz5 hcl5 hun
                    go_wp2_with fail
                    go_loopw [15] (fun iv wx => ∃ (j : Nat) (nos' : List Int), iv = .int .i64 j ∧ j ≤ s.out.length ∧ Hid (Fnd s.out ⟨op, width, flags, yl, imm⟩ n s.nos j nos') ∧ Hid (nos'.length = ts.length) ∧ OInts .i64 wx w.heap.size nos' ∧ Chg (fun b => b = w.heap.size) w5 wx) (fun iv _ => s.out.length - (intOf iv).toNat)
                    case atStart => exact ⟨0, s.nos, rfl, Nat.zero_le _, .inl ⟨rfl, fun k hk => absurd hk (by omega)⟩, HLN.out, HAT5.out, Chg.refl _ _⟩
                    case round =>
                      obtain ⟨j, nos', rfl, hj, hF, HL', ho', hc'⟩ := hrel
                      have hnn : n < nos'.length := by rw [HL'.out]; exact hnl
                      have q2 := ho'.cell hnn
                      have q2f := ho'.free hnn
                      have HZ := Lib.hid (gno_getD hnn)
                      have hcs5 := hc'.size
                      have hYr := HY.out.chg hc' (by omega)
                      have hos := HOS5.out.chg hc' (fun b hb e => by subst e; exact hM.out.nA hb) (fun b hb e => by subst e; exact HRA.out hb)
                      have y0 := hYr.c0
                      have y1 := hYr.c1
                      have y2 := hYr.c2
                      have y3 := hYr.c3
                      have y4 := hYr.c4
                      have HO' := Lib.hid ho'
                      have HC' := Lib.hid hc'
                      have HOSR := Lib.hid hos
                      have HRWR := Lib.hid (HRW.out.chg hc' (fun b hb e => by have := own_ge HRW.out b hb; omega))
                      clear hnn ho' hc' hYr hos
                      rcases hF.out with ⟨e9, hall⟩ | ⟨e9, hmem⟩
                      · subst e9
                        have HALL := Lib.hid hall
                        have hzn : s.nos.getD n 0 < 0 := by rw [← HZ.out]; exact HUN.out
                        clear hall
                        generalize s.nos.getD n 0 = z at *
                        by_cases hlt : j < s.out.length
                        · have hj2 : (j : Int) < s.out.length := by omega
                          have hj3 : (0 : Int) ≤ j := by omega
                          obtain ⟨b5, q5, c5, av5, e', _, hbq5, hav5, d0, d1, d2, d3, d4⟩ := (HOSR.out.nds hso).at2 (Below.refl _ _) hlt
                          cases e'
                          have HXX := Lib.hid (show ∀ P : Nd → Prop, P (s.out.getD j default) → P (s.out.getD j default) from fun _ h => h)
                          generalize hx5 : s.out.getD j default = x5 at *
                          have HX5 := Lib.hid hx5
                          clear hx5 HXX
                          obtain ⟨op', width', flags', args', imm'⟩ := x5
                          simp only at hav5 d0 d1 d2 d3 d4
                          have HAV5 := Lib.hid hav5
                          clear hav5
                          have HIY := Lib.hid (HRWR.out.ints (by omega))
                          have h00 := Since.refl wr
                          have r0 : ∀ wk, Since wr wk → wk.cell? ⟨b5, q5 + j * 5, none⟩ = some (.int .i64 op') := fun wk h => h.cell d0
                          have r1 : ∀ wk, Since wr wk → wk.cell? ⟨b5, q5 + j * 5 + 1, none⟩ = some (.int .i64 width') := fun wk h => h.cell d1
                          have r2 : ∀ wk, Since wr wk → wk.cell? ⟨b5, q5 + j * 5 + 2, none⟩ = some (.int .i64 flags') := fun wk h => h.cell d2
                          have r3 : ∀ wk, Since wr wk → wk.cell? ⟨b5, q5 + j * 5 + 3, none⟩ = some av5 := fun wk h => h.cell d3
                          have r4 : ∀ wk, Since wr wk → wk.cell? ⟨b5, q5 + j * 5 + 4, none⟩ = some (.int .u32 imm') := fun wk h => h.cell d4
                          have s0 : ∀ wk, Since wr wk → wk.cell? ⟨wo.heap.size + 1, 0, none⟩ = some (.int .i64 op) := fun wk h => h.cell y0
                          have s1 : ∀ wk, Since wr wk → wk.cell? ⟨wo.heap.size + 1, 1, none⟩ = some (.int .i64 width) := fun wk h => h.cell y1
                          have s2 : ∀ wk, Since wr wk → wk.cell? ⟨wo.heap.size + 1, 2, none⟩ = some (.int .i64 flags) := fun wk h => h.cell y2
                          have s3 : ∀ wk, Since wr wk → wk.cell? ⟨wo.heap.size + 1, 3, none⟩ = some (.slice va yl.length vc) := fun wk h => h.cell y3
                          have s4 : ∀ wk, Since wr wk → wk.cell? ⟨wo.heap.size + 1, 4, none⟩ = some (.int .u32 imm) := fun wk h => h.cell y4
                          have t0 : ∀ wk, Since wr wk → wk.cell? ⟨w.heap.size, n, none⟩ = some (.int .i64 z) := fun wk h => h.cell q2
                          have hAr := HO'.out.1
                          have t1 : ∀ wk, Since wr wk → wk.frozen? ⟨w.heap.size, n, none⟩ = false := fun wk h => h.free hAr q2f
                          clear d0 d1 d2 d3 d4 y0 y1 y2 y3 y4
                          have HC : Hid (∀ wk, Since wr wk → Calls Try.prog 55 #[.agg #[.int .i64 op', .int .i64 width', .int .i64 flags', av5, .int .u32 imm'], .agg #[.int .i64 op, .int .i64 width, .int .i64 flags, .slice va yl.length vc, .int .u32 imm]] wk fun e w' => e = .returned (.bool (decide ((⟨op', width', flags', args', imm'⟩ : Nd) = ⟨op, width, flags, yl, imm⟩))) ∧ Below wk.heap.size wk w') :=
                            fun wk h => rSameNode ⟨op', width', flags', args', imm'⟩ ⟨op, width, flags, yl, imm⟩ av5 (.slice va yl.length vc) wk (HAV5.out.stays h) (HIY.out.stays h)
                          generalize hz : decide ((⟨op', width', flags', args', imm'⟩ : Nd) = ⟨op, width, flags, yl, imm⟩) = zb at *
                          have HZB := Lib.hid hz
                          clear hz
                          go_wp2_with fail
                          go_region_held3 (fun wk => Since wr wk) (first | assumption | exact Since.drew (by assumption) | exact Since.next (by assumption) (by assumption)) (first | (go_at_call 55; (with_reducible refine (HC.out _ (by assumption)).mono ?_); rintro e w' ⟨rfl, hb⟩))
                          clear r0 r1 r2 r3 r4 s0 s1 s2 s3 s4 h00
                          cases zb
                          · clear t0 t1
                            go_wp2_with fail
                            go_roundw
                            case rel => exact ⟨j + 1, s.nos, by go_num, by omega, .inl ⟨rfl, fun k hk => by
                              by_cases e : k = j
                              · subst e; rw [HX5.out]; exact of_decide_eq_false HZB.out
                              · exact HALL.out k (by omega)⟩, HL'.out, HO'.out.below (show Since wr _ by assumption), HC'.out.trans (Chg.of_below (T := fun _ => False) (show Since wr _ by assumption)) (fun _ _ h => h.elim)⟩
                            case measure => simp [intOf] <;> omega
                          · go_wp2_with fail
                            go_roundw
                            case rel =>
                              have hi := idxOf_first hlt HALL.out (by rw [HX5.out]; exact of_decide_eq_true HZB.out)
                              refine ⟨j + 1, s.nos.set n (j : Int), by go_num, by omega, .inr ⟨by rw [hi.2], hi.1⟩, by show (s.nos.set n _).length = _; rw [List.length_set]; exact HL'.out, ?_, ?_⟩
                              · exact (HO'.out.below (show Since wr _ by assumption)).set (by rw [HL'.out]; exact hnl) _
                              · exact (HC'.out.trans (Chg.of_below (T := fun _ => False) (show Since wr _ by assumption)) (fun _ _ h => h.elim)).setCell rfl _
                            case measure => simp [intOf] <;> omega
                        · obtain rfl : j = s.out.length := by omega
                          have HNM := Lib.hid (not_mem_of HALL.out)
                          have hAr := HO'.out.1
                          have hset : Chg (fun b => b = w.heap.size) wr (wr.setCell ⟨w.heap.size, n, none⟩ (.int .i64 (s.out.length : Int))) := (Chg.refl (fun b => b = w.heap.size) wr).setCell (b := w.heap.size) rfl _
                          have hos6 := HOSR.out.chg hset (fun b hb e => by subst e; exact hM.out.nA hb) (fun b hb e => by subst e; exact HRA.out hb)
                          have HOS6 := Lib.hid hos6
                          have HROW : Hid ((wr.setCell ⟨w.heap.size, n, none⟩ (.int .i64 (s.out.length : Int))).ownsRow w.heap.size 47 5 (.slice na s.out.length nc) s.out.length (rowsC s.out avs)) := hos6.row
                          have HRW6 := Lib.hid (HRWR.out.chg hset (fun b hb e => by have := own_ge HRW.out b hb; omega))
                          have HSET := Lib.hid hset
                          have hne : ¬ wo.heap.size + 1 = w.heap.size := by omega
                          clear hset hos6
                          go_wp2_with (at_builtin; go_must (refine wpList_append_own_at _ rfl _ _ 22 rfl w.heap.size 47 n0 _ 5 56 Try.underlying22 hn0 hy0 hy1 hy2 rfl (by decide) _ _ _ rfl (HROW.out.alloc _) ⟨_, 0, none⟩ 1 1 [.int .i64 op, .int .i64 width, .int .i64 flags, .slice va yl.length vc, .int .u32 imm] rfl rfl ?d1x5 ?d2x5 ?d3x5 ?d4x5 ?d5x5 ?_))
                          try case d1x5 =>
                            intro i u h
                            rcases i with _ | _ | _ | _ | _ | i <;> first | (cases h; simp [go_sem, Addr.add]) | cases h
                          try case d2x5 => simp [Value.oneCell']
                          try case d3x5 => unfold maxLen; omega
                          try case d4x5 => omega
                          try case d5x5 => first | omega | (simp; done) | (simp; omega)
                          intro v' w7 hown' hgrow _ hat
                          have HOW := Lib.hid hown'
                          have HGR := Lib.hid hgrow
                          have HATV := Lib.hid hat
                          clear hown' hgrow hat
                          go_wp2_with fail
                          go_roundg (gk - 1)
                          case measure => omega
                          case rel =>
                            refine ⟨t + 1, _, _, rfl, rfl, by omega, ?_⟩
                            have e1 := HNX.out
                            rw [runS_one, stp_none (by rw [HX.out]; exact HMIS.out)] at e1
                            rw [e1]
                            have ht : tell ts n s = ⟨s.out ++ [⟨op, width, flags, yl, imm⟩], s.nos.set n (s.out.length : Int)⟩ := by unfold tell; rw [HYN.out]; unfold addN; rw [if_neg HNM.out]
                            show ShR w rest (tell ts n s) v' _ w7
                            rw [ht]
                            have hz6 : (wr.setCell ⟨w.heap.size, n, none⟩ (.int .i64 (s.out.length : Int))).heap.size = wr.heap.size := by simp [World.setCell]
                            have hgr : Chg (fun b => (Value.slice na s.out.length nc).ownBlock = some b) (wr.setCell ⟨w.heap.size, n, none⟩ (.int .i64 (s.out.length : Int))) w7 := (Chg.of_below ((Below.refl _ _).alloc (Nat.le_refl _) _)).trans (Chg.of_grown HGR.out (fun k hk => hk)) (fun _ _ h => h)
                            have hstk := hM.out.stk
                            rw [stkL_cons] at hstk
                            have hstk2 := hstk.pop (by rw [stkL_len])
                            rw [stkL_len] at hstk2
                            have hno := own_lt HOSW.out.row
                            have hAT7 : (v'.ownBlock = (Value.slice na s.out.length nc).ownBlock ∨ ∃ g, v'.ownBlock = some g ∧ wr.heap.size ≤ g) := HATV.out.elim .inl fun h => .inr ⟨_, h, by first | omega | (simp; done) | (simp; omega)⟩
                            refine hM.out.told (((HCW.out.mono (T := fun b => b = w.heap.size ∨ (Value.slice na s.out.length nc).ownBlock = some b) (fun _ _ h => h.elim)).trans (HC'.out.trans HSET.out (fun _ _ h => h)) (fun _ _ h => .inl h)).trans hgr (fun _ _ h => .inr h)) (((HO'.out.set (by rw [HLN.out]; exact hnl) _).chg hgr hM.out.nA)) hstk2 rfl ⟨_, _, OSt.add HOS6.out (HRW6.out.intsF (by omega)) (fun b hb => ⟨fun e => by have := hno b e; have := own_ge HRW.out b hb; omega, by have := own_ge HRW.out b hb; omega, own_lt HRW6.out b hb⟩) hgr HOW.out (by rw [hz6]; exact hAT7), ?_⟩ (hAT7.imp_right fun ⟨g, h1, h2⟩ => ⟨g, h1, by omega⟩)
                            rintro b (hb | hb)
                            · exact .inl ⟨R, avs, HOSW.out, hb, fun e => HRA.out (e ▸ hb), fun e => HSR2.out b e hb⟩
                            · exact .inr (by have := own_ge HRW.out b hb; omega)
                      · subst e9
                        have hzn : ¬ (s.nos.set n (s.out.idxOf ⟨op, width, flags, yl, imm⟩ : Int)).getD n 0 < 0 := by
                          rw [List.getD_eq_getElem?_getD, List.getElem?_set_self (by rw [HLN.out]; exact hnl)]
                          simp
                        have HMEM := Lib.hid hmem
                        clear hmem
                        generalize (s.nos.set n (s.out.idxOf ⟨op, width, flags, yl, imm⟩ : Int)).getD n 0 = z at *
                        generalize hxs : s.nos.set n (s.out.idxOf ⟨op, width, flags, yl, imm⟩ : Int) = xs at *
                        have HXS := Lib.hid hxs
                        clear hxs
                        by_cases hlt : j < s.out.length
                        all_goals
                          go_wp2_with fail
                          go_roundg (gk - 1)
                          case measure => omega
                          case rel =>
                            refine ⟨t + 1, _, _, rfl, rfl, by omega, ?_⟩
                            have e1 := HNX.out
                            rw [runS_one, stp_none (by rw [HX.out]; exact HMIS.out)] at e1
                            rw [e1]
                            have ht : tell ts n s = ⟨s.out, xs⟩ := by unfold tell; rw [HYN.out]; unfold addN; rw [if_pos HMEM.out, HXS.out]
                            show ShR w rest (tell ts n s) _ _ wr
                            rw [ht]
                            have hstk := hM.out.stk
                            rw [stkL_cons] at hstk
                            have hstk2 := hstk.pop (by rw [stkL_len])
                            rw [stkL_len] at hstk2
                            exact hM.out.told ((HCW.out.mono (T := fun b => b = w.heap.size ∨ (Value.slice na s.out.length nc).ownBlock = some b) (fun _ _ h => h.elim)).trans HC'.out (fun _ _ h => .inl h)) HO'.out hstk2 rfl ⟨R, avs, HOSR.out, fun b hb => .inl ⟨R, avs, HOSW.out, hb, fun e => HRA.out (e ▸ hb), fun e => HSR2.out b e hb⟩⟩ (.inl rfl)
end Go.Proofs.Ythopdfikikdcbaa
