/- Walk of Shared of the answer: the nodes that lead to a node, by a stack. -/
import Derived.Deep.LoopGhost
import Derived.Deep.RegionLaw
import Derived.Deep.AppendLies
import Derived.Deep.DeepMust
import Derived.Test.YthopdfikikdcbaaZs5
import Derived.Test.YthopdfikikdcbaaZs6
import Derived.Test.YthopdfikikdcbaaZs7
namespace Go.Proofs.Ythopdfikikdcbaa
open Go.RowKit Go.Maps Wd
set_option linter.unusedVariables false
set_option linter.unusedSimpArgs false
set_option maxRecDepth 100000 in
set_option maxHeartbeats 4000000 in
theorem rShared (ts : List Nd) (tv : Value) (w : World) (k : Nat) (hts : Nds w tv ts) (hd : Down ts) (hk : k < ts.length) (hl : ts.length ≤ 100000) (hn : ∀ k, k < ts.length → (nd ts k).args.length ≤ 1000) :
    Calls Try.prog 54 #[tv, .int .i64 (k : Int)] w fun e w' => ∃ v, e = .returned v ∧ Nds w' v (shr ts k) ∧ Below w.heap.size w w' := by
  have HT := Lib.hid hts
  have HD := Lib.hid hd
  have HN := Lib.hid hn
  have HSR := Lib.hid (fun t => stk_run hd hk t)
  obtain ⟨T0, hT1, hT2⟩ := shared_end hd hk
  have HT1 := Lib.hid hT1
  have HT2 := Lib.hid hT2
  obtain ⟨ta, tc, rfl, ht1, ht2⟩ := hts.shape
  clear hts hd hn hT1 hT2
  obtain ⟨i0, hi0, hz0, hz1, hz2⟩ := info_parts info_int
  obtain ⟨n0, hn0, hy0, hy1, hy2⟩ := info_parts info_node
  go_enter Try.func54, Try.ntmps54
  go_wp2_with (at_make; refine wpList_make_full _ rfl _ _ 25 rfl (w.heap.size) 3 i0 (.int .i64 0) 1 Try.underlying25 hi0 hz0 hz1 .i64 .i64 _ _ ts.length rfl rfl rfl rfl ?d1 ?d2 ?d3 ?_)
  case d1 => rw [hz2]; omega
  case d2 => unfold maxLen; omega
  case d3 => exact Nat.le_refl _
  intro w2 hown hgr
  have hO : OInts .i64 w2 w.heap.size (List.replicate 0 (-1) ++ List.replicate (ts.length - 0) 0) := (OInts.made hown : OInts .i64 w2 w.heap.size (List.replicate ts.length 0))
  have hb2 := below_made hgr
  have HO := Lib.hid hO
  have HB2 := Lib.hid hb2
  clear hown hgr hO hb2
  go_wp2_with fail
  go_loopw [7] (fun i wr => ∃ j : Nat, j ≤ ts.length ∧ i = .int .i64 j ∧ OInts .i64 wr w.heap.size (List.replicate j (-1) ++ List.replicate (ts.length - j) 0) ∧ Below w.heap.size w wr) (fun i _ => ts.length - (intOf i).toNat)
  case atStart => exact ⟨0, Nat.zero_le _, rfl, HO.out, HB2.out⟩
  case round =>
    obtain ⟨j, hj, rfl, ho, hb⟩ := hrel
    by_cases hlt : j < ts.length
    · have hlen : (List.replicate j (-1 : Int) ++ List.replicate (ts.length - j) 0).length = ts.length := by simp; omega
      have hjl : j < (List.replicate j (-1 : Int) ++ List.replicate (ts.length - j) 0).length := by omega
      have d0 := ho.cell hjl
      have d1 := ho.free hjl
      have HO1 := Lib.hid ho
      have HB1 := Lib.hid hb
      have HS1 : Hid ((List.replicate j (-1 : Int) ++ List.replicate (ts.length - j) 0).set j (-1) = List.replicate (j + 1) (-1) ++ List.replicate (ts.length - (j + 1)) 0) := by
        show _ = _
        rw [List.set_append_right _ _ (by simp), List.length_replicate, Nat.sub_self, show ts.length - j = (ts.length - (j + 1)) + 1 by omega, List.replicate_succ, List.set_cons_zero, List.replicate_succ', List.append_assoc]
        rfl
      have HJL := Lib.hid hjl
      clear ho hb hlen hjl
      generalize (List.replicate j (-1 : Int) ++ List.replicate (ts.length - j) 0) = L at *
      generalize L.getD j 0 = y at d0
      go_wp2_with fail
      go_roundw
      case rel => exact ⟨j + 1, by omega, by go_num, by rw [← HS1.out]; exact HO1.out.set HJL.out (-1), below_at HB1.out (Nat.le_refl _) _ _⟩
      case measure => simp [intOf]; omega
    · obtain rfl : j = ts.length := by omega
      have ho2 : OInts .i64 wr w.heap.size (st0 ts).nos := by
        rw [Nat.sub_self] at ho
        simpa [st0] using ho
      have HO2 := Lib.hid ho2
      have HB1 := Lib.hid hb
      have hAs := ho2.1
      clear ho ho2 hb
      go_wp2_with fail
      go_loopg [5, 8] T0 (fun g nv0 sv0 wx => ∃ (t : Nat) (nv sv : Value), nv = nv0 ∧ sv = sv0 ∧ t + g = T0 ∧ Hid (ShR w (runS ts t ([k], st0 ts)).1 (runS ts t ([k], st0 ts)).2 nv sv wx))
      case atStart =>
        refine ⟨0, _, _, rfl, rfl, by omega, ?_⟩
        exact {
          at_ := HO2.out.alloc _
          stk := ⟨by simp [stkL, runS], .inr ⟨wr.heap.size, 1, #[.int .i64 k], rfl, by omega, Array.getElem?_push_size, Nat.le_refl _, by unfold maxLen; omega, rfl, by simp [stkL, runS]⟩⟩
          out := ⟨_, _, OSt.nil _ _, fun h => h, fun b _ h => h⟩
          nA := by simp [Value.ownBlock]
          sA := by simp [Value.ownBlock]; omega
          ns := by simp [Value.ownBlock]
          bel := HB1.out.alloc (by omega) _ }
      case round =>
        obtain ⟨t, nv, sv, rfl, rfl, htg, hM⟩ := hrel
        obtain ⟨wo, rfl⟩ : ∃ wo : World, wo = wr := ⟨_, rfl⟩
        have hok := HSR.out t
        have HNX := Lib.hid (runS_add ts t 1 ([k], st0 ts))
        have HEND : Hid ((runS ts t ([k], st0 ts)).1 = [] → t = T0) := fun h => by
          by_cases e : t < T0
          · exact absurd h (HT1.out t e)
          · omega
        have HLAST : Hid (t = T0 → (runS ts t ([k], st0 ts)).1 = []) := fun h => by
          rw [h, HT2.out]
        generalize hrun : runS ts t ([k], st0 ts) = c at *
        have HRUN := Lib.hid hrun
        clear hrun
        obtain ⟨st, s⟩ := c
        simp only at hok
        have HOK := Lib.hid hok
        clear hok
        replace hM : Hid (ShR w st s nv sv wo) := hM
        cases st with
        | nil =>
          have htT := HEND.out rfl
          obtain ⟨sa, sc, hsv⟩ := hM.out.stk.shape
          rw [show (stkL []).length = 0 from rfl] at hsv
          subst hsv
          have hg0 : Hid (t = T0) := htT
          clear htT
          go_wp2_with fail
          go_ret
          obtain ⟨R, avs, ho, _, _⟩ := hM.out.out
          have hsz := HOK.out.sz
          have hsl := cnt_le s.nos
          have hln := HOK.out.len
          refine ⟨nv, rfl, ?_, hM.out.bel⟩
          have e1 := HRUN.out
          rw [hg0.out, HT2.out] at e1
          have e2 : vis ts k (st0 ts) = s := congrArg Prod.snd e1
          show Nds wo nv (vis ts k (st0 ts)).out
          rw [e2]
          exact ho.nds (by omega)
        | cons n rest =>
          have htl : t < T0 := by
            by_cases e : t = T0
            · have := HLAST.out e; cases this
            · omega
          clear HLAST HEND
          have hnl := HOK.out.lt n (List.mem_cons_self ..)
          obtain ⟨sa, sc, hsv⟩ := hM.out.stk.shape
          rw [stkL_len, List.length_cons] at hsv
          subst hsv
          have hsh := HOK.out.short
          rw [List.length_cons] at hsh
          have hrl : rest.length ≤ 100000 := by omega
          obtain ⟨sb, q0, sc', e', hsc, hsbl, dtop⟩ := (hM.out.stk.ints (by rw [stkL_len, List.length_cons]; omega)).at (j := rest.length) (by rw [stkL_len, List.length_cons]; omega)
          rw [stkL_len, List.length_cons] at e'
          cases e'
          have hform : q0 = 0 := by
            obtain ⟨_, ⟨e9, _⟩ | ⟨g9, cap9, cur9, e9, _⟩⟩ := hM.out.stk
            · simp at e9
            · simp at e9; exact e9.1.2
          subst hform
          rw [Nat.zero_add, stkL_cons, List.getD_eq_getElem?_getD, List.getElem?_append_right (by rw [stkL_len]; exact Nat.le_refl _), stkL_len, Nat.sub_self] at dtop
          rw [show ([(n : Int)][0]?).getD 0 = (n : Int) from rfl] at dtop
          rw [stkL_len, List.length_cons] at hsc
          obtain ⟨b, q, c', av, e', _, hbq, hav, c0, c1, c2, c3, c4⟩ := HT.out.at2 hM.out.bel hnl
          cases e'
          have HX : Hid (nd ts n = ts.getD n default) := rfl
          have HDA := Lib.hid (HD.out n hnl)
          have hn20 := HN.out n hnl
          rw [HX.out] at hn20
          generalize ts.getD n default = x at *
          obtain ⟨op, width, flags, args, imm⟩ := x
          simp only at hav c0 c1 c2 c3 c4 hn20
          have HAV := Lib.hid (hav.stays hM.out.bel)
          obtain ⟨aa, ac, rfl, ha1, ha2⟩ := hav.shape
          have hbs := hM.out.bel.size
          have hAs := hM.out.at_.1
          have hnos : s.nos.length = ts.length := HOK.out.len
          have HNOS := Lib.hid hnos
          have HROWA := Lib.hid (fun h0 => HAV.out.row h0)
          clear hav hnos
          go_wp2_with fail
          go_loop [11, 12] (fun mv iv => ∃ (c : Nat) (i1 : Int), iv = .int .i64 i1 ∧ Hid (i1 = (c : Int) - 1) ∧ c ≤ args.length ∧ mv = .int .i64 (misN s (args.drop c))) (fun mv iv => (intOf iv + 1).toNat)
          case atStart => exact ⟨args.length, _, rfl, rfl, Nat.le_refl _, by rw [List.drop_length]; rfl⟩
          case round =>
            obtain ⟨c, i1, rfl, hi1, hc, rfl⟩ := hrel
            by_cases hc0 : 0 < c
            · obtain ⟨c, rfl⟩ : ∃ c', c = c' + 1 := ⟨c - 1, by omega⟩
              obtain rfl : i1 = (c : Int) := by have := hi1.out; omega
              have hcl : c < args.length := hc
              obtain ⟨ab, ao, rfl, hab, hcs⟩ := HROWA.out (by omega)
              have d0 := hcs c hcl
              have hak := HDA.out (args.getD c 0) (by rw [HX.out]; exact mem_getD hcl)
              have HMS := Lib.hid (misN_drop s args c hcl)
              clear hcs
              generalize args.getD c 0 = y at *
              obtain ⟨m, rfl⟩ := Int.eq_ofNat_of_zero_le hak.1
              have hml : m < s.nos.length := by have := HNOS.out; omega
              have e0 := hM.out.at_.cell hml
              have HZ : Hid (gno s.nos m = s.nos.getD m 0) := by
                show gno s.nos m = _
                unfold gno; rw [List.getD_eq_getElem?_getD, List.getD_eq_getElem?_getD, List.getElem?_eq_getElem hml]; rfl
              generalize s.nos.getD m 0 = z at *
              generalize misN s (args.drop (c + 1)) = mm at *
              cases hz : decide (z < 0)
              · have HZ0 := Lib.hid (of_decide_eq_false hz)
                clear hml
                go_wp2_with fail
                go_round
                case rel => exact ⟨c, (c : Int) - 1, by go_num, rfl, by omega, by
                  have h := HMS.out
                  rw [Int.toNat_natCast, HZ.out, if_neg HZ0.out] at h
                  rw [h]⟩
                case measure => simp [intOf] <;> omega
              · have HZ0 := Lib.hid (of_decide_eq_true hz)
                clear hml
                go_wp2_with fail
                go_round
                case rel => exact ⟨c, (c : Int) - 1, by go_num, rfl, by omega, by
                  have h := HMS.out
                  rw [Int.toNat_natCast, HZ.out, if_pos HZ0.out] at h
                  rw [h]⟩
                case measure => simp [intOf] <;> omega
            · obtain rfl : c = 0 := by omega
              obtain rfl : i1 = -1 := by have := hi1.out; omega
              clear hi1 hc0
              have HMI : Hid (misN s (args.drop 0) = misN s args) := rfl
              generalize misN s (args.drop 0) = mi at *
              cases hmis : missing s args with
              | some a =>
                have HMIS := Lib.hid hmis
                have HMEM := Lib.hid (missing_mem hmis).1
                have ham := HDA.out a (by rw [HX.out]; exact (missing_mem hmis).1)
                obtain rfl : mi = a := by rw [HMI.out]; exact misN_some hmis
                obtain ⟨m, rfl⟩ := Int.eq_ofNat_of_zero_le ham.1
                clear hmis
                have HR1 : Hid ((wo.alloc (.cells #[.int .i64 op, .int .i64 width, .int .i64 flags, .slice aa args.length ac, .int .u32 imm] 47)).ownsRow w.heap.size 3 1 (.slice (some ⟨sb, 0, none⟩) (rest.length + 1) sc) (rest.length + 1) ((stkL (n :: rest)).map (Value.int .i64))) := by
                  have h9 := RowI.below hM.out.stk ((Below.refl _ _).alloc (Nat.le_refl _) (.cells #[.int .i64 op, .int .i64 width, .int .i64 flags, .slice aa args.length ac, .int .u32 imm] 47))
                  unfold RowI at h9
                  rw [stkL_len, List.length_cons] at h9
                  exact h9
                go_wp2_with (at_builtin; go_must (refine wpList_append_own_at _ rfl _ _ 25 rfl w.heap.size 3 i0 (.int .i64 0) 1 8 Try.underlying25 hi0 hz0 hz1 hz2 rfl (by decide) _ _ _ rfl (HR1.out.alloc _) ⟨wo.heap.size + 1, 0, none⟩ 1 1 [.int .i64 m] rfl rfl ?p1x1 ?p2x1 ?p3x1 ?p4x1 ?p5x1 ?_))
                try case p1x1 =>
                  intro i u h
                  rcases i with _ | i
                  · cases h; simp [go_sem, Addr.add]
                  · cases h
                try case p2x1 => simp [Value.oneCell']
                try case p3x1 => unfold maxLen; omega
                try case p4x1 => omega
                try case p5x1 => first | omega | (simp; done) | (simp; omega)
                intro v' w3 hown' hgrow _ hat
                have HOW := Lib.hid hown'
                have HGR := Lib.hid hgrow
                have HAT := Lib.hid hat
                clear hown' hgrow hat
                go_wp2_with fail
                go_roundg (gk - 1)
                case measure => omega
                case rel =>
                  refine ⟨t + 1, _, _, rfl, rfl, by omega, ?_⟩
                  have e1 := HNX.out
                  rw [runS_one, stp_some (a := (m : Int)) (by rw [HX.out]; exact HMIS.out), Int.toNat_natCast] at e1
                  rw [e1]
                  refine hM.out.push (Chg.trans (Chg.of_below (((Below.refl _ _).alloc (Nat.le_refl _) _).alloc (by simp) _)) (Chg.of_grown HGR.out (fun k hk => hk)) (fun _ _ h => h)) ?_ (HAT.out.elim .inl fun h => .inr ⟨_, h, by first | omega | (simp; done) | (simp; omega)⟩)
                  rw [stkL_cons]
                  exact RowI.app1 HOW.out (by rw [stkL_len, List.length_cons]) rfl
              | none =>
                have HMIS := Lib.hid hmis
                obtain rfl : mi = -1 := by rw [HMI.out]; exact misN_none hmis
                clear hmis
                go_wp2_with fail
                go_loopw [14] (fun iv wx => ∃ (j : Nat) (v : Value), iv = .int .i64 j ∧ j ≤ args.length ∧ YAt wx (wo.heap.size + 1) op width flags imm v ∧ RowI wx (wo.heap.size + 2) 3 .i64 v ((args.take j).map fun a => gno s.nos a.toNat) ∧ Chg (fun b => b = wo.heap.size + 1) ((wo.alloc (.cells #[.int .i64 op, .int .i64 width, .int .i64 flags, .slice aa args.length ac, .int .u32 imm] 47)).alloc (.cells #[.int .i64 op, .int .i64 width, .int .i64 flags, .slice none 0 0, .int .u32 imm] 47)) wx) (fun iv _ => args.length - (intOf iv).toNat)
                case atStart =>
                  refine ⟨0, _, rfl, Nat.zero_le _, ⟨by simp [go_sem], by simp [go_sem], by simp [go_sem], by simp [go_sem], by simp [go_sem], by simp [go_sem]⟩, RowI.nil _ _ _ _, Chg.refl _ _⟩
                case round =>
                  obtain ⟨j, v, rfl, hj, hY, hrow, hcg⟩ := hrel
                  have hz2s := hcg.size
                  simp only [World.size_alloc] at hz2s
                  have hcw : Chg (fun _ => False) wo wr := (Chg.of_below (((Below.refl _ _).alloc (Nat.le_refl _) _).alloc (by simp) _)).trans hcg (fun k hk h => by omega)
                  have q3 : wr.cell? ⟨wo.heap.size, 3, none⟩ = some (.slice aa args.length ac) := hcg.cell (by omega) (by simp [go_sem])
                  have q0 : wr.cell? ⟨wo.heap.size, 0, none⟩ = some (.int .i64 op) := hcg.cell (by omega) (by simp [go_sem])
                  have hAt := hM.out.at_.chg hcw (fun h => h)
                  by_cases hlt : j < args.length
                  · obtain ⟨ab, ao, rfl, hab, hcs⟩ := HROWA.out (by omega)
                    have q1 := hcw.cell (fun h => h) (hcs j hlt)
                    have hak := HDA.out (args.getD j 0) (by rw [HX.out]; exact mem_getD hlt)
                    have HMT := Lib.hid (map_take_succ (fun a => gno s.nos a.toNat) args j hlt)
                    have HLT := Lib.hid (show ((args.take j).map fun a => gno s.nos a.toNat).length = j by rw [List.length_map, List.length_take, Nat.min_eq_left hj])
                    clear hcs
                    generalize args.getD j 0 = y at *
                    obtain ⟨m, rfl⟩ := Int.eq_ofNat_of_zero_le hak.1
                    have hml : m < s.nos.length := by have := HNOS.out; omega
                    have q2 := hAt.cell hml
                    have HZ := Lib.hid (gno_getD hml)
                    have hm1 : m < ts.length := by omega
                    have hm2 : (m : Int) < ts.length := by omega
                    have hj2 : (j : Int) < args.length := by omega
                    obtain ⟨va, vc, rfl⟩ := hrow.shape
                    rw [HLT.out] at hY hrow
                    have q4 := hY.c3
                    have q5 := hY.f3
                    have HROW : Hid (wr.ownsRow (wo.heap.size + 2) 3 1 (.slice va j vc) j (((args.take j).map fun a => gno s.nos a.toNat).map (Value.int .i64))) := by
                      unfold RowI at hrow
                      rw [HLT.out] at hrow
                      exact hrow
                    have hnb : some (wo.heap.size + 1) ≠ (Value.slice va j vc).ownBlock := fun e => by have := own_ge hrow _ e.symm; omega
                    have HY := Lib.hid hY
                    have HRW := Lib.hid hrow
                    have HCG := Lib.hid hcg
                    clear hml hAt hcw hY hrow hcg
                    generalize s.nos.getD m 0 = z at *
                    generalize ((args.take j).map fun a => gno s.nos a.toNat) = gl at *
                    go_wp2_with fail
                    have hfz : ∀ ob, (wr.alloc ob).frozen? ⟨wo.heap.size + 1, 3, none⟩ = false := fun ob => by rw [← q5]; exact ((Below.refl _ _).alloc (Nat.le_refl _) ob).frozen (p := ⟨wo.heap.size + 1, 3, none⟩) (by simp; omega)
                    have hcz : ∀ ob, (wr.alloc ob).drew.cell? ⟨wo.heap.size + 1, 3, none⟩ = some (.slice va j vc) := fun ob => below_cell (B := wr.heap.size) (((Below.refl _ _).alloc (Nat.le_refl _) ob).drew) (by omega) q4
                    have hfz2 : ∀ ob, (wr.alloc ob).drew.frozen? ⟨wo.heap.size + 1, 3, none⟩ = false := hfz
                    go_region_law ((refine step_append_lies _ (by rfl) _ _ _ (by rfl) (wo.heap.size + 2) 3 i0 _ 1 8 Try.underlying25 hi0 hz0 hz1 hz2 rfl (by omega) (.slice va j vc) j (gl.map (Value.int .i64)) (by rfl) (((HROW.out).alloc _).drew) ⟨wr.heap.size, 0, none⟩ 1 1 [.int .i64 z] (by rfl) (by rfl) (World.news_of_block (cs := #[.int .i64 z]) (t := 3) (fr := (0, 0)) (heap_alloc_new wr _)) (by simp [Value.oneCell']) (by omega) (by unfold maxLen; omega) (by omega) (by simp; omega) (wr.heap.size + 1) (by simp) ?_; intro gg cap w1 hown1 hgrow hat hlt2; have G0 := (hgrow.cell_far ⟨wo.heap.size + 1, 3, none⟩ (by simp; omega) hnb).trans (hcz _); have G1 := (hgrow.frozen_far ⟨wo.heap.size + 1, 3, none⟩ (by simp; omega) hnb).trans (hfz2 _)))
                    all_goals
                      clear hfz hfz2 hcz
                      go_wp2_with fail
                      go_roundw
                      case rel =>
                        obtain ⟨r1, r2, r3⟩ := HY.out.next HRW.out HCG.out (by omega) (by simp) hgrow hown1 HLT.out
                        rw [Int.toNat_natCast, HZ.out] at HMT
                        exact ⟨j + 1, _, by go_num, by omega, r1, by rw [HMT.out]; exact r2, r3⟩
                      case measure => simp [intOf] <;> omega
                  · obtain rfl : j = args.length := by omega
                    obtain ⟨w5, rfl⟩ : ∃ w5 : World, w5 = wr := ⟨_, rfl⟩
                    have HYN : Hid (mapN s (nd ts n) = ⟨op, width, flags, args.map fun a => gno s.nos a.toNat, imm⟩) := by
                      show _ = _
                      rw [HX.out]; rfl
                    rw [List.take_length] at hrow
                    have HCW := Lib.hid hcw
                    have HRW := Lib.hid hrow
                    have HY := Lib.hid hY
                    have hmz : (args.map fun a => gno s.nos a.toNat).length ≤ 1000 := by rw [List.length_map]; exact hn20
                    generalize (args.map fun a => gno s.nos a.toNat) = yl at *
                    obtain ⟨va, vc, rfl⟩ := hrow.shape
                    have h5s := hcw.size
                    obtain ⟨R, avs, hos, hRA, hsR⟩ := hM.out.out
                    have HOSW := Lib.hid hos
                    have HOS5 := Lib.hid (hos.chg hcw (fun _ _ h => h) (fun _ _ h => h))
                    have HRA := Lib.hid hRA
                    have HSR2 := Lib.hid hsR
                    obtain ⟨na, nc, rfl⟩ := own_shape hos.row
                    have hln := HOK.out.len
                    have hsz5 := HOK.out.sz
                    have hcl5 := cnt_le s.nos
                    have hso : s.out.length ≤ 100000 := by omega
                    have hun := HOK.out.un n (List.mem_cons_self ..)
                    have hnl2 : (n : Int) < ts.length := by omega
                    have HATF := Lib.hid (fun i hi => hAt.cell (i := i) hi)
                    have HAT5 := Lib.hid hAt
                    have HUN := Lib.hid hun
                    have HLN := Lib.hid hln
                    clear hcg hz2s q0 hAt hcw hY hrow hos hRA hsR hln hsz5 hcl5 hun
                    go_wp2_with fail
                    go_loopw [15] (fun iv wx => ∃ (j : Nat) (nos' : List Int), iv = .int .i64 j ∧ j ≤ s.out.length ∧ Hid (Fnd s.out ⟨op, width, flags, yl, imm⟩ n s.nos j nos') ∧ Hid (nos'.length = ts.length) ∧ OInts .i64 wx w.heap.size nos' ∧ Chg (fun b => b = w.heap.size) w5 wx) (fun iv _ => s.out.length - (intOf iv).toNat)
                    case atStart => exact ⟨0, s.nos, rfl, Nat.zero_le _, .inl ⟨rfl, fun k hk => absurd hk (by omega)⟩, HLN.out, HAT5.out, Chg.refl _ _⟩
                    case round =>
                      obtain ⟨j, nos', rfl, hj, hF, HL', ho', hc'⟩ := hrel
                      have hnn : n < nos'.length := by rw [HL'.out]; exact hnl
                      have q2 := ho'.cell hnn
                      have q2f := ho'.free hnn
                      have HZ := Lib.hid (gno_getD hnn)
                      have hcs5 := hc'.size
                      have hYr := HY.out.chg hc' (by omega)
                      have hos := HOS5.out.chg hc' (fun b hb e => by subst e; exact hM.out.nA hb) (fun b hb e => by subst e; exact HRA.out hb)
                      have y0 := hYr.c0
                      have y1 := hYr.c1
                      have y2 := hYr.c2
                      have y3 := hYr.c3
                      have y4 := hYr.c4
                      have HO' := Lib.hid ho'
                      have HC' := Lib.hid hc'
                      have HOSR := Lib.hid hos
                      have HRWR := Lib.hid (HRW.out.chg hc' (fun b hb e => by have := own_ge HRW.out b hb; omega))
                      clear hnn ho' hc' hYr hos
                      rcases hF.out with ⟨e9, hall⟩ | ⟨e9, hmem⟩
                      · subst e9
                        have HALL := Lib.hid hall
                        have hzn : s.nos.getD n 0 < 0 := by rw [← HZ.out]; exact HUN.out
                        clear hall
                        generalize s.nos.getD n 0 = z at *
                        by_cases hlt : j < s.out.length
                        · have hj2 : (j : Int) < s.out.length := by omega
                          have hj3 : (0 : Int) ≤ j := by omega
                          obtain ⟨b5, q5, c5, av5, e', _, hbq5, hav5, d0, d1, d2, d3, d4⟩ := (HOSR.out.nds hso).at2 (Below.refl _ _) hlt
                          cases e'
                          have HXX := Lib.hid (show ∀ P : Nd → Prop, P (s.out.getD j default) → P (s.out.getD j default) from fun _ h => h)
                          generalize hx5 : s.out.getD j default = x5 at *
                          have HX5 := Lib.hid hx5
                          clear hx5 HXX
                          obtain ⟨op', width', flags', args', imm'⟩ := x5
                          simp only at hav5 d0 d1 d2 d3 d4
                          have HAV5 := Lib.hid hav5
                          clear hav5
                          have HIY := Lib.hid (HRWR.out.ints (by omega))
                          have h00 := Since.refl wr
                          have r0 : ∀ wk, Since wr wk → wk.cell? ⟨b5, q5 + j * 5, none⟩ = some (.int .i64 op') := fun wk h => h.cell d0
                          have r1 : ∀ wk, Since wr wk → wk.cell? ⟨b5, q5 + j * 5 + 1, none⟩ = some (.int .i64 width') := fun wk h => h.cell d1
                          have r2 : ∀ wk, Since wr wk → wk.cell? ⟨b5, q5 + j * 5 + 2, none⟩ = some (.int .i64 flags') := fun wk h => h.cell d2
                          have r3 : ∀ wk, Since wr wk → wk.cell? ⟨b5, q5 + j * 5 + 3, none⟩ = some av5 := fun wk h => h.cell d3
                          have r4 : ∀ wk, Since wr wk → wk.cell? ⟨b5, q5 + j * 5 + 4, none⟩ = some (.int .u32 imm') := fun wk h => h.cell d4
                          have s0 : ∀ wk, Since wr wk → wk.cell? ⟨wo.heap.size + 1, 0, none⟩ = some (.int .i64 op) := fun wk h => h.cell y0
                          have s1 : ∀ wk, Since wr wk → wk.cell? ⟨wo.heap.size + 1, 1, none⟩ = some (.int .i64 width) := fun wk h => h.cell y1
                          have s2 : ∀ wk, Since wr wk → wk.cell? ⟨wo.heap.size + 1, 2, none⟩ = some (.int .i64 flags) := fun wk h => h.cell y2
                          have s3 : ∀ wk, Since wr wk → wk.cell? ⟨wo.heap.size + 1, 3, none⟩ = some (.slice va yl.length vc) := fun wk h => h.cell y3
                          have s4 : ∀ wk, Since wr wk → wk.cell? ⟨wo.heap.size + 1, 4, none⟩ = some (.int .u32 imm) := fun wk h => h.cell y4
                          have t0 : ∀ wk, Since wr wk → wk.cell? ⟨w.heap.size, n, none⟩ = some (.int .i64 z) := fun wk h => h.cell q2
                          have hAr := HO'.out.1
                          have t1 : ∀ wk, Since wr wk → wk.frozen? ⟨w.heap.size, n, none⟩ = false := fun wk h => h.free hAr q2f
                          clear d0 d1 d2 d3 d4 y0 y1 y2 y3 y4
                          have HC : Hid (∀ wk, Since wr wk → Calls Try.prog 55 #[.agg #[.int .i64 op', .int .i64 width', .int .i64 flags', av5, .int .u32 imm'], .agg #[.int .i64 op, .int .i64 width, .int .i64 flags, .slice va yl.length vc, .int .u32 imm]] wk fun e w' => e = .returned (.bool (decide ((⟨op', width', flags', args', imm'⟩ : Nd) = ⟨op, width, flags, yl, imm⟩))) ∧ Below wk.heap.size wk w') :=
                            fun wk h => rSameNode ⟨op', width', flags', args', imm'⟩ ⟨op, width, flags, yl, imm⟩ av5 (.slice va yl.length vc) wk (HAV5.out.stays h) (HIY.out.stays h)
                          generalize hz : decide ((⟨op', width', flags', args', imm'⟩ : Nd) = ⟨op, width, flags, yl, imm⟩) = zb at *
                          have HZB := Lib.hid hz
                          clear hz
                          go_wp2_with fail
                          go_region_held3 (fun wk => Since wr wk) (first | assumption | exact Since.drew (by assumption) | exact Since.next (by assumption) (by assumption)) (first | (go_at_call 55; (with_reducible refine (HC.out _ (by assumption)).mono ?_); rintro e w' ⟨rfl, hb⟩))
                          clear r0 r1 r2 r3 r4 s0 s1 s2 s3 s4 h00
                          cases zb
                          · clear t0 t1
                            go_wp2_with fail
                            go_roundw
                            case rel => exact ⟨j + 1, s.nos, by go_num, by omega, .inl ⟨rfl, fun k hk => by
                              by_cases e : k = j
                              · subst e; rw [HX5.out]; exact of_decide_eq_false HZB.out
                              · exact HALL.out k (by omega)⟩, HL'.out, HO'.out.below (show Since wr _ by assumption), HC'.out.trans (Chg.of_below (T := fun _ => False) (show Since wr _ by assumption)) (fun _ _ h => h.elim)⟩
                            case measure => simp [intOf] <;> omega
                          · go_wp2_with fail
                            go_roundw
                            case rel =>
                              have hi := idxOf_first hlt HALL.out (by rw [HX5.out]; exact of_decide_eq_true HZB.out)
                              refine ⟨j + 1, s.nos.set n (j : Int), by go_num, by omega, .inr ⟨by rw [hi.2], hi.1⟩, by show (s.nos.set n _).length = _; rw [List.length_set]; exact HL'.out, ?_, ?_⟩
                              · exact (HO'.out.below (show Since wr _ by assumption)).set (by rw [HL'.out]; exact hnl) _
                              · exact (HC'.out.trans (Chg.of_below (T := fun _ => False) (show Since wr _ by assumption)) (fun _ _ h => h.elim)).setCell rfl _
                            case measure => simp [intOf] <;> omega
                        · obtain rfl : j = s.out.length := by omega
                          have HNM := Lib.hid (not_mem_of HALL.out)
                          have hAr := HO'.out.1
                          have hset : Chg (fun b => b = w.heap.size) wr (wr.setCell ⟨w.heap.size, n, none⟩ (.int .i64 (s.out.length : Int))) := (Chg.refl (fun b => b = w.heap.size) wr).setCell (b := w.heap.size) rfl _
                          have hos6 := HOSR.out.chg hset (fun b hb e => by subst e; exact hM.out.nA hb) (fun b hb e => by subst e; exact HRA.out hb)
                          have HOS6 := Lib.hid hos6
                          have HROW : Hid ((wr.setCell ⟨w.heap.size, n, none⟩ (.int .i64 (s.out.length : Int))).ownsRow w.heap.size 47 5 (.slice na s.out.length nc) s.out.length (rowsC s.out avs)) := hos6.row
                          have HRW6 := Lib.hid (HRWR.out.chg hset (fun b hb e => by have := own_ge HRW.out b hb; omega))
                          have HSET := Lib.hid hset
                          have hne : ¬ wo.heap.size + 1 = w.heap.size := by omega
                          clear hset hos6
                          go_wp2_with (at_builtin; go_must (refine wpList_append_own_at _ rfl _ _ 22 rfl w.heap.size 47 n0 _ 5 56 Try.underlying22 hn0 hy0 hy1 hy2 rfl (by decide) _ _ _ rfl (HROW.out.alloc _) ⟨_, 0, none⟩ 1 1 [.int .i64 op, .int .i64 width, .int .i64 flags, .slice va yl.length vc, .int .u32 imm] rfl rfl ?d1x5 ?d2x5 ?d3x5 ?d4x5 ?d5x5 ?_))
                          try case d1x5 =>
                            intro i u h
                            rcases i with _ | _ | _ | _ | _ | i <;> first | (cases h; simp [go_sem, Addr.add]) | cases h
                          try case d2x5 => simp [Value.oneCell']
                          try case d3x5 => unfold maxLen; omega
                          try case d4x5 => omega
                          try case d5x5 => first | omega | (simp; done) | (simp; omega)
                          intro v' w7 hown' hgrow _ hat
                          have HOW := Lib.hid hown'
                          have HGR := Lib.hid hgrow
                          have HATV := Lib.hid hat
                          clear hown' hgrow hat
                          go_wp2_with fail
                          go_roundg (gk - 1)
                          case measure => omega
                          case rel =>
                            refine ⟨t + 1, _, _, rfl, rfl, by omega, ?_⟩
                            have e1 := HNX.out
                            rw [runS_one, stp_none (by rw [HX.out]; exact HMIS.out)] at e1
                            rw [e1]
                            have ht : tell ts n s = ⟨s.out ++ [⟨op, width, flags, yl, imm⟩], s.nos.set n (s.out.length : Int)⟩ := by unfold tell; rw [HYN.out]; unfold addN; rw [if_neg HNM.out]
                            show ShR w rest (tell ts n s) v' _ w7
                            rw [ht]
                            have hz6 : (wr.setCell ⟨w.heap.size, n, none⟩ (.int .i64 (s.out.length : Int))).heap.size = wr.heap.size := by simp [World.setCell]
                            have hgr : Chg (fun b => (Value.slice na s.out.length nc).ownBlock = some b) (wr.setCell ⟨w.heap.size, n, none⟩ (.int .i64 (s.out.length : Int))) w7 := (Chg.of_below ((Below.refl _ _).alloc (Nat.le_refl _) _)).trans (Chg.of_grown HGR.out (fun k hk => hk)) (fun _ _ h => h)
                            have hstk := hM.out.stk
                            rw [stkL_cons] at hstk
                            have hstk2 := hstk.pop (by rw [stkL_len])
                            rw [stkL_len] at hstk2
                            have hno := own_lt HOSW.out.row
                            have hAT7 : (v'.ownBlock = (Value.slice na s.out.length nc).ownBlock ∨ ∃ g, v'.ownBlock = some g ∧ wr.heap.size ≤ g) := HATV.out.elim .inl fun h => .inr ⟨_, h, by first | omega | (simp; done) | (simp; omega)⟩
                            refine hM.out.told (((HCW.out.mono (T := fun b => b = w.heap.size ∨ (Value.slice na s.out.length nc).ownBlock = some b) (fun _ _ h => h.elim)).trans (HC'.out.trans HSET.out (fun _ _ h => h)) (fun _ _ h => .inl h)).trans hgr (fun _ _ h => .inr h)) (((HO'.out.set (by rw [HLN.out]; exact hnl) _).chg hgr hM.out.nA)) hstk2 rfl ⟨_, _, OSt.add HOS6.out (HRW6.out.intsF (by omega)) (fun b hb => ⟨fun e => by have := hno b e; have := own_ge HRW.out b hb; omega, by have := own_ge HRW.out b hb; omega, own_lt HRW6.out b hb⟩) hgr HOW.out (by rw [hz6]; exact hAT7), ?_⟩ (hAT7.imp_right fun ⟨g, h1, h2⟩ => ⟨g, h1, by omega⟩)
                            rintro b (hb | hb)
                            · exact .inl ⟨R, avs, HOSW.out, hb, fun e => HRA.out (e ▸ hb), fun e => HSR2.out b e hb⟩
                            · exact .inr (by have := own_ge HRW.out b hb; omega)
                      · subst e9
                        have hzn : ¬ (s.nos.set n (s.out.idxOf ⟨op, width, flags, yl, imm⟩ : Int)).getD n 0 < 0 := by
                          rw [List.getD_eq_getElem?_getD, List.getElem?_set_self (by rw [HLN.out]; exact hnl)]
                          simp
                        have HMEM := Lib.hid hmem
                        clear hmem
                        generalize (s.nos.set n (s.out.idxOf ⟨op, width, flags, yl, imm⟩ : Int)).getD n 0 = z at *
                        generalize hxs : s.nos.set n (s.out.idxOf ⟨op, width, flags, yl, imm⟩ : Int) = xs at *
                        have HXS := Lib.hid hxs
                        clear hxs
                        by_cases hlt : j < s.out.length
                        all_goals
                          go_wp2_with fail
                          go_roundg (gk - 1)
                          case measure => omega
                          case rel =>
                            refine ⟨t + 1, _, _, rfl, rfl, by omega, ?_⟩
                            have e1 := HNX.out
                            rw [runS_one, stp_none (by rw [HX.out]; exact HMIS.out)] at e1
                            rw [e1]
                            have ht : tell ts n s = ⟨s.out, xs⟩ := by unfold tell; rw [HYN.out]; unfold addN; rw [if_pos HMEM.out, HXS.out]
                            show ShR w rest (tell ts n s) _ _ wr
                            rw [ht]
                            have hstk := hM.out.stk
                            rw [stkL_cons] at hstk
                            have hstk2 := hstk.pop (by rw [stkL_len])
                            rw [stkL_len] at hstk2
                            exact hM.out.told ((HCW.out.mono (T := fun b => b = w.heap.size ∨ (Value.slice na s.out.length nc).ownBlock = some b) (fun _ _ h => h.elim)).trans HC'.out (fun _ _ h => .inl h)) HO'.out hstk2 rfl ⟨R, avs, HOSR.out, fun b hb => .inl ⟨R, avs, HOSW.out, hb, fun e => HRA.out (e ▸ hb), fun e => HSR2.out b e hb⟩⟩ (.inl rfl)
end Go.Proofs.Ythopdfikikdcbaa
/- Walks of Values and Eval of package term, and IsEnv of the answer. -/
namespace Go.Proofs.Ythopdfikikdcbaa
open Go.RowKit Wd
set_option linter.unusedVariables false
set_option linter.unusedSimpArgs false
def envG (ts : List Nd) (env : List Int) (v : Nat) : Bool := ((widL ts).getD v 0 == 0) || decide (env.getD v 0 < pw ((widL ts).getD v 0))
/-- env is an environment of the valid term. -/
def envB (ts : List Nd) (env : List Int) : Bool := decide (env.length = 4) && (List.range 4).all (envG ts env)
def vaE (ts : List Nd) (env : List Int) : Int := if valE ts = 0 then (if envB ts env = true then 0 else 1) else valE ts
def vaL (ts : List Nd) (env : List Int) : List Int := if vaE ts env = 0 then vals ts env else []
def evV (ts : List Nd) (env : List Int) : Int := if vaE ts env = 0 then (vals ts env).getD (ts.length - 1) 0 else 0
theorem widL_bd {ts : List Nd} (h : valE ts = 0) (hI : ∀ x ∈ ts, 0 ≤ x.imm ∧ x.imm ≤ 4294967295) (v : Nat) : 0 ≤ (widL ts).getD v 0 ∧ (widL ts).getD v 0 ≤ 32 := by
  obtain ⟨_, _, hS, _, _⟩ := valid_facts h
  have hl := (widL_ok h).1
  have hinv := (wmap_inv (fun x hx => (hI x hx).1) (fun i hi => okS_at hS hi) ts.length (widL ts) (Nat.le_refl _) (by rw [List.take_length]; exact hl)).2 v
  by_cases c : (widL ts).getD v 0 = 0
  · omega
  · obtain ⟨i, hi, _, _, hw⟩ := hinv c
    have := (nodeOk h hi).wid
    omega
theorem envOk_of {ts : List Nd} {env : List Int} (hE : ∀ x ∈ env, 0 ≤ x ∧ x ≤ 4294967295) (h : envB ts env = true) : EnvOk ts env := by
  unfold envB at h
  simp only [Bool.and_eq_true, decide_eq_true_eq, List.all_eq_true, List.mem_range] at h
  refine ⟨h.1, fun v hv => ?_⟩
  have h1 := hE _ (getD_mem0 (show v < env.length by omega))
  have h2 := h.2 v hv
  unfold envG at h2
  simp only [Bool.or_eq_true, beq_iff_eq, decide_eq_true_eq] at h2
  exact ⟨h1.1, h1.2, fun hn => by rcases h2 with h2 | h2; exact absurd h2 hn; exact h2⟩
theorem envB_bad {ts : List Nd} {env : List Int} {v : Nat} (hv : v < 4) (h : envG ts env v = false) : envB ts env = false := by
  unfold envB
  rw [Bool.and_eq_false_iff]
  right
  rw [List.all_eq_false]
  exact ⟨v, List.mem_range.2 hv, by rw [h]; decide⟩
theorem envB_good {ts : List Nd} {env : List Int} (h4 : env.length = 4) (h : ∀ v, v < 4 → envG ts env v = true) : envB ts env = true := by
  unfold envB
  rw [Bool.and_eq_true, List.all_eq_true]
  exact ⟨by simpa using h4, fun v hv => h v (List.mem_range.1 hv)⟩
theorem envB_len {ts : List Nd} {env : List Int} (h : env.length ≠ 4) : envB ts env = false := by
  unfold envB
  rw [show decide (env.length = 4) = false by simpa using h, Bool.false_and]
theorem vaE_bad {ts : List Nd} {env : List Int} (h : valE ts ≠ 0) : vaE ts env = valE ts := if_neg h
theorem vaE_env {ts : List Nd} {env : List Int} (h : valE ts = 0) (h2 : envB ts env = false) : vaE ts env = 1 := by unfold vaE; rw [if_pos h, if_neg (by rw [h2]; decide)]
theorem vaE_ok {ts : List Nd} {env : List Int} (h : valE ts = 0) (h2 : envB ts env = true) : vaE ts env = 0 := by unfold vaE; rw [if_pos h, if_pos h2]
theorem vaL_bad {ts : List Nd} {env : List Int} (h : vaE ts env ≠ 0) : vaL ts env = [] := if_neg h
theorem vaL_ok {ts : List Nd} {env : List Int} (h : vaE ts env = 0) : vaL ts env = vals ts env := if_pos h
theorem vaE_zero {ts : List Nd} {env : List Int} (h : vaE ts env = 0) : valE ts = 0 ∧ envB ts env = true := by
  unfold vaE at h
  by_cases c : valE ts = 0
  · rw [if_pos c] at h
    refine ⟨c, ?_⟩
    by_cases d : envB ts env = true
    · exact d
    · rw [if_neg d] at h; omega
  · rw [if_neg c] at h; exact absurd h c
theorem vals_len (ts : List Nd) (env : List Int) : (vals ts env).length = ts.length := valsF_len ts env ts

set_option maxRecDepth 100000 in
set_option maxHeartbeats 1000000 in
theorem pValues (ts : List Nd) (env : List Int) (tv ev : Value) (w : World) (hts : Nds w tv ts) (hev : Ints .u32 w ev env) (hi : ∀ x ∈ ts, 0 ≤ x.imm ∧ x.imm ≤ 4294967295) (hE : ∀ x ∈ env, 0 ≤ x ∧ x ≤ 4294967295) : Calls Try.prog 22 #[tv, ev] w fun e w' => ∃ v, e = .returned (.tuple #[v, .int .i64 (vaE ts env)]) ∧ Ints .u32 w' v (vaL ts env) ∧ Below w.heap.size w w' := by
  have HT := Lib.hid hts
  have HI := Lib.hid hi
  have HEV := Lib.hid hev
  have HE := Lib.hid hE
  obtain ⟨ta, tc, rfl, ht1, ht2⟩ := hts.shape
  obtain ⟨ea, ec, rfl, he1, he2⟩ := hev.shape
  clear hi hts hev hE
  cases hz : (valE ts != 0)
  rotate_left
  · have HZ : Hid (valE ts ≠ 0) := by
      have h : ¬ valE ts = 0 := by simpa using hz
      exact h
    go_enter Try.func22, Try.ntmps22
    go_wp2_with fail
    refine (pWidths ts _ _ HT.out HI.out).mono ?_
    rintro e w1 ⟨v1, rfl, hv1, hb1⟩
    go_wp2_with fail
    go_ret2
    exact ⟨_, by rw [vaE_bad HZ.out]; rfl, by rw [vaL_bad (by rw [vaE_bad HZ.out]; exact HZ.out)]; exact Ints.nil _ _, hb1⟩
  have hz' : valE ts = 0 := by simpa using hz
  have HZ := Lib.hid hz'
  clear hz hz'
  go_enter Try.func22, Try.ntmps22
  go_wp2_with fail
  refine (pWidths ts _ _ HT.out HI.out).mono ?_
  rintro e w1 ⟨v1, rfl, hv1, hb1⟩
  rw [HZ.out]
  have HB1 := Lib.hid hb1
  have HWI := Lib.hid hv1
  obtain ⟨wa, wc, rfl, hw1, hw2⟩ := hv1.shape
  have HW4 := Lib.hid (widL_ok HZ.out).2
  rw [HW4.out]
  clear hb1 hv1
  cases h4 : ((env.length : Int) != 4)
  rotate_left
  · have HV : Hid (vaE ts env = 1) := vaE_env HZ.out (envB_len (by intro h; rw [h] at h4; simp at h4))
    go_wp2_with fail
    go_ret2
    exact ⟨_, by rw [HV.out]; rfl, by rw [vaL_bad (by rw [HV.out]; decide)]; exact Ints.nil _ _, HB1.out⟩
  have h4' : env.length = 4 := by
    have : (env.length : Int) = 4 := by simpa using h4
    omega
  have H4 := Lib.hid h4'
  clear h4'
  go_wp2_with fail
  clear h4
  go_loop [25] (fun i => ∃ j : Nat, j ≤ 4 ∧ i = .int .i64 j ∧ Hid (∀ v, v < j → envG ts env v = true)) (fun i => 4 - (intOf i).toNat)
  case atStart => exact ⟨0, Nat.zero_le _, rfl, (fun i hi => absurd hi (by omega))⟩
  case round =>
    obtain ⟨j, hj, rfl, hg⟩ := hrel
    by_cases hlt : j < 4
    · obtain ⟨b1, o1, c1, e1, _, _, d1⟩ := HWI.out.at (show j < (widL ts).length by rw [HW4.out]; exact hlt)
      rw [HW4.out] at e1
      cases e1
      obtain ⟨b2, o2, c2, e2, _, _, d2⟩ := (HEV.out.stays HB1.out).at (show j < env.length by rw [H4.out]; exact hlt)
      cases e2
      have hwb := widL_bd HZ.out HI.out j
      have heb := HE.out _ (getD_mem0 (show j < env.length by rw [H4.out]; exact hlt))
      have HGD : Hid (envG ts env j = (((widL ts).getD j 0 == 0) || decide (env.getD j 0 < pw ((widL ts).getD j 0)))) := rfl
      generalize (widL ts).getD j 0 = n at *
      generalize env.getD j 0 = y at *
      have h4l : (j : Int) < env.length := by have := H4.out; omega
      cases hn : (n == 0)
      · have HN : Hid ((n == 0) = false) := hn
        have hn1 : 1 ≤ n := by
          have : ¬ n = 0 := by simpa using hn
          omega
        have hmk : mkX n = pw n - 1 := by unfold mkX; rw [if_pos (by unfold isW; simp; omega)]
        have hpn := pw_le32 hwb.2
        have hpp := pw_pos n
        cases hgt : decide (pw n - 1 < y)
        · have HG2 : Hid (envG ts env j = true) := by
            have := of_decide_eq_false hgt
            show _ = _
            rw [HGD.out, HN.out, Bool.false_or, decide_eq_true_iff]; omega
          have HMK := Lib.hid hmk
          clear hmk
          go_wp2_with fail
          refine (pMask n _).mono ?_
          rintro e w' ⟨rfl, rfl⟩
          rw [HMK.out]
          go_wp2_with fail
          go_round
          case rel => exact ⟨j + 1, by omega, by go_num, (fun v hv => by
            by_cases e : v = j
            · rw [e]; exact HG2.out
            · exact hg.out v (by omega))⟩
          case measure => simp [intOf]; omega
        · have HV : Hid (vaE ts env = 1) := vaE_env HZ.out (envB_bad hlt (by
            have := of_decide_eq_true hgt
            rw [HGD.out, HN.out, Bool.false_or, decide_eq_false_iff_not]; omega))
          have HMK := Lib.hid hmk
          clear hmk
          go_wp2_with fail
          refine (pMask n _).mono ?_
          rintro e w' ⟨rfl, rfl⟩
          rw [HMK.out]
          go_wp2_with fail
          go_ret2
          exact ⟨_, by rw [HV.out]; rfl, by rw [vaL_bad (by rw [HV.out]; decide)]; exact Ints.nil _ _, HB1.out⟩
      · have HG2 : Hid (envG ts env j = true) := by show _ = _; rw [HGD.out, hn]; rfl
        go_wp2_with fail
        go_round
        case rel => exact ⟨j + 1, by omega, by go_num, (fun v hv => by
          by_cases e : v = j
          · rw [e]; exact HG2.out
          · exact hg.out v (by omega))⟩
        case measure => simp [intOf]; omega
    · obtain rfl : j = 4 := by omega
      have HB : Hid (envB ts env = true) := envB_good H4.out hg.out
      go_wp2_with fail
      refine (values_any ts env _ _ _ (HT.out.stays HB1.out) (HEV.out.stays HB1.out) HZ.out HI.out (envOk_of HE.out HB.out)).mono ?_
      rintro e w' ⟨v2, rfl, hv2, hb2⟩
      have HV2 := Lib.hid (And.intro hv2 hb2)
      clear hv2 hb2
      go_wp2_with fail
      go_ret2
      exact ⟨_, by rw [vaE_ok HZ.out HB.out]; rfl, by rw [vaL_ok (vaE_ok HZ.out HB.out)]; exact HV2.out.1, below_next HB1.out HB1.out.size HV2.out.2⟩

set_option maxRecDepth 100000 in
set_option maxHeartbeats 1000000 in
theorem pEval (ts : List Nd) (env : List Int) (tv ev : Value) (w : World) (hts : Nds w tv ts) (hev : Ints .u32 w ev env) (hi : ∀ x ∈ ts, 0 ≤ x.imm ∧ x.imm ≤ 4294967295) (hE : ∀ x ∈ env, 0 ≤ x ∧ x ≤ 4294967295) : Calls Try.prog 20 #[tv, ev] w fun e w' => e = .returned (.tuple #[.int .u32 (evV ts env), .int .i64 (vaE ts env)]) ∧ Below w.heap.size w w' := by
  have HT := Lib.hid hts
  have HI := Lib.hid hi
  have HEV := Lib.hid hev
  have HE := Lib.hid hE
  obtain ⟨ta, tc, rfl, ht1, ht2⟩ := hts.shape
  obtain ⟨ea, ec, rfl, he1, he2⟩ := hev.shape
  clear hi hts hev hE
  cases hz : (vaE ts env != 0)
  rotate_left
  · have HZ : Hid (vaE ts env ≠ 0) := by
      have h : ¬ vaE ts env = 0 := by simpa using hz
      exact h
    have HV : Hid (evV ts env = 0) := if_neg HZ.out
    go_enter Try.func20, Try.ntmps20
    go_wp2_with fail
    refine (pValues ts env _ _ _ HT.out HEV.out HI.out HE.out).mono ?_
    rintro e w1 ⟨v1, rfl, hv1, hb1⟩
    go_wp2_with fail
    go_ret2
    exact ⟨by rw [HV.out]; rfl, hb1⟩
  have hz' : vaE ts env = 0 := by simpa using hz
  have HZ := Lib.hid hz'
  clear hz hz'
  have hl1 := (valid_facts (vaE_zero HZ.out).1).1
  have HV : Hid (evV ts env = (vals ts env).getD (ts.length - 1) 0) := if_pos HZ.out
  go_enter Try.func20, Try.ntmps20
  go_wp2_with fail
  refine (pValues ts env _ _ _ HT.out HEV.out HI.out HE.out).mono ?_
  rintro e w1 ⟨v1, rfl, hv1, hb1⟩
  rw [HZ.out]
  rw [vaL_ok HZ.out] at hv1
  obtain ⟨wa, wc, rfl, hw1, hw2⟩ := hv1.shape
  have hvl := vals_len ts env
  obtain ⟨b3, q3, rfl, _, hcs⟩ := hv1.row (by omega)
  have e1 := hcs (ts.length - 1) (by omega)
  rw [← HV.out] at e1
  rw [hvl] at *
  have HB1 := Lib.hid hb1
  clear hv1 hcs hb1 hvl
  go_wp2_with fail
  go_ret2
  exact ⟨by rw [HZ.out]; rfl, HB1.out⟩

end Go.Proofs.Ythopdfikikdcbaa
/- Walk of IsEnv of the answer. -/
namespace Go.Proofs.Ythopdfikikdcbaa
open Go.RowKit Wd
set_option linter.unusedVariables false
set_option linter.unusedSimpArgs false

set_option maxRecDepth 100000 in
set_option maxHeartbeats 1000000 in
theorem rIsEnv (ts : List Nd) (env : List Int) (tv ev : Value) (w : World) (hts : Nds w tv ts) (hev : Ints .u32 w ev env) (hi : ∀ x ∈ ts, 0 ≤ x.imm ∧ x.imm ≤ 4294967295) (hE : ∀ x ∈ env, 0 ≤ x ∧ x ≤ 4294967295) (hz : valE ts = 0) : Calls Try.prog 51 #[tv, ev] w fun e w' => e = .returned (.bool (envB ts env)) ∧ Below w.heap.size w w' := by
  have HT := Lib.hid hts
  have HI := Lib.hid hi
  have HEV := Lib.hid hev
  have HE := Lib.hid hE
  obtain ⟨ta, tc, rfl, ht1, ht2⟩ := hts.shape
  obtain ⟨ea, ec, rfl, he1, he2⟩ := hev.shape
  clear hi hts hev hE
  have HZ := Lib.hid hz
  clear hz
  cases h4 : ((env.length : Int) != 4)
  rotate_left
  · have HV : Hid (envB ts env = false) := envB_len (by intro h; rw [h] at h4; simp at h4)
    go_enter Try.func51, Try.ntmps51
    go_wp2_with fail
    go_ret
    exact ⟨ret_b HV.out.symm, Below.refl _ _⟩
  have h4' : env.length = 4 := by
    have : (env.length : Int) = 4 := by simpa using h4
    omega
  have H4 := Lib.hid h4'
  clear h4'
  go_enter Try.func51, Try.ntmps51
  go_wp2_with fail
  refine (rwidths_any ts _ _ HT.out (fun x hx => ⟨(HI.out x hx).1, fun h33 => by
    obtain ⟨i, hi, rfl⟩ := List.getElem_of_mem hx
    have := (shaped_facts (okS_at (valid_facts HZ.out).2.2.1 hi)).2.2.2.2.2.1
    rw [List.getD_eq_getElem?_getD, List.getElem?_eq_getElem hi] at this
    exact this h33⟩)).mono ?_
  rintro e w1 ⟨v1, rfl, hv1, hb1⟩
  rw [rwl_wmap (widL_ok HZ.out).1] at hv1
  have HB1 := Lib.hid hb1
  have HWI := Lib.hid hv1
  obtain ⟨wa, wc, rfl, hw1, hw2⟩ := hv1.shape
  have HW4 := Lib.hid (widL_ok HZ.out).2
  rw [HW4.out]
  clear hb1 hv1 h4
  go_wp2_with fail
  go_loopw [6] (fun i wr => ∃ j : Nat, j ≤ 4 ∧ i = .int .i64 j ∧ Hid (∀ v, v < j → envG ts env v = true) ∧ Dr w1 wr) (fun i _ => 4 - (intOf i).toNat)
  case atStart => exact ⟨0, Nat.zero_le _, rfl, (fun i hi => absurd hi (by omega)), Dr.refl _⟩
  case round =>
    obtain ⟨j, hj, rfl, hg, hdr⟩ := hrel
    have HDR := Lib.hid hdr
    have HBR := Lib.hid (below_hop HB1.out (hdr.below _))
    clear hdr
    by_cases hlt : j < 4
    · obtain ⟨b1, o1, c1, e1, _, _, d1⟩ := (HWI.out.stays (HDR.out.below _)).at (show j < (widL ts).length by rw [HW4.out]; exact hlt)
      rw [HW4.out] at e1
      cases e1
      obtain ⟨b2, o2, c2, e2, _, _, d2⟩ := (HEV.out.stays HBR.out).at (show j < env.length by rw [H4.out]; exact hlt)
      cases e2
      have hwb := widL_bd HZ.out HI.out j
      have heb := HE.out _ (getD_mem0 (show j < env.length by rw [H4.out]; exact hlt))
      have HGD : Hid (envG ts env j = (((widL ts).getD j 0 == 0) || decide (env.getD j 0 < pw ((widL ts).getD j 0)))) := rfl
      generalize (widL ts).getD j 0 = n at *
      generalize env.getD j 0 = y at *
      have h4l : (j : Int) < env.length := by have := H4.out; omega
      have hjl : (j : Int) < 4 := by omega
      cases hn : decide (0 < n)
      · have HG2 : Hid (envG ts env j = true) := by
          have := of_decide_eq_false hn
          have hn0 : (n == 0) = true := by simp; omega
          show _ = _; rw [HGD.out, hn0]; rfl
        go_wp2_with fail
        go_quiet (fail)
        go_wp2_with fail
        go_roundw
        case rel => exact ⟨j + 1, by omega, by go_num, (fun v hv => by
          by_cases e : v = j
          · rw [e]; exact HG2.out
          · exact hg.out v (by omega)), HDR.out.drew _⟩
        case measure => simp [intOf]; omega
      · have hn1 : 1 ≤ n := by have := of_decide_eq_true hn; omega
        have hn0 : (n == 0) = false := by simp; omega
        have HN := Lib.hid hn0
        have hwf : isW n = true := by unfold isW; simp; omega
        clear hn0
        cases hf : fit n y
        · have HV : Hid (envB ts env = false) := envB_bad hlt (by rw [HGD.out, HN.out, Bool.false_or]; exact hf)
          go_wp2_with fail
          go_quiet ((go_at_call 85; exact quiet_same (rIsWord_any _ _ _ heb.1 heb.2)))
          go_wp2_with fail
          go_ret
          exact ⟨ret_b HV.out.symm, below_drewN HBR.out _⟩
        · have HG2 : Hid (envG ts env j = true) := by show _ = _; rw [HGD.out, HN.out, Bool.false_or]; exact hf
          go_wp2_with fail
          go_quiet ((go_at_call 85; exact quiet_same (rIsWord_any _ _ _ heb.1 heb.2)))
          go_wp2_with fail
          go_roundw
          case rel => exact ⟨j + 1, by omega, by go_num, (fun v hv => by
            by_cases e : v = j
            · rw [e]; exact HG2.out
            · exact hg.out v (by omega)), HDR.out.drew _⟩
          case measure => simp [intOf]; omega
    · obtain rfl : j = 4 := by omega
      have HB : Hid (envB ts env = true) := envB_good H4.out hg.out
      go_wp2_with fail
      go_ret
      exact ⟨ret_b HB.out.symm, HBR.out⟩

end Go.Proofs.Ythopdfikikdcbaa
/- Walks of Below, Values, Eval of the answer. -/
namespace Go.Proofs.Ythopdfikikdcbaa
open Go.RowKit Wd
set_option linter.unusedVariables false
set_option linter.unusedSimpArgs false
theorem ownDr {w : World} {base : Nat} {e : TypeId} {size : Nat} {v : Value} {n : Nat} {xs : List Value} (h : w.ownsRow base e size v n xs) (k : Nat) : (w.drewN k).ownsRow base e size v n xs := h

set_option maxRecDepth 100000 in
set_option maxHeartbeats 2000000 in
theorem rBelow (ts : List Nd) (env : List Int) (tv ev : Value) (w : World) (hts : Nds w tv ts) (hev : Ints .u32 w ev env) (hi : ∀ x ∈ ts, 0 ≤ x.imm ∧ x.imm ≤ 4294967295) (hE : ∀ x ∈ env, 0 ≤ x ∧ x ≤ 4294967295) (hz : valE ts = 0) (he : EnvOk ts env) : Calls Try.prog 52 #[tv, ev] w fun e w' => ∃ v, e = .returned v ∧ Ints .u32 w' v (vals ts env) ∧ Below w.heap.size w w' := by
  have HT := Lib.hid hts
  have HI := Lib.hid hi
  have HEV := Lib.hid hev
  have HE := Lib.hid hE
  obtain ⟨ta, tc, rfl, ht1, ht2⟩ := hts.shape
  obtain ⟨ea, ec, rfl, he1, he2⟩ := hev.shape
  clear hi hts hev hE
  have HZ := Lib.hid hz
  have HEO := Lib.hid he
  have hlen : 1 ≤ ts.length ∧ ts.length ≤ 300 := ⟨(valid_facts hz).1, (valid_facts hz).2.1⟩
  obtain ⟨hl1, hl2⟩ := hlen
  have HL4 := Lib.hid he.1
  clear hz he
  obtain ⟨i0, hi0, hz0, hz1, hz2⟩ := info_parts info_u32
  go_enter Try.func52, Try.ntmps52
  go_wp2_with fail
  go_loopw [5, 6] (fun v i wr => ∃ j : Nat, j ≤ ts.length ∧ i = .int .i64 j ∧ RowI wr w.heap.size 34 .u32 v (valsF ts env (ts.take j)) ∧ Below w.heap.size w wr) (fun _ i _ => ts.length - (intOf i).toNat)
  case atStart => exact ⟨0, Nat.zero_le _, rfl, RowI.nil _ _ _ _, Below.refl _ _⟩
  case round =>
    obtain ⟨j, hj, rfl, hrow, hb⟩ := hrel
    have HB := Lib.hid hb
    have hbs := hb.size
    have hdl := valsF_take_len (env := env) hj
    by_cases hlt : j < ts.length
    · obtain ⟨b, q, c', av, e', _, hbq, hav, c0, c1, c2, c3, c4⟩ := HT.out.at2 hb hlt
      cases e'
      have HAV := Lib.hid (hav.stays hb)
      have HN := Lib.hid (nodeOk HZ.out hlt)
      have HW := Lib.hid (vals_words HZ.out HI.out HEO.out j hj)
      have HS := Lib.hid (vals_snoc ts env j hlt)
      have hI := HI.out _ (mem_getD hlt)
      generalize valsF ts env (ts.take j) = acc at *
      generalize ts.getD j default = x at *
      obtain ⟨op, width, flags, args, imm⟩ := x
      simp only at c0 c1 c2 c3 c4 hav hI
      obtain ⟨aa, ac, rfl, ha1, _⟩ := hav.shape
      obtain ⟨ra, rc, rfl⟩ := hrow.shape
      have hints := hrow.ints (by omega)
      unfold RowI at hrow
      rw [hdl] at hrow hints ⊢
      have HO0 := Lib.hid hrow
      have HRI := Lib.hid hints
      have HDL := Lib.hid hdl
      clear hb hav hrow hints hdl
      by_cases o0 : op = 0
      · subst o0
        have HVN : Hid (vNode ts env acc ⟨0, width, flags, args, imm⟩ = imm) := by
          show _ = _
          simp only [vNode]
          rfl
        go_wp2_with (at_builtin; refine wpList_append_own _ rfl _ _ 33 rfl (w.heap.size) 34 i0 (.int .u32 0) 1 4 Try.underlying33 hi0 hz0 hz1 hz2 rfl (by decide) _ _ _ rfl ((HO0.out.alloc _).alloc _) ⟨_, 0, none⟩ 1 1 [.int .u32 (imm)] rfl rfl ?c1x1 ?c2x1 ?c3x1 ?c4x1 ?c5x1 ?_)
        case c2x1 => simp [Value.oneCell']
        case c3x1 => unfold maxLen; omega
        case c4x1 => omega
        case c5x1 => first | omega | (simp; omega)
        intro v' w2 hown' hgrow _
        have HO := Lib.hid hown'
        have HG := Lib.hid hgrow
        clear hown' hgrow
        go_wp2_with fail
        go_roundw
        case rel => exact ⟨j + 1, by omega, by go_num, RowI.app1 HO.out HDL.out (by rw [HS.out, HVN.out] <;> rfl), Below.grown ((HB.out.alloc (by omega) _).alloc (by simp; omega) _) HG.out (by simp; omega) (own_ge HO0.out)⟩
        case measure => simp [intOf]; omega
      by_cases o33 : op = 33
      · subst o33
        obtain ⟨k, rfl⟩ := Int.eq_ofNat_of_zero_le hI.1
        have hk4 : k < 4 := by have := HN.out.imm; unfold immOk at this; rw [if_neg (by simp), if_pos rfl] at this; simp at this; omega
        obtain ⟨eb, eo, ec2, ee, _, heb, ecell⟩ := (HEV.out.stays HB.out).at (show k < env.length by rw [HL4.out]; exact hk4)
        cases ee
        have hke : (k : Int) < env.length := by rw [HL4.out]; omega
        have HVN : Hid (vNode ts env acc ⟨33, width, flags, args, (k : Int)⟩ = env.getD k 0) := by
          show _ = _
          simp only [vNode]
          rfl
        generalize env.getD k 0 = y at *
        clear o0 hI
        go_wp2_with (at_builtin; refine wpList_append_own _ rfl _ _ 33 rfl (w.heap.size) 34 i0 (.int .u32 0) 1 4 Try.underlying33 hi0 hz0 hz1 hz2 rfl (by decide) _ _ _ rfl ((HO0.out.alloc _).alloc _) ⟨_, 0, none⟩ 1 1 [.int .u32 (y)] rfl rfl ?c1x2 ?c2x2 ?c3x2 ?c4x2 ?c5x2 ?_)
        case c2x2 => simp [Value.oneCell']
        case c3x2 => unfold maxLen; omega
        case c4x2 => omega
        case c5x2 => first | omega | (simp; omega)
        intro v' w2 hown' hgrow _
        have HO := Lib.hid hown'
        have HG := Lib.hid hgrow
        clear hown' hgrow
        go_wp2_with fail
        go_roundw
        case rel => exact ⟨j + 1, by omega, by go_num, RowI.app1 HO.out HDL.out (by rw [HS.out, HVN.out] <;> rfl), Below.grown ((HB.out.alloc (by omega) _).alloc (by simp; omega) _) HG.out (by simp; omega) (own_ge HO0.out)⟩
        case measure => simp [intOf]; omega
      by_cases o14 : op = 14
      · subst o14
        have hlen : args.length = 2 := by have := HN.out.len; simp only at this; have h14 : arV 14 = 2 := rfl; omega
        have HR := Lib.hid HN.out.rng
        simp only at HR
        have hn0 : 0 < args.length := by omega
        have hn1 : 1 < args.length := by omega
        have HN2 := Lib.hid hlen
        clear hlen
        obtain ⟨ab, ao, rfl, hab, hcs⟩ := HAV.out.row hn0
        have hr0 := HR.out 0 hn0
        obtain ⟨m0, hm0⟩ := Int.eq_ofNat_of_zero_le hr0.1
        have hj0 : m0 < j := by omega
        have hmt0 : m0 < ts.length := by omega
        have d0 := hcs 0 hn0
        rw [hm0] at d0
        rw [Nat.add_zero] at d0
        have hr1 := HR.out 1 hn1
        obtain ⟨m1, hm1⟩ := Int.eq_ofNat_of_zero_le hr1.1
        have hj1 : m1 < j := by omega
        have hmt1 : m1 < ts.length := by omega
        have d1 := hcs 1 hn1
        rw [hm1] at d1
        obtain ⟨rb, rq, rfl, hrb, hro⟩ := HRI.out.row (by rw [HDL.out]; omega)
        have y0 := hro m0 (by rw [HDL.out]; exact hj0)
        have b0 := HW.out m0 hj0
        have p0 := @pw_le32 (ts.getD m0 default).width (nodeOk HZ.out hmt0).wid.2
        have u0 : 0 ≤ acc.getD m0 0 := b0.1
        have v0 : acc.getD m0 0 ≤ 4294967295 := by omega
        have ij0 : (m0 : Int) < j := by omega
        have t0 : (m0 : Int) < ts.length := by omega
        have s0 : (0 : Int) < args.length := by omega
        have y1 := hro m1 (by rw [HDL.out]; exact hj1)
        have b1 := HW.out m1 hj1
        have p1 := @pw_le32 (ts.getD m1 default).width (nodeOk HZ.out hmt1).wid.2
        have u1 : 0 ≤ acc.getD m1 0 := b1.1
        have v1 : acc.getD m1 0 ≤ 4294967295 := by omega
        have ij1 : (m1 : Int) < j := by omega
        have t1 : (m1 : Int) < ts.length := by omega
        have s1 : (1 : Int) < args.length := by omega
        obtain ⟨nb, nq, nc, nav, ne, _, hnb, _, _, w0, _⟩ := HT.out.at2 HB.out hmt0
        cases ne
        have hbr : b < wr.heap.size := by omega
        clear hcs hro
        have HVN : Hid (vNode ts env acc ⟨14, width, flags, args, imm⟩ = if coX imm (wdt ts args 0) (acc.getD m0 0) (acc.getD m1 0) = true then 1 else 0) := by
          show _ = _
          simp only [vNode, vArg, if_true, if_false, hm0, hm1, Int.toNat_natCast] <;> rfl
        generalize acc.getD m0 0 = a0 at *
        generalize acc.getD m1 0 = a1 at *
        have hwd : wdt ts args 0 = (ts.getD m0 default).width := by unfold wdt; rw [hm0, Int.toNat_natCast]
        rw [← hwd] at w0
        clear hr0 b0 p0 hm0 hr1 b1 p1 hm1 hwd
        clear o0 o33
        cases hco : coX imm (wdt ts args 0) a0 a1
        · rw [hco] at HVN
          go_wp2_with fail
          have wI : IntKind.i64.wrap imm = imm := IntWalk.i64_in _ (by omega)
          go_quiet (first | (go_at_call 86; exact quiet_same (rCompare imm (wdt ts args 0) a0 a1 u0 v0 u1 v1 _)))
          clear wI
          go_wp2_with (at_builtin; refine wpList_append_own _ rfl _ _ 33 rfl (w.heap.size) 34 i0 (.int .u32 0) 1 4 Try.underlying33 hi0 hz0 hz1 hz2 rfl (by decide) _ _ _ rfl ((ownDr (HO0.out.alloc _) _).alloc _) ⟨_, 0, none⟩ 1 1 [.int .u32 (0)] rfl rfl ?c1x3 ?c2x3 ?c3x3 ?c4x3 ?c5x3 ?_)
          case c1x3 =>
            intro i u h
            rcases i with _ | i
            · cases h; simp [go_sem, Addr.add]
            · cases h
          case c2x3 => simp [Value.oneCell']
          case c3x3 => unfold maxLen; omega
          case c4x3 => omega
          case c5x3 => first | omega | (simp; omega)
          intro v' w2 hown' hgrow _
          have HO := Lib.hid hown'
          have HG := Lib.hid hgrow
          clear hown' hgrow
          go_wp2_with fail
          go_roundw
          case rel => exact ⟨j + 1, by omega, by go_num, RowI.app1 HO.out HDL.out (by rw [HS.out, HVN.out] <;> rfl), Below.grown ((below_drewN (HB.out.alloc (by omega) _) _).alloc (by simp; omega) _) HG.out (by simp; omega) (own_ge HO0.out)⟩
          case measure => simp [intOf]; omega
        · rw [hco] at HVN
          go_wp2_with fail
          have wI : IntKind.i64.wrap imm = imm := IntWalk.i64_in _ (by omega)
          go_quiet (first | (go_at_call 86; exact quiet_same (rCompare imm (wdt ts args 0) a0 a1 u0 v0 u1 v1 _)))
          clear wI
          go_wp2_with (at_builtin; refine wpList_append_own _ rfl _ _ 33 rfl (w.heap.size) 34 i0 (.int .u32 0) 1 4 Try.underlying33 hi0 hz0 hz1 hz2 rfl (by decide) _ _ _ rfl ((ownDr (HO0.out.alloc _) _).alloc _) ⟨_, 0, none⟩ 1 1 [.int .u32 (1)] rfl rfl ?c1x4 ?c2x4 ?c3x4 ?c4x4 ?c5x4 ?_)
          case c1x4 =>
            intro i u h
            rcases i with _ | i
            · cases h; simp [go_sem, Addr.add]
            · cases h
          case c2x4 => simp [Value.oneCell']
          case c3x4 => unfold maxLen; omega
          case c4x4 => omega
          case c5x4 => first | omega | (simp; omega)
          intro v' w2 hown' hgrow _
          have HO := Lib.hid hown'
          have HG := Lib.hid hgrow
          clear hown' hgrow
          go_wp2_with fail
          go_roundw
          case rel => exact ⟨j + 1, by omega, by go_num, RowI.app1 HO.out HDL.out (by rw [HS.out, HVN.out] <;> rfl), Below.grown ((below_drewN (HB.out.alloc (by omega) _) _).alloc (by simp; omega) _) HG.out (by simp; omega) (own_ge HO0.out)⟩
          case measure => simp [intOf]; omega
      by_cases o15 : op = 15
      · subst o15
        have hlen : args.length = 3 := by have := HN.out.len; simp only at this; have h15 : arV 15 = 3 := rfl; omega
        have hsel := typed_sel HN.out.typ rfl
        simp only at hsel
        have HR := Lib.hid HN.out.rng
        simp only at HR
        have hn0 : 0 < args.length := by omega
        have hn1 : 1 < args.length := by omega
        have hn2 : 2 < args.length := by omega
        have HN2 := Lib.hid hlen
        clear hlen
        obtain ⟨ab, ao, rfl, hab, hcs⟩ := HAV.out.row hn0
        have hr0 := HR.out 0 hn0
        obtain ⟨m0, hm0⟩ := Int.eq_ofNat_of_zero_le hr0.1
        have hj0 : m0 < j := by omega
        have hmt0 : m0 < ts.length := by omega
        have d0 := hcs 0 hn0
        rw [hm0] at d0
        rw [Nat.add_zero] at d0
        have hr1 := HR.out 1 hn1
        obtain ⟨m1, hm1⟩ := Int.eq_ofNat_of_zero_le hr1.1
        have hj1 : m1 < j := by omega
        have hmt1 : m1 < ts.length := by omega
        have d1 := hcs 1 hn1
        rw [hm1] at d1
        have hr2 := HR.out 2 hn2
        obtain ⟨m2, hm2⟩ := Int.eq_ofNat_of_zero_le hr2.1
        have hj2 : m2 < j := by omega
        have hmt2 : m2 < ts.length := by omega
        have d2 := hcs 2 hn2
        rw [hm2] at d2
        obtain ⟨rb, rq, rfl, hrb, hro⟩ := HRI.out.row (by rw [HDL.out]; omega)
        have y0 := hro m0 (by rw [HDL.out]; exact hj0)
        have b0 := HW.out m0 hj0
        have p0 := @pw_le32 (ts.getD m0 default).width (nodeOk HZ.out hmt0).wid.2
        have u0 : 0 ≤ acc.getD m0 0 := b0.1
        have v0 : acc.getD m0 0 ≤ 4294967295 := by omega
        have ij0 : (m0 : Int) < j := by omega
        have t0 : (m0 : Int) < ts.length := by omega
        have s0 : (0 : Int) < args.length := by omega
        have y1 := hro m1 (by rw [HDL.out]; exact hj1)
        have b1 := HW.out m1 hj1
        have p1 := @pw_le32 (ts.getD m1 default).width (nodeOk HZ.out hmt1).wid.2
        have u1 : 0 ≤ acc.getD m1 0 := b1.1
        have v1 : acc.getD m1 0 ≤ 4294967295 := by omega
        have ij1 : (m1 : Int) < j := by omega
        have t1 : (m1 : Int) < ts.length := by omega
        have s1 : (1 : Int) < args.length := by omega
        have y2 := hro m2 (by rw [HDL.out]; exact hj2)
        have b2 := HW.out m2 hj2
        have p2 := @pw_le32 (ts.getD m2 default).width (nodeOk HZ.out hmt2).wid.2
        have u2 : 0 ≤ acc.getD m2 0 := b2.1
        have v2 : acc.getD m2 0 ≤ 4294967295 := by omega
        have ij2 : (m2 : Int) < j := by omega
        have t2 : (m2 : Int) < ts.length := by omega
        have s2 : (2 : Int) < args.length := by omega
        clear hcs hro
        unfold wdt at hsel
        rw [hm0, Int.toNat_natCast] at hsel
        rw [hsel.1] at b0
        have HVN : Hid (vNode ts env acc ⟨15, width, flags, args, imm⟩ = acc.getD (args.getD (2 - acc.getD m0 0).toNat 0).toNat 0) := by
          show _ = _
          simp only [vNode, vArg, if_true, if_false, hm0, Int.toNat_natCast] <;> rfl
        have hp1 : pw 1 = 2 := rfl
        rw [hp1] at b0
        have h01 : acc.getD m0 0 = 0 ∨ acc.getD m0 0 = 1 := by omega
        clear hsel hp1 o0 o33 o14
        rcases h01 with h01 | h01
        · rw [h01] at y0 HVN
          have HVN2 : Hid (vNode ts env acc ⟨15, width, flags, args, imm⟩ = acc.getD m2 0) := by
            show _ = _
            rw [HVN.out, show ((2 : Int) - 0).toNat = 2 by decide, hm2]; rfl
          clear HVN h01
          have HVN := HVN2
          clear HVN2
          generalize acc.getD m0 0 = a0 at *
          generalize acc.getD m1 0 = a1 at *
          generalize acc.getD m2 0 = a2 at *
          clear hr0 b0 p0 hm0 hr1 b1 p1 hm1 hr2 b2 p2 hm2
          go_wp2_with fail
          have wI0 : IntKind.i64.wrap 0 = 0 := by decide
          have wI1 : IntKind.i64.wrap 1 = 1 := by decide
          have wI2 : IntKind.i64.wrap 2 = 2 := by decide
          go_quiet (fail)
          clear wI0 wI1 wI2
          go_wp2_with (at_builtin; refine wpList_append_own _ rfl _ _ 33 rfl (w.heap.size) 34 i0 (.int .u32 0) 1 4 Try.underlying33 hi0 hz0 hz1 hz2 rfl (by decide) _ _ _ rfl ((ownDr (HO0.out.alloc _) _).alloc _) ⟨_, 0, none⟩ 1 1 [.int .u32 (a2)] rfl rfl ?c1x5 ?c2x5 ?c3x5 ?c4x5 ?c5x5 ?_)
          case c1x5 =>
            intro i u h
            rcases i with _ | i
            · cases h; simp [go_sem, Addr.add]
            · cases h
          case c2x5 => simp [Value.oneCell']
          case c3x5 => unfold maxLen; omega
          case c4x5 => omega
          case c5x5 => first | omega | (simp; omega)
          intro v' w2 hown' hgrow _
          have HO := Lib.hid hown'
          have HG := Lib.hid hgrow
          clear hown' hgrow
          go_wp2_with fail
          go_roundw
          case rel => exact ⟨j + 1, by omega, by go_num, RowI.app1 HO.out HDL.out (by rw [HS.out, HVN.out] <;> rfl), Below.grown ((below_drewN (HB.out.alloc (by omega) _) _).alloc (by simp; omega) _) HG.out (by simp; omega) (own_ge HO0.out)⟩
          case measure => simp [intOf]; omega
        · rw [h01] at y0 HVN
          have HVN2 : Hid (vNode ts env acc ⟨15, width, flags, args, imm⟩ = acc.getD m1 0) := by
            show _ = _
            rw [HVN.out, show ((2 : Int) - 1).toNat = 1 by decide, hm1]; rfl
          clear HVN h01
          have HVN := HVN2
          clear HVN2
          generalize acc.getD m0 0 = a0 at *
          generalize acc.getD m1 0 = a1 at *
          generalize acc.getD m2 0 = a2 at *
          clear hr0 b0 p0 hm0 hr1 b1 p1 hm1 hr2 b2 p2 hm2
          go_wp2_with fail
          have wI0 : IntKind.i64.wrap 0 = 0 := by decide
          have wI1 : IntKind.i64.wrap 1 = 1 := by decide
          have wI2 : IntKind.i64.wrap 2 = 2 := by decide
          go_quiet (fail)
          clear wI0 wI1 wI2
          go_wp2_with (at_builtin; refine wpList_append_own _ rfl _ _ 33 rfl (w.heap.size) 34 i0 (.int .u32 0) 1 4 Try.underlying33 hi0 hz0 hz1 hz2 rfl (by decide) _ _ _ rfl ((ownDr (HO0.out.alloc _) _).alloc _) ⟨_, 0, none⟩ 1 1 [.int .u32 (a1)] rfl rfl ?c1x6 ?c2x6 ?c3x6 ?c4x6 ?c5x6 ?_)
          case c1x6 =>
            intro i u h
            rcases i with _ | i
            · cases h; simp [go_sem, Addr.add]
            · cases h
          case c2x6 => simp [Value.oneCell']
          case c3x6 => unfold maxLen; omega
          case c4x6 => omega
          case c5x6 => first | omega | (simp; omega)
          intro v' w2 hown' hgrow _
          have HO := Lib.hid hown'
          have HG := Lib.hid hgrow
          clear hown' hgrow
          go_wp2_with fail
          go_roundw
          case rel => exact ⟨j + 1, by omega, by go_num, RowI.app1 HO.out HDL.out (by rw [HS.out, HVN.out] <;> rfl), Below.grown ((below_drewN (HB.out.alloc (by omega) _) _).alloc (by simp; omega) _) HG.out (by simp; omega) (own_ge HO0.out)⟩
          case measure => simp [intOf]; omega
      by_cases o16 : 16 ≤ op
      · have hlen : args.length = 1 := by have := HN.out.len; have := HN.out.ar; simp only at *; rcases arV_cases op with h | h | h | h | h <;> omega
        have HR := Lib.hid HN.out.rng
        simp only at HR
        have hn0 : 0 < args.length := by omega
        have HN2 := Lib.hid hlen
        clear hlen
        obtain ⟨ab, ao, rfl, hab, hcs⟩ := HAV.out.row hn0
        have hr0 := HR.out 0 hn0
        obtain ⟨m0, hm0⟩ := Int.eq_ofNat_of_zero_le hr0.1
        have hj0 : m0 < j := by omega
        have hmt0 : m0 < ts.length := by omega
        have d0 := hcs 0 hn0
        rw [hm0] at d0
        rw [Nat.add_zero] at d0
        obtain ⟨rb, rq, rfl, hrb, hro⟩ := HRI.out.row (by rw [HDL.out]; omega)
        have y0 := hro m0 (by rw [HDL.out]; exact hj0)
        have b0 := HW.out m0 hj0
        have p0 := @pw_le32 (ts.getD m0 default).width (nodeOk HZ.out hmt0).wid.2
        have u0 : 0 ≤ acc.getD m0 0 := b0.1
        have v0 : acc.getD m0 0 ≤ 4294967295 := by omega
        have ij0 : (m0 : Int) < j := by omega
        have t0 : (m0 : Int) < ts.length := by omega
        have s0 : (0 : Int) < args.length := by omega
        obtain ⟨nb, nq, nc, nav, ne, _, hnb, _, _, w0, _⟩ := HT.out.at2 HB.out hmt0
        cases ne
        have hbr : b < wr.heap.size := by omega
        clear hcs hro
        have HVN : Hid (vNode ts env acc ⟨op, width, flags, args, imm⟩ = exX op (wdt ts args 0) width (acc.getD m0 0)) := by
          show _ = _
          simp only [vNode, vArg]
          rw [if_neg (by omega), if_neg (by omega), if_neg (by omega), if_neg (by omega), if_pos o16, hm0]; rfl
        generalize acc.getD m0 0 = a0 at *
        have hwd : wdt ts args 0 = (ts.getD m0 default).width := by unfold wdt; rw [hm0, Int.toNat_natCast]
        rw [← hwd] at w0
        clear hr0 b0 p0 hm0 hwd
        have z0 : (op == 0) = false := by simpa using o0
        have z33 : (op == 33) = false := by simpa using o33
        have z14 : (op == 14) = false := by simpa using o14
        have z15 : (op == 15) = false := by simpa using o15
        have z16 : decide (16 ≤ op) = true := by simpa using o16
        clear o0 o33 o14 o15 o16
        go_wp2_with fail
        go_quiet (first | (go_at_call 87; exact quiet_same (rExtend op (wdt ts args 0) width a0 u0 v0 _)))
        go_wp2_with (at_builtin; refine wpList_append_own _ rfl _ _ 33 rfl (w.heap.size) 34 i0 (.int .u32 0) 1 4 Try.underlying33 hi0 hz0 hz1 hz2 rfl (by decide) _ _ _ rfl ((ownDr (HO0.out.alloc _) _).alloc _) ⟨_, 0, none⟩ 1 1 [.int .u32 (exX op (wdt ts args 0) width a0)] rfl rfl ?c1x7 ?c2x7 ?c3x7 ?c4x7 ?c5x7 ?_)
        case c1x7 =>
          intro i u h
          rcases i with _ | i
          · cases h; simp [go_sem, Addr.add]
          · cases h
        case c2x7 => simp [Value.oneCell']
        case c3x7 => unfold maxLen; omega
        case c4x7 => omega
        case c5x7 => first | omega | (simp; omega)
        intro v' w2 hown' hgrow _
        have HO := Lib.hid hown'
        have HG := Lib.hid hgrow
        clear hown' hgrow
        go_wp2_with fail
        go_roundw
        case rel => exact ⟨j + 1, by omega, by go_num, RowI.app1 HO.out HDL.out (by rw [HS.out, HVN.out] <;> rfl), Below.grown ((below_drewN (HB.out.alloc (by omega) _) _).alloc (by simp; omega) _) HG.out (by simp; omega) (own_ge HO0.out)⟩
        case measure => simp [intOf]; omega
      have hlen : args.length = 2 := by have := HN.out.len; have := HN.out.ar; simp only at *; rcases arV_cases op with h | h | h | h | h <;> omega
      have HR := Lib.hid HN.out.rng
      simp only at HR
      have hn0 : 0 < args.length := by omega
      have hn1 : 1 < args.length := by omega
      have HN2 := Lib.hid hlen
      clear hlen
      obtain ⟨ab, ao, rfl, hab, hcs⟩ := HAV.out.row hn0
      have hr0 := HR.out 0 hn0
      obtain ⟨m0, hm0⟩ := Int.eq_ofNat_of_zero_le hr0.1
      have hj0 : m0 < j := by omega
      have hmt0 : m0 < ts.length := by omega
      have d0 := hcs 0 hn0
      rw [hm0] at d0
      rw [Nat.add_zero] at d0
      have hr1 := HR.out 1 hn1
      obtain ⟨m1, hm1⟩ := Int.eq_ofNat_of_zero_le hr1.1
      have hj1 : m1 < j := by omega
      have hmt1 : m1 < ts.length := by omega
      have d1 := hcs 1 hn1
      rw [hm1] at d1
      obtain ⟨rb, rq, rfl, hrb, hro⟩ := HRI.out.row (by rw [HDL.out]; omega)
      have y0 := hro m0 (by rw [HDL.out]; exact hj0)
      have b0 := HW.out m0 hj0
      have p0 := @pw_le32 (ts.getD m0 default).width (nodeOk HZ.out hmt0).wid.2
      have u0 : 0 ≤ acc.getD m0 0 := b0.1
      have v0 : acc.getD m0 0 ≤ 4294967295 := by omega
      have ij0 : (m0 : Int) < j := by omega
      have t0 : (m0 : Int) < ts.length := by omega
      have s0 : (0 : Int) < args.length := by omega
      have y1 := hro m1 (by rw [HDL.out]; exact hj1)
      have b1 := HW.out m1 hj1
      have p1 := @pw_le32 (ts.getD m1 default).width (nodeOk HZ.out hmt1).wid.2
      have u1 : 0 ≤ acc.getD m1 0 := b1.1
      have v1 : acc.getD m1 0 ≤ 4294967295 := by omega
      have ij1 : (m1 : Int) < j := by omega
      have t1 : (m1 : Int) < ts.length := by omega
      have s1 : (1 : Int) < args.length := by omega
      clear hcs hro
      have HVN : Hid (vNode ts env acc ⟨op, width, flags, args, imm⟩ = toX op width (acc.getD m0 0) (acc.getD m1 0)) := by
        show _ = _
        simp only [vNode, vArg]
        rw [if_neg (by omega), if_neg (by omega), if_neg (by omega), if_neg (by omega), if_neg (by omega), hm0, hm1]; rfl
      generalize acc.getD m0 0 = a0 at *
      generalize acc.getD m1 0 = a1 at *
      clear hr0 b0 p0 hm0 hr1 b1 p1 hm1
      have z0 : (op == 0) = false := by simpa using o0
      have z33 : (op == 33) = false := by simpa using o33
      have z14 : (op == 14) = false := by simpa using o14
      have z15 : (op == 15) = false := by simpa using o15
      have z16 : decide (16 ≤ op) = false := by simpa using o16
      clear o0 o33 o14 o15 o16
      go_wp2_with fail
      go_quiet (first | (go_at_call 88; exact Calls.quiet_of ((rTotal op width a0 a1 _ u0 v0 u1 v1).mono fun _ _ h => ⟨h.1, h.2⟩)))
      go_wp2_with (at_builtin; refine wpList_append_own _ rfl _ _ 33 rfl (w.heap.size) 34 i0 (.int .u32 0) 1 4 Try.underlying33 hi0 hz0 hz1 hz2 rfl (by decide) _ _ _ rfl ((ownDr (HO0.out.alloc _) _).alloc _) ⟨_, 0, none⟩ 1 1 [.int .u32 (toX op width a0 a1)] rfl rfl ?c1x8 ?c2x8 ?c3x8 ?c4x8 ?c5x8 ?_)
      case c1x8 =>
        intro i u h
        rcases i with _ | i
        · cases h; simp [go_sem, Addr.add]
        · cases h
      case c2x8 => simp [Value.oneCell']
      case c3x8 => unfold maxLen; omega
      case c4x8 => omega
      case c5x8 => first | omega | (simp; omega)
      intro v' w2 hown' hgrow _
      have HO := Lib.hid hown'
      have HG := Lib.hid hgrow
      clear hown' hgrow
      go_wp2_with fail
      go_roundw
      case rel => exact ⟨j + 1, by omega, by go_num, RowI.app1 HO.out HDL.out (by rw [HS.out, HVN.out] <;> rfl), Below.grown ((below_drewN (HB.out.alloc (by omega) _) _).alloc (by simp; omega) _) HG.out (by simp; omega) (own_ge HO0.out)⟩
      case measure => simp [intOf]; omega
    · obtain rfl : j = ts.length := by omega
      rw [List.take_length] at hrow hdl
      have HO2 := Lib.hid (And.intro hrow hdl)
      clear hrow hdl hb
      go_wp2_with fail
      go_ret
      exact ⟨_, rfl, HO2.out.1.ints (by rw [HO2.out.2]; omega), HB.out⟩

end Go.Proofs.Ythopdfikikdcbaa
/- Walks of Values and Eval of the answer, of SameWords, of known, and of the statements TermValidates, TermValues. -/
namespace Go.Proofs.Ythopdfikikdcbaa
open Go.RowKit Wd
set_option linter.unusedVariables false
set_option linter.unusedSimpArgs false

set_option maxRecDepth 100000 in
set_option maxHeartbeats 1000000 in
theorem rValues (ts : List Nd) (env : List Int) (tv ev : Value) (w : World) (hts : Nds w tv ts) (hev : Ints .u32 w ev env) (hi : ∀ x ∈ ts, 0 ≤ x.imm ∧ x.imm ≤ 4294967295) (hE : ∀ x ∈ env, 0 ≤ x ∧ x ≤ 4294967295) : Calls Try.prog 23 #[tv, ev] w fun e w' => ∃ v, e = .returned (.tuple #[v, .int .i64 (vaE ts env)]) ∧ Ints .u32 w' v (vaL ts env) ∧ Below w.heap.size w w' := by
  have HT := Lib.hid hts
  have HI := Lib.hid hi
  have HEV := Lib.hid hev
  have HE := Lib.hid hE
  obtain ⟨ta, tc, rfl, ht1, ht2⟩ := hts.shape
  obtain ⟨ea, ec, rfl, he1, he2⟩ := hev.shape
  clear hi hts hev hE
  cases hz : (valE ts != 0)
  rotate_left
  · have HZ : Hid (valE ts ≠ 0) := by
      have h : ¬ valE ts = 0 := by simpa using hz
      exact h
    go_enter Try.func23, Try.ntmps23
    go_wp2_with fail
    refine (rValidate ts _ _ HT.out HI.out).mono ?_
    rintro e w1 ⟨rfl, hb1⟩
    go_wp2_with fail
    go_ret2
    exact ⟨_, by rw [vaE_bad HZ.out]; rfl, by rw [vaL_bad (by rw [vaE_bad HZ.out]; exact HZ.out)]; exact Ints.nil _ _, hb1⟩
  have hz' : valE ts = 0 := by simpa using hz
  have HZ := Lib.hid hz'
  clear hz hz'
  cases hen : envB ts env
  · have HEN := Lib.hid hen
    clear hen
    go_enter Try.func23, Try.ntmps23
    go_wp2_with fail
    refine (rValidate ts _ _ HT.out HI.out).mono ?_
    rintro e w1 ⟨rfl, hb1⟩
    rw [HZ.out]
    have HB1 := Lib.hid hb1
    clear hb1
    go_wp2_with fail
    refine (rIsEnv ts env _ _ _ (HT.out.stays HB1.out) (HEV.out.stays HB1.out) HI.out HE.out HZ.out).mono ?_
    rintro e w2 ⟨rfl, hb2⟩
    rw [HEN.out]
    have HB2 := Lib.hid (below_next HB1.out HB1.out.size hb2)
    clear hb2
    go_wp2_with fail
    go_ret2
    exact ⟨_, by rw [vaE_env HZ.out HEN.out]; rfl, by rw [vaL_bad (by rw [vaE_env HZ.out HEN.out]; decide)]; exact Ints.nil _ _, HB2.out⟩
  · have HEN := Lib.hid hen
    clear hen
    go_enter Try.func23, Try.ntmps23
    go_wp2_with fail
    refine (rValidate ts _ _ HT.out HI.out).mono ?_
    rintro e w1 ⟨rfl, hb1⟩
    rw [HZ.out]
    have HB1 := Lib.hid hb1
    clear hb1
    go_wp2_with fail
    refine (rIsEnv ts env _ _ _ (HT.out.stays HB1.out) (HEV.out.stays HB1.out) HI.out HE.out HZ.out).mono ?_
    rintro e w2 ⟨rfl, hb2⟩
    rw [HEN.out]
    have HB2 := Lib.hid (below_next HB1.out HB1.out.size hb2)
    clear hb2
    go_wp2_with fail
    refine (rBelow ts env _ _ _ (HT.out.stays HB2.out) (HEV.out.stays HB2.out) HI.out HE.out HZ.out (envOk_of HE.out HEN.out)).mono ?_
    rintro e w3 ⟨v3, rfl, hv3, hb3⟩
    have H3 := Lib.hid (And.intro hv3 hb3)
    clear hv3 hb3
    go_wp2_with fail
    go_ret2
    exact ⟨_, by rw [vaE_ok HZ.out HEN.out]; rfl, by rw [vaL_ok (vaE_ok HZ.out HEN.out)]; exact H3.out.1, below_next HB2.out HB2.out.size H3.out.2⟩

set_option maxRecDepth 100000 in
set_option maxHeartbeats 1000000 in
theorem rEval (ts : List Nd) (env : List Int) (tv ev : Value) (w : World) (hts : Nds w tv ts) (hev : Ints .u32 w ev env) (hi : ∀ x ∈ ts, 0 ≤ x.imm ∧ x.imm ≤ 4294967295) (hE : ∀ x ∈ env, 0 ≤ x ∧ x ≤ 4294967295) : Calls Try.prog 21 #[tv, ev] w fun e w' => e = .returned (.tuple #[.int .u32 (evV ts env), .int .i64 (vaE ts env)]) ∧ Below w.heap.size w w' := by
  have HT := Lib.hid hts
  have HI := Lib.hid hi
  have HEV := Lib.hid hev
  have HE := Lib.hid hE
  obtain ⟨ta, tc, rfl, ht1, ht2⟩ := hts.shape
  obtain ⟨ea, ec, rfl, he1, he2⟩ := hev.shape
  clear hi hts hev hE
  cases hz : (vaE ts env != 0)
  rotate_left
  · have HZ : Hid (vaE ts env ≠ 0) := by
      have h : ¬ vaE ts env = 0 := by simpa using hz
      exact h
    have HV : Hid (evV ts env = 0) := if_neg HZ.out
    go_enter Try.func21, Try.ntmps21
    go_wp2_with fail
    refine (rValues ts env _ _ _ HT.out HEV.out HI.out HE.out).mono ?_
    rintro e w1 ⟨v1, rfl, hv1, hb1⟩
    go_wp2_with fail
    go_ret2
    exact ⟨by rw [HV.out]; rfl, hb1⟩
  have hz' : vaE ts env = 0 := by simpa using hz
  have HZ := Lib.hid hz'
  clear hz hz'
  have hl1 := (valid_facts (vaE_zero HZ.out).1).1
  have HV : Hid (evV ts env = (vals ts env).getD (ts.length - 1) 0) := if_pos HZ.out
  go_enter Try.func21, Try.ntmps21
  go_wp2_with fail
  refine (rValues ts env _ _ _ HT.out HEV.out HI.out HE.out).mono ?_
  rintro e w1 ⟨v1, rfl, hv1, hb1⟩
  rw [HZ.out]
  rw [vaL_ok HZ.out] at hv1
  obtain ⟨wa, wc, rfl, hw1, hw2⟩ := hv1.shape
  have hvl := vals_len ts env
  obtain ⟨b3, q3, rfl, _, hcs⟩ := hv1.row (by omega)
  have e1 := hcs (ts.length - 1) (by omega)
  rw [← HV.out] at e1
  rw [hvl] at *
  have HB1 := Lib.hid hb1
  clear hv1 hcs hb1 hvl
  go_wp2_with fail
  go_ret2
  exact ⟨by rw [HZ.out]; rfl, HB1.out⟩

set_option maxRecDepth 100000 in
set_option maxHeartbeats 4000000 in
theorem sameWords_any (xs ys : List Int) (v u : Value) (w : World) (hv : Ints .u32 w v xs) (hu : Ints .u32 w u ys) : Calls Try.prog 24 #[v, u] w fun e w' => e = .returned (.bool (decide (xs = ys))) ∧ Dr w w' := by
  have HX := Lib.hid hv
  have HY := Lib.hid hu
  obtain ⟨a, c, rfl, h1, h2⟩ := hv.shape
  obtain ⟨a2, c2, rfl, k1, k2⟩ := hu.shape
  clear hv hu
  cases hne : ((xs.length : Int) != ys.length)
  · have hl : xs.length = ys.length := by
      have h : (xs.length : Int) = ys.length := by simpa using hne
      omega
    have HL := Lib.hid hl
    clear hl
    go_enter Try.func24, Try.ntmps24
    go_wp2_with fail
    go_loopw [5] (fun i wr => ∃ j : Nat, j ≤ xs.length ∧ i = .int .i64 j ∧ Hid (∀ i, i < j → xs.getD i 0 = ys.getD i 0) ∧ Dr w wr) (fun i _ => xs.length - (intOf i).toNat)
    case atStart => exact ⟨0, Nat.zero_le _, rfl, (fun i hi => absurd hi (by omega)), Dr.refl _⟩
    case round =>
      obtain ⟨j, hj, rfl, hno, n, rfl⟩ := hrel
      by_cases hlt : j < xs.length
      · have hlt2 : j < ys.length := by have := HL.out; omega
        obtain ⟨b, q, c', e', _, _, d0⟩ := HX.out.at hlt
        cases e'
        obtain ⟨b2, q2, c2', e', _, _, d1⟩ := HY.out.at hlt2
        cases e'
        generalize hx : xs.getD j 0 = x at *
        generalize hy : ys.getD j 0 = y at *
        have HXJ := Lib.hid hx
        have HYJ := Lib.hid hy
        clear hx hy
        cases hc : (x != y)
        · have HC : Hid (x = y) := by have : x = y := by simpa using hc
                                      exact this
          go_wp2_with fail
          go_quiet (fail)
          go_wp2_with fail
          go_roundw
          case rel => exact ⟨j + 1, by omega, by go_num, (fun i hi => by
            by_cases e : i = j
            · rw [e, HXJ.out, HYJ.out]; exact HC.out
            · exact hno.out i (by omega)), _, rfl⟩
          case measure => simp [intOf]; omega
        · have HV : Hid (decide (xs = ys) = false) := by
            have hc' : x ≠ y := by simpa using hc
            show _ = _
            rw [decide_eq_false_iff_not]
            intro e
            exact hc' (by rw [← HXJ.out, ← HYJ.out, e])
          go_wp2_with fail
          go_quiet (fail)
          go_wp2_with fail
          go_ret
          exact ⟨ret_b HV.out.symm, _, by first | rfl | exact World.drewN_drewN _ _ _⟩
      · have HV : Hid (decide (xs = ys) = true) := by
          show _ = _
          rw [decide_eq_true_iff]
          exact ext_getD HL.out (fun i hi => hno.out i (by omega))
        go_wp2_with fail
        go_ret
        exact ⟨ret_b HV.out.symm, _, rfl⟩
  · have HV : Hid (decide (xs = ys) = false) := by
      have hl : xs.length ≠ ys.length := by intro e; rw [e] at hne; simp at hne
      show _ = _
      rw [decide_eq_false_iff_not]
      intro e
      exact hl (by rw [e])
    go_enter Try.func24, Try.ntmps24
    go_wp2_with fail
    go_ret
    exact ⟨ret_b HV.out.symm, Dr.refl _⟩

def knownT : List Nd := [⟨33, 8, 0, [], 0⟩, ⟨0, 8, 0, [], 1⟩, ⟨1, 8, 0, [0, 1], 0⟩]
theorem known_facts : valE knownT = 0 ∧ depV knownT = 2 ∧ envB knownT [255, 0, 0, 0] = true ∧ vaE knownT [255, 0, 0, 0] = 0 ∧ evV knownT [255, 0, 0, 0] = 0 := by decide +kernel
theorem kn_ints (w : World) : Ints .i64 (((w.alloc (.cells #[.int .i64 0, .int .i64 1] 3)).alloc (.cells #[.int .i64 33, .int .i64 8, .int .i64 0, .slice none 0 0, .int .u32 0, .int .i64 0, .int .i64 8, .int .i64 0, .slice none 0 0, .int .u32 1, .int .i64 1, .int .i64 8, .int .i64 0, .slice (some ⟨w.heap.size, 0, none⟩) 2 2, .int .u32 0] 47)).alloc (.cells #[.int .u32 255, .int .u32 0, .int .u32 0, .int .u32 0] 34)) (.slice (some ⟨w.heap.size, 0, none⟩) 2 2) [0, 1] := by
  refine ⟨_, _, rfl, Nat.le_refl _, ⟨by simp, by omega⟩, (fun hh => by cases hh), fun i hi => ⟨_, _, rfl, by simp; omega, ?_⟩⟩
  have : i = 0 ∨ i = 1 := by simp at hi; omega
  rcases this with rfl | rfl <;> simp [go_sem]
theorem kn_nds (w : World) : Nds (((w.alloc (.cells #[.int .i64 0, .int .i64 1] 3)).alloc (.cells #[.int .i64 33, .int .i64 8, .int .i64 0, .slice none 0 0, .int .u32 0, .int .i64 0, .int .i64 8, .int .i64 0, .slice none 0 0, .int .u32 1, .int .i64 1, .int .i64 8, .int .i64 0, .slice (some ⟨w.heap.size, 0, none⟩) 2 2, .int .u32 0] 47)).alloc (.cells #[.int .u32 255, .int .u32 0, .int .u32 0, .int .u32 0] 34)) (.slice (some ⟨w.heap.size + 1, 0, none⟩) 3 3) knownT := by
  refine ⟨_, _, rfl, Nat.le_refl _, ⟨by simp [knownT], by omega⟩, (fun hh => by cases hh), fun i hi => ⟨_, _, rfl, by simp, ?_⟩⟩
  have : i = 0 ∨ i = 1 ∨ i = 2 := by simp [knownT] at hi; omega
  rcases this with rfl | rfl | rfl
  · exact ⟨by simp [go_sem, knownT], by simp [go_sem, knownT], by simp [go_sem, knownT], ⟨_, by simp [go_sem], Ints.nil _ _⟩, by simp [go_sem, knownT]⟩
  · exact ⟨by simp [go_sem, knownT], by simp [go_sem, knownT], by simp [go_sem, knownT], ⟨_, by simp [go_sem], Ints.nil _ _⟩, by simp [go_sem, knownT]⟩
  · exact ⟨by simp [go_sem, knownT], by simp [go_sem, knownT], by simp [go_sem, knownT], ⟨_, by simp [go_sem], kn_ints w⟩, by simp [go_sem, knownT]⟩
theorem kn_env (w : World) : Ints .u32 (((w.alloc (.cells #[.int .i64 0, .int .i64 1] 3)).alloc (.cells #[.int .i64 33, .int .i64 8, .int .i64 0, .slice none 0 0, .int .u32 0, .int .i64 0, .int .i64 8, .int .i64 0, .slice none 0 0, .int .u32 1, .int .i64 1, .int .i64 8, .int .i64 0, .slice (some ⟨w.heap.size, 0, none⟩) 2 2, .int .u32 0] 47)).alloc (.cells #[.int .u32 255, .int .u32 0, .int .u32 0, .int .u32 0] 34)) (.slice (some ⟨w.heap.size + 1 + 1, 0, none⟩) 4 4) [255, 0, 0, 0] := by
  refine ⟨_, _, rfl, Nat.le_refl _, ⟨by simp, by omega⟩, (fun hh => by cases hh), fun i hi => ⟨_, _, rfl, by simp, ?_⟩⟩
  have : i = 0 ∨ i = 1 ∨ i = 2 ∨ i = 3 := by simp at hi; omega
  rcases this with rfl | rfl | rfl | rfl <;> simp [go_sem]
theorem kn_imm : ∀ x ∈ knownT, 0 ≤ x.imm ∧ x.imm ≤ 4294967295 := by decide
theorem kn_wds : ∀ x ∈ ([255, 0, 0, 0] : List Int), 0 ≤ x ∧ x ≤ 4294967295 := by decide
set_option maxRecDepth 100000 in
set_option maxHeartbeats 1000000 in
theorem known7 (w : World) : Calls Try.prog 12 #[] w fun e w' => e = .returned (.bool true) ∧ Below w.heap.size w w' := by
  have HK := Lib.hid known_facts
  have HN := Lib.hid (kn_nds w)
  have HE := Lib.hid (kn_env w)
  have HB0 : Hid (Below w.heap.size w (((w.alloc (.cells #[.int .i64 0, .int .i64 1] 3)).alloc (.cells #[.int .i64 33, .int .i64 8, .int .i64 0, .slice none 0 0, .int .u32 0, .int .i64 0, .int .i64 8, .int .i64 0, .slice none 0 0, .int .u32 1, .int .i64 1, .int .i64 8, .int .i64 0, .slice (some ⟨w.heap.size, 0, none⟩) 2 2, .int .u32 0] 47)).alloc (.cells #[.int .u32 255, .int .u32 0, .int .u32 0, .int .u32 0] 34))) := (((Below.refl _ _).alloc (Nat.le_refl _) _).alloc (by simp) _).alloc (by simp; omega) _
  go_enter Try.func12, Try.ntmps12
  go_wp2_with fail
  refine (pEval knownT [255, 0, 0, 0] _ _ _ HN.out HE.out kn_imm kn_wds).mono ?_
  rintro e w1 ⟨rfl, hb1⟩
  rw [HK.out.2.2.2.1, HK.out.2.2.2.2]
  have HB1 := Lib.hid hb1
  clear hb1
  go_wp2_with fail
  refine (pDepth knownT _ _ (HN.out.stays HB1.out) kn_imm).mono ?_
  rintro e w2 ⟨rfl, hb2⟩
  rw [HK.out.1, HK.out.2.1]
  have HB2 := Lib.hid hb2
  clear hb2
  go_wp2_with fail
  go_ret
  exact ⟨rfl, below_hop (below_hop HB0.out HB1.out) HB2.out⟩

set_option maxRecDepth 100000 in
set_option maxHeartbeats 1000000 in
theorem wTermValidates (ts : List Nd) (tv : Value) (w : World) (hts : Nds w tv ts) (hi : ∀ x ∈ ts, 0 ≤ x.imm ∧ x.imm ≤ 4294967295) : Calls Try.prog 3 #[tv] w fun e w' => e = .returned (.bool true) ∧ Below w.heap.size w w' := by
  have HT := Lib.hid hts
  have HI := Lib.hid hi
  obtain ⟨ta, tc, rfl, ht1, ht2⟩ := hts.shape
  clear hi hts
  cases hl : longB ts
  · go_enter Try.func3, Try.ntmps3
    go_wp2_with fail
    refine (long_any ts _ _ HT.out).mono ?_
    rintro e w' ⟨rfl, rfl⟩
    go_wp2_with fail
    refine (pWidths ts _ _ HT.out HI.out).mono ?_
    rintro e w1 ⟨v1, rfl, hv1, hb1⟩
    have HB1 := Lib.hid hb1
    clear hb1
    go_wp2_with fail
    refine (rWidths ts _ _ (HT.out.stays HB1.out) HI.out).mono ?_
    rintro e w2 ⟨v2, rfl, hv2, hb2⟩
    have HB2 := Lib.hid (below_hop HB1.out hb2)
    have H1 := Lib.hid (Ints.stays hv1 hb2)
    have H2 := Lib.hid hv2
    obtain ⟨a1, c1, rfl, _⟩ := hv1.shape
    obtain ⟨a2, c2, rfl, _⟩ := hv2.shape
    clear hb2 hv1 hv2
    go_wp2_with fail
    refine (pDepth ts _ _ (HT.out.stays HB2.out) HI.out).mono ?_
    rintro e w3 ⟨rfl, hb3⟩
    have HB3 := Lib.hid hb3
    clear hb3
    go_wp2_with fail
    refine (rDepth ts _ _ (HT.out.stays (below_hop HB2.out HB3.out)) HI.out).mono ?_
    rintro e w4 ⟨rfl, hb4⟩
    have HB4 := Lib.hid (below_hop HB3.out hb4)
    clear hb4
    go_wp2_with fail
    refine (pValidate ts _ _ (HT.out.stays (below_hop HB2.out HB4.out)) HI.out).mono ?_
    rintro e w5 ⟨rfl, hb5⟩
    have HB5 := Lib.hid (below_hop HB4.out hb5)
    clear hb5
    go_wp2_with fail
    refine (rValidate ts _ _ (HT.out.stays (below_hop HB2.out HB5.out)) HI.out).mono ?_
    rintro e w6 ⟨rfl, hb6⟩
    have HB6 := Lib.hid (below_hop HB5.out hb6)
    clear hb6
    go_wp2_with fail
    refine (sameInts_any (widL ts) (widL ts) _ _ _ (H1.out.stays HB6.out) (H2.out.stays HB6.out)).mono ?_
    rintro e w7 ⟨rfl, hd7⟩
    have HB7 := Lib.hid (below_hop (below_hop HB2.out HB6.out) (hd7.below _))
    clear hd7
    rw [decide_eq_true (rfl : widL ts = widL ts)]
    go_wp2_with fail
    refine (known7 _).mono ?_
    rintro e w8 ⟨rfl, hb8⟩
    go_wp2_with fail
    go_ret
    exact ⟨rfl, below_hop HB7.out hb8⟩
  · go_enter Try.func3, Try.ntmps3
    go_wp2_with fail
    refine (long_any ts _ _ HT.out).mono ?_
    rintro e w' ⟨rfl, rfl⟩
    go_wp2_with fail
    refine (known7 _).mono ?_
    rintro e w8 ⟨rfl, hb8⟩
    go_wp2_with fail
    go_ret
    exact ⟨rfl, hb8⟩

set_option maxRecDepth 100000 in
set_option maxHeartbeats 1000000 in
theorem wTermValues (ts : List Nd) (env : List Int) (tv ev : Value) (w : World) (hts : Nds w tv ts) (hev : Ints .u32 w ev env) (hi : ∀ x ∈ ts, 0 ≤ x.imm ∧ x.imm ≤ 4294967295) (hE : ∀ x ∈ env, 0 ≤ x ∧ x ≤ 4294967295) : Calls Try.prog 4 #[tv, ev] w fun e w' => e = .returned (.bool true) ∧ Below w.heap.size w w' := by
  have HT := Lib.hid hts
  have HI := Lib.hid hi
  have HEV := Lib.hid hev
  have HE := Lib.hid hE
  obtain ⟨ta, tc, rfl, ht1, ht2⟩ := hts.shape
  obtain ⟨ea, ec, rfl, he1, he2⟩ := hev.shape
  clear hi hts hev hE
  have kn : ∀ w : World, Calls Try.prog 12 #[] w fun e w' => e = .returned (.bool true) ∧ Below w.heap.size w w' := known7
  have KN := Lib.hid kn
  clear kn
  cases hl : longB ts
  rotate_left
  · go_enter Try.func4, Try.ntmps4
    go_wp2_with fail
    refine (long_any ts _ _ HT.out).mono ?_
    rintro e w' ⟨rfl, rfl⟩
    go_wp2_with fail
    refine (KN.out _).mono ?_
    rintro e w8 ⟨rfl, hb8⟩
    go_wp2_with fail
    go_ret
    exact ⟨rfl, hb8⟩
  cases hl2 : decide (100 < (env.length : Int))
  rotate_left
  · go_enter Try.func4, Try.ntmps4
    go_wp2_with fail
    refine (long_any ts _ _ HT.out).mono ?_
    rintro e w' ⟨rfl, rfl⟩
    go_wp2_with fail
    refine (KN.out _).mono ?_
    rintro e w8 ⟨rfl, hb8⟩
    go_wp2_with fail
    go_ret
    exact ⟨rfl, hb8⟩
  go_enter Try.func4, Try.ntmps4
  go_wp2_with fail
  refine (long_any ts _ _ HT.out).mono ?_
  rintro e w' ⟨rfl, rfl⟩
  go_wp2_with fail
  refine (pEval ts env _ _ _ HT.out HEV.out HI.out HE.out).mono ?_
  rintro e w1 ⟨rfl, hb1⟩
  have HB1 := Lib.hid hb1
  clear hb1
  go_wp2_with fail
  refine (rEval ts env _ _ _ (HT.out.stays HB1.out) (HEV.out.stays HB1.out) HI.out HE.out).mono ?_
  rintro e w2 ⟨rfl, hb2⟩
  have HB2 := Lib.hid (below_hop HB1.out hb2)
  clear hb2
  go_wp2_with fail
  refine (pValues ts env _ _ _ (HT.out.stays HB2.out) (HEV.out.stays HB2.out) HI.out HE.out).mono ?_
  rintro e w3 ⟨v3, rfl, hv3, hb3⟩
  have HB3 := Lib.hid (below_hop HB2.out hb3)
  clear hb3
  obtain ⟨a3, c3, rfl, _⟩ := hv3.shape
  have H3 := Lib.hid hv3
  clear hv3
  go_wp2_with fail
  refine (rValues ts env _ _ _ (HT.out.stays HB3.out) (HEV.out.stays HB3.out) HI.out HE.out).mono ?_
  rintro e w4 ⟨v4, rfl, hv4, hb4⟩
  have HB4 := Lib.hid (below_hop HB3.out hb4)
  obtain ⟨a4, c4, rfl, _⟩ := hv4.shape
  have H4 := Lib.hid (And.intro (H3.out.stays hb4) hv4)
  clear hv4 hb4
  go_wp2_with fail
  refine (sameWords_any (vaL ts env) (vaL ts env) _ _ _ H4.out.1 H4.out.2).mono ?_
  rintro e w5 ⟨rfl, hd5⟩
  have HB5 := Lib.hid (below_hop HB4.out (hd5.below _))
  clear hd5
  rw [decide_eq_true (rfl : vaL ts env = vaL ts env)]
  go_wp2_with fail
  refine (KN.out _).mono ?_
  rintro e w8 ⟨rfl, hb8⟩
  go_wp2_with fail
  go_ret
  exact ⟨rfl, below_hop HB5.out hb8⟩

end Go.Proofs.Ythopdfikikdcbaa
/- Contracts of Share and Part, of the program and of the answer. -/
namespace Go.Proofs.Ythopdfikikdcbaa
open Go.RowKit Go.Maps Wd
set_option linter.unusedVariables false
set_option linter.unusedSimpArgs false
theorem ndV_of {ts : List Nd} (h : valE ts = 0) (hI : ∀ x ∈ ts, 0 ≤ x.imm ∧ x.imm ≤ 4294967295) : ∀ k, k < ts.length → NdV (nd ts k) := fun k hk => by
  have ho := nodeOk h hk
  obtain ⟨_, _, hS, _, _⟩ := valid_facts h
  have hs := shaped_facts (okS_at hS hk)
  have hc := arV_cases (nd ts k).op
  have h1 := ho.len
  have h2 := ho.ar
  have h3 := ho.wid
  change ((nd ts k).args.length : Int) = arV (nd ts k).op at h1
  change arV (nd ts k).op ≠ -1 at h2
  change 1 ≤ (nd ts k).width ∧ (nd ts k).width ≤ 32 at h3
  exact { op := ⟨by omega, by omega⟩, width := ⟨by omega, by omega⟩, flags := hs.2.2.2.1, len := by omega, imm := hI _ (mem_getD hk) }
theorem args_le {ts : List Nd} (h : valE ts = 0) (hI : ∀ x ∈ ts, 0 ≤ x.imm ∧ x.imm ≤ 4294967295) : ∀ k, k < ts.length → (nd ts k).args.length ≤ 1000 := fun k hk => by
  have := (ndV_of h hI k hk).len
  omega
theorem ShrIs.hop {w w1 w2 : World} {v : Value} {o : List Nd} (hb : Below w.heap.size w w1) (h : ShrIs w1 w2 v o) : ShrIs w w2 v o := by
  obtain ⟨bb, W, R, fv, avs, h1, h2, h3⟩ := h
  have := hb.size
  exact ⟨bb, W, R, fv, avs, h1, fun b hb => by have := h2 b hb; omega, below_hop hb h3⟩
theorem ShrIs.bel {w w2 : World} {v : Value} {o : List Nd} (h : ShrIs w w2 v o) : Below w.heap.size w w2 := by
  obtain ⟨bb, W, R, fv, avs, h1, h2, h3⟩ := h
  exact h3
theorem ShrIs.nds {w w2 : World} {v : Value} {o : List Nd} (h : ShrIs w w2 v o) (hl : o.length ≤ 100000) : Nds w2 v o := by
  obtain ⟨bb, W, R, fv, avs, h1, h2, h3⟩ := h
  exact h1.nds hl
def shrL (ts : List Nd) : List Nd := if valE ts = 0 then shr ts (ts.length - 1) else []
def prtE (ts : List Nd) (k : Int) : Int := if valE ts = 0 then (if k < 0 ∨ (ts.length : Int) ≤ k then 4 else 0) else valE ts
def prtL (ts : List Nd) (k : Int) : List Nd := if prtE ts k = 0 then shr ts k.toNat else []
theorem Nds.nil (w : World) : Nds w (.slice none 0 0) [] := ⟨none, 0, rfl, Nat.le_refl _, ⟨by simp, by omega⟩, fun _ => rfl, fun i hi => absurd hi (by simp)⟩
section
variable {ts : List Nd} {tv : Value} {w : World}
theorem share_last (h : valE ts = 0) (hI : ∀ x ∈ ts, 0 ≤ x.imm ∧ x.imm ≤ 4294967295) (hts : Nds w tv ts) :
    Calls Try.prog 53 #[tv, .int .i64 ((ts.length : Int) - 1)] w fun e w' => ∃ v, e = .returned v ∧ ShrIs w w' v (shr ts (ts.length - 1)) := by
  obtain ⟨h1, h2, _⟩ := valid_facts h
  have hc := share_any ts tv w (ts.length - 1) hts (valid_down h) (ndV_of h hI) (by omega) (by omega)
  rwa [show ((ts.length - 1 : Nat) : Int) = (ts.length : Int) - 1 by omega] at hc
theorem rShared_last (h : valE ts = 0) (hI : ∀ x ∈ ts, 0 ≤ x.imm ∧ x.imm ≤ 4294967295) (hts : Nds w tv ts) :
    Calls Try.prog 54 #[tv, .int .i64 ((ts.length : Int) - 1)] w fun e w' => ∃ v, e = .returned v ∧ Nds w' v (shr ts (ts.length - 1)) ∧ Below w.heap.size w w' := by
  obtain ⟨h1, h2, _⟩ := valid_facts h
  have hc := rShared ts tv w (ts.length - 1) hts (valid_down h) (by omega) (by omega) (args_le h hI)
  rwa [show ((ts.length - 1 : Nat) : Int) = (ts.length : Int) - 1 by omega] at hc
end
set_option maxRecDepth 100000 in
set_option maxHeartbeats 1000000 in
theorem pShare_ok (ts : List Nd) (tv : Value) (w : World) (h : valE ts = 0) (hI : ∀ x ∈ ts, 0 ≤ x.imm ∧ x.imm ≤ 4294967295) (hts : Nds w tv ts) :
    Calls Try.prog 26 #[tv] w fun e w' => ∃ v, e = .returned (.tuple #[v, .int .i64 0]) ∧ ShrIs w w' v (shr ts (ts.length - 1)) := by
  obtain ⟨h1, h2, _⟩ := valid_facts h
  have HT := Lib.hid hts
  have HE := Lib.hid h
  have HS := Lib.hid (fun W (hb : Below w.heap.size w W) => share_last h hI (hts.stays hb))
  have HP := Lib.hid (pValidate ts tv w hts hI)
  obtain ⟨ta, tc, rfl, ht1, ht2⟩ := hts.shape
  clear hts h hI
  go_enter Try.func26, Try.ntmps26
  go_wp2_with fail
  refine (HP.out).mono ?_
  rintro e w1 ⟨rfl, hb1⟩
  rw [HE.out]
  have HB1 := Lib.hid hb1
  clear hb1
  go_wp2_with fail
  refine (HS.out _ HB1.out).mono ?_
  rintro e w2 ⟨v, rfl, hs⟩
  have HSS := Lib.hid hs
  clear hs
  go_wp2_with fail
  go_ret2
  exact ⟨v, rfl, HSS.out.hop HB1.out⟩
set_option maxRecDepth 100000 in
set_option maxHeartbeats 1000000 in
theorem pShare_no (ts : List Nd) (tv : Value) (w : World) (h : valE ts ≠ 0) (hI : ∀ x ∈ ts, 0 ≤ x.imm ∧ x.imm ≤ 4294967295) (hts : Nds w tv ts) :
    Calls Try.prog 26 #[tv] w fun e w' => e = .returned (.tuple #[.slice none 0 0, .int .i64 (valE ts)]) ∧ Below w.heap.size w w' := by
  have HP := Lib.hid (pValidate ts tv w hts hI)
  clear hts hI
  have hne : (valE ts != 0) = true := by simpa using h
  clear h
  go_enter Try.func26, Try.ntmps26
  go_wp2_with fail
  refine (HP.out).mono ?_
  rintro e w1 ⟨rfl, hb1⟩
  have HB1 := Lib.hid hb1
  clear hb1
  go_wp2_with fail
  go_ret2
  exact ⟨rfl, HB1.out⟩
set_option maxRecDepth 100000 in
set_option maxHeartbeats 1000000 in
theorem rShare (ts : List Nd) (tv : Value) (w : World) (hI : ∀ x ∈ ts, 0 ≤ x.imm ∧ x.imm ≤ 4294967295) (hts : Nds w tv ts) :
    Calls Try.prog 27 #[tv] w fun e w' => ∃ v, e = .returned (.tuple #[v, .int .i64 (valE ts)]) ∧ Nds w' v (shrL ts) ∧ Below w.heap.size w w' := by
  have HT := Lib.hid hts
  have HP := Lib.hid (rValidate ts tv w hts hI)
  by_cases h : valE ts = 0
  · obtain ⟨h1, h2, _⟩ := valid_facts h
    have HE := Lib.hid h
    have HL : Hid (shrL ts = shr ts (ts.length - 1)) := if_pos h
    rw [HE.out]
    have HS := Lib.hid (fun W (hb : Below w.heap.size w W) => rShared_last h hI (hts.stays hb))
    obtain ⟨ta, tc, rfl, ht1, ht2⟩ := hts.shape
    clear hts h hI
    go_enter Try.func27, Try.ntmps27
    go_wp2_with fail
    refine (HP.out).mono ?_
    rintro e w1 ⟨rfl, hb1⟩
    rw [HE.out]
    have HB1 := Lib.hid hb1
    clear hb1
    go_wp2_with fail
    refine (HS.out _ HB1.out).mono ?_
    rintro e w2 ⟨v, rfl, hs, hb2⟩
    have HSS := Lib.hid hs
    have HB2 := Lib.hid hb2
    clear hs hb2
    go_wp2_with fail
    go_ret2
    exact ⟨v, rfl, by rw [HL.out]; exact HSS.out, below_hop HB1.out HB2.out⟩
  · have HL : Hid (shrL ts = []) := if_neg h
    have hne : (valE ts != 0) = true := by simpa using h
    clear h hts hI
    go_enter Try.func27, Try.ntmps27
    go_wp2_with fail
    refine (HP.out).mono ?_
    rintro e w1 ⟨rfl, hb1⟩
    have HB1 := Lib.hid hb1
    clear hb1
    go_wp2_with fail
    go_ret2
    exact ⟨_, rfl, by rw [HL.out]; exact Nds.nil _, HB1.out⟩
-- Part.
set_option maxRecDepth 100000 in
set_option maxHeartbeats 1000000 in
theorem pPart (ts : List Nd) (tv : Value) (k : Int) (w : World) (hI : ∀ x ∈ ts, 0 ≤ x.imm ∧ x.imm ≤ 4294967295) (hts : Nds w tv ts) :
    Calls Try.prog 28 #[tv, .int .i64 k] w fun e w' => ∃ v, e = .returned (.tuple #[v, .int .i64 (prtE ts k)]) ∧ Nds w' v (prtL ts k) ∧ Below w.heap.size w w' := by
  have HT := Lib.hid hts
  have HP := Lib.hid (pValidate ts tv w hts hI)
  by_cases h : valE ts = 0
  · obtain ⟨h1, h2, _⟩ := valid_facts h
    have HE := Lib.hid h
    by_cases hk : k < 0 ∨ (ts.length : Int) ≤ k
    · have HPE : Hid (prtE ts k = 4) := by show _ = _; unfold prtE; rw [if_pos h, if_pos hk]
      have HL : Hid (prtL ts k = []) := by show _ = _; unfold prtL; rw [HPE.out]; rfl
      rw [HPE.out]
      obtain ⟨ta, tc, rfl, ht1, ht2⟩ := hts.shape
      clear hts h hI
      rcases hk with hk | hk
      · have hk1 : decide (k < 0) = true := decide_eq_true hk
        go_enter Try.func28, Try.ntmps28
        go_wp2_with fail
        refine (HP.out).mono ?_
        rintro e w1 ⟨rfl, hb1⟩
        rw [HE.out]
        have HB1 := Lib.hid hb1
        clear hb1
        go_wp2_with fail
        go_ret2
        exact ⟨_, rfl, by rw [HL.out]; exact Nds.nil _, HB1.out⟩
      · have hk1 : decide (k < 0) = false := decide_eq_false (by omega)
        have hk2 : decide ((ts.length : Int) ≤ k) = true := decide_eq_true hk
        go_enter Try.func28, Try.ntmps28
        go_wp2_with fail
        refine (HP.out).mono ?_
        rintro e w1 ⟨rfl, hb1⟩
        rw [HE.out]
        have HB1 := Lib.hid hb1
        clear hb1
        go_wp2_with fail
        go_ret2
        exact ⟨_, rfl, by rw [HL.out]; exact Nds.nil _, HB1.out⟩
    · have HPE : Hid (prtE ts k = 0) := by show _ = _; unfold prtE; rw [if_pos h, if_neg hk]
      have HL : Hid (prtL ts k = shr ts k.toNat) := by show _ = _; unfold prtL; rw [HPE.out]; rfl
      rw [HPE.out]
      obtain ⟨j, rfl⟩ := Int.eq_ofNat_of_zero_le (show 0 ≤ k by omega)
      have hj : j < ts.length := by omega
      have HS := Lib.hid (fun W (hb : Below w.heap.size w W) => share_any ts tv W j (hts.stays hb) (valid_down h) (ndV_of h hI) hj (by omega))
      have HSL := Lib.hid (shr_len (valid_down h) hj)
      obtain ⟨ta, tc, rfl, ht1, ht2⟩ := hts.shape
      have hk1 : decide ((j : Int) < 0) = false := decide_eq_false (by omega)
      have hk2 : decide ((ts.length : Int) ≤ j) = false := decide_eq_false (by omega)
      clear hts h hI hk
      go_enter Try.func28, Try.ntmps28
      go_wp2_with fail
      refine (HP.out).mono ?_
      rintro e w1 ⟨rfl, hb1⟩
      rw [HE.out]
      have HB1 := Lib.hid hb1
      clear hb1
      go_wp2_with fail
      refine (HS.out _ HB1.out).mono ?_
      rintro e w2 ⟨v, rfl, hs⟩
      have HSS := Lib.hid hs
      skip
      clear hs
      go_wp2_with fail
      go_ret2
      exact ⟨v, rfl, by rw [HL.out, Int.toNat_natCast]; exact HSS.out.nds (by have := HSL.out; omega), below_hop HB1.out HSS.out.bel⟩
  · have HPE : Hid (prtE ts k = valE ts) := if_neg h
    have HL : Hid (prtL ts k = []) := by show _ = _; unfold prtL; rw [HPE.out, if_neg h]
    rw [HPE.out]
    have hne : (valE ts != 0) = true := by simpa using h
    clear h hts hI
    go_enter Try.func28, Try.ntmps28
    go_wp2_with fail
    refine (HP.out).mono ?_
    rintro e w1 ⟨rfl, hb1⟩
    have HB1 := Lib.hid hb1
    clear hb1
    go_wp2_with fail
    go_ret2
    exact ⟨_, rfl, by rw [HL.out]; exact Nds.nil _, HB1.out⟩
-- Part.
set_option maxRecDepth 100000 in
set_option maxHeartbeats 1000000 in
theorem rPart (ts : List Nd) (tv : Value) (k : Int) (w : World) (hI : ∀ x ∈ ts, 0 ≤ x.imm ∧ x.imm ≤ 4294967295) (hts : Nds w tv ts) :
    Calls Try.prog 29 #[tv, .int .i64 k] w fun e w' => ∃ v, e = .returned (.tuple #[v, .int .i64 (prtE ts k)]) ∧ Nds w' v (prtL ts k) ∧ Below w.heap.size w w' := by
  have HT := Lib.hid hts
  have HP := Lib.hid (rValidate ts tv w hts hI)
  by_cases h : valE ts = 0
  · obtain ⟨h1, h2, _⟩ := valid_facts h
    have HE := Lib.hid h
    by_cases hk : k < 0 ∨ (ts.length : Int) ≤ k
    · have HPE : Hid (prtE ts k = 4) := by show _ = _; unfold prtE; rw [if_pos h, if_pos hk]
      have HL : Hid (prtL ts k = []) := by show _ = _; unfold prtL; rw [HPE.out]; rfl
      rw [HPE.out]
      obtain ⟨ta, tc, rfl, ht1, ht2⟩ := hts.shape
      clear hts h hI
      rcases hk with hk | hk
      · have hk1 : decide (k < 0) = true := decide_eq_true hk
        go_enter Try.func29, Try.ntmps29
        go_wp2_with fail
        refine (HP.out).mono ?_
        rintro e w1 ⟨rfl, hb1⟩
        rw [HE.out]
        have HB1 := Lib.hid hb1
        clear hb1
        go_wp2_with fail
        go_ret2
        exact ⟨_, rfl, by rw [HL.out]; exact Nds.nil _, HB1.out⟩
      · have hk1 : decide (k < 0) = false := decide_eq_false (by omega)
        have hk2 : decide ((ts.length : Int) ≤ k) = true := decide_eq_true hk
        go_enter Try.func29, Try.ntmps29
        go_wp2_with fail
        refine (HP.out).mono ?_
        rintro e w1 ⟨rfl, hb1⟩
        rw [HE.out]
        have HB1 := Lib.hid hb1
        clear hb1
        go_wp2_with fail
        go_ret2
        exact ⟨_, rfl, by rw [HL.out]; exact Nds.nil _, HB1.out⟩
    · have HPE : Hid (prtE ts k = 0) := by show _ = _; unfold prtE; rw [if_pos h, if_neg hk]
      have HL : Hid (prtL ts k = shr ts k.toNat) := by show _ = _; unfold prtL; rw [HPE.out]; rfl
      rw [HPE.out]
      obtain ⟨j, rfl⟩ := Int.eq_ofNat_of_zero_le (show 0 ≤ k by omega)
      have hj : j < ts.length := by omega
      have HS := Lib.hid (fun W (hb : Below w.heap.size w W) => rShared ts tv W j (hts.stays hb) (valid_down h) hj (by omega) (args_le h hI))
      skip
      obtain ⟨ta, tc, rfl, ht1, ht2⟩ := hts.shape
      have hk1 : decide ((j : Int) < 0) = false := decide_eq_false (by omega)
      have hk2 : decide ((ts.length : Int) ≤ j) = false := decide_eq_false (by omega)
      clear hts h hI hk
      go_enter Try.func29, Try.ntmps29
      go_wp2_with fail
      refine (HP.out).mono ?_
      rintro e w1 ⟨rfl, hb1⟩
      rw [HE.out]
      have HB1 := Lib.hid hb1
      clear hb1
      go_wp2_with fail
      refine (HS.out _ HB1.out).mono ?_
      rintro e w2 ⟨v, rfl, hs, hb2⟩
      have HSS := Lib.hid hs
      have HB2 := Lib.hid hb2; clear hb2
      clear hs
      go_wp2_with fail
      go_ret2
      exact ⟨v, rfl, by rw [HL.out, Int.toNat_natCast]; exact HSS.out, below_hop HB1.out HB2.out⟩
  · have HPE : Hid (prtE ts k = valE ts) := if_neg h
    have HL : Hid (prtL ts k = []) := by show _ = _; unfold prtL; rw [HPE.out, if_neg h]
    rw [HPE.out]
    have hne : (valE ts != 0) = true := by simpa using h
    clear h hts hI
    go_enter Try.func29, Try.ntmps29
    go_wp2_with fail
    refine (HP.out).mono ?_
    rintro e w1 ⟨rfl, hb1⟩
    have HB1 := Lib.hid hb1
    clear hb1
    go_wp2_with fail
    go_ret2
    exact ⟨_, rfl, by rw [HL.out]; exact Nds.nil _, HB1.out⟩
end Go.Proofs.Ythopdfikikdcbaa
/- The errors of Put, and that its result is as a term must be: plain. -/
namespace Go.Proofs.Ythopdfikikdcbaa
open Go.RowKit Wd
set_option linter.unusedVariables false
set_option linter.unusedSimpArgs false
theorem sub_ok {v : Int} {U : Tr} (hU : U.Ok) (t : Tr) : t.Ok → t.All (fun op w f i => op = 33 → i = v → w = U.w) → (subT v U t).Ok ∧ (subT v U t).w = t.w := by
  induction t using Tr.ind with
  | _ op w f l i ih =>
    intro ht hv
    cases ht with
    | mk h1 h2 h3 =>
      cases hv with
      | mk v1 v2 =>
        rw [subT_mk]
        by_cases hc : op = 33 ∧ i = v
        · rw [if_pos hc]
          exact ⟨hU, (v1 hc.1 hc.2).symm⟩
        · rw [if_neg hc]
          refine ⟨.mk (by rw [List.length_map]; exact h1) ?_ ?_, rfl⟩
          · have e : (l.map (subT v U)).map Tr.w = l.map Tr.w := by
              rw [List.map_map]
              exact List.map_congr_left fun t ht => (ih t ht (h3 t ht) (v2 t ht)).2
            rw [e]; exact h2
          · intro t ht
            obtain ⟨t', ht', rfl⟩ := List.mem_map.1 ht
            exact (ih t' ht' (h3 t' ht') (v2 t' ht')).1
theorem sub_all {p : Int → Int → Int → Int → Prop} {v : Int} {U : Tr} (hU : U.All p) (t : Tr) : t.All p → (subT v U t).All p := by
  induction t using Tr.ind with
  | _ op w f l i ih =>
    intro hv
    cases hv with
    | mk v1 v2 =>
      rw [subT_mk]
      split
      · exact hU
      · refine .mk v1 fun t ht => ?_
        obtain ⟨t', ht', rfl⟩ := List.mem_map.1 ht
        exact ih t' ht' (v2 t' ht')
theorem var_w {ts : List Nd} (h : valE ts = 0) (hI : ∀ x ∈ ts, 0 ≤ x.imm ∧ x.imm ≤ 4294967295) : ∀ x ∈ ts, x.op = 33 → (widL ts).getD x.imm.toNat 0 = x.width := by
  intro x hx h33
  obtain ⟨_, _, hS, _, _⟩ := valid_facts h
  obtain ⟨i, hi, rfl⟩ := List.getElem_of_mem hx
  have hinv := (wmap_inv (fun x hx => (hI x hx).1) (fun i hi => okS_at hS hi) ts.length (widL ts) (Nat.le_refl _) (by rw [List.take_length]; exact (widL_ok h).1)).1 i hi
  rw [List.getD_eq_getElem?_getD, List.getElem?_eq_getElem hi] at hinv
  exact hinv h33
section
variable {v : Nat} {ts us : List Nd}
theorem putT_ok (h : valE ts = 0) (hu : valE us = 0) (hI : ∀ x ∈ ts, 0 ≤ x.imm ∧ x.imm ≤ 4294967295) (hw : (nd us (us.length - 1)).width = (widL ts).getD v 0) :
    (putT (v : Int) ts us).Ok ∧ (putT (v : Int) ts us).w = (tree ts (ts.length - 1)).w := by
  obtain ⟨t1, t2, tS, tT, _⟩ := valid_facts h
  obtain ⟨u1, u2, uS, uT, _⟩ := valid_facts hu
  refine sub_ok (tree_ok (valid_down hu) uS uT _ (by omega)) _ (tree_ok (valid_down h) tS tT _ (by omega)) (tree_all (valid_down h) (fun x hx h33 hv => ?_) _ (by omega))
  rw [tree_w (valid_down hu) (by omega), hw, ← var_w h hI x hx h33, hv]
  rfl
theorem outP_good (v : Int) (ts us : List Nd) : Good (outP v ts us) := (put1 (putT v ts us) [] Good.nil).good
theorem outP_shaped (h : valE ts = 0) (hu : valE us = 0) (hI : ∀ x ∈ ts, 0 ≤ x.imm ∧ x.imm ≤ 4294967295) (hw : (nd us (us.length - 1)).width = (widL ts).getD v 0) :
    ∀ i, i < (outP (v : Int) ts us).length → shaped i ((outP (v : Int) ts us).getD i default) = true := fun i hi =>
  (shr_allok (putT_ok h hu hI hw).1).shaped (outP_good _ _ _).down hi
theorem outP_imm (v : Int) (h : valE ts = 0) (hu : valE us = 0) (hI : ∀ x ∈ ts, 0 ≤ x.imm ∧ x.imm ≤ 4294967295) (hI' : ∀ x ∈ us, 0 ≤ x.imm ∧ x.imm ≤ 4294967295) : ∀ x ∈ outP v ts us, 0 ≤ x.imm ∧ x.imm ≤ 4294967295 := by
  obtain ⟨t1, t2, _⟩ := valid_facts h
  obtain ⟨u1, u2, _⟩ := valid_facts hu
  exact insT_all (p := fun _ _ _ i => 0 ≤ i ∧ i ≤ 4294967295) (putT v ts us) [] (sub_all (tree_all (valid_down hu) hI' _ (by omega)) _ (tree_all (valid_down h) hI _ (by omega))) (fun x hx => by cases hx)
theorem outP_var (h : valE ts = 0) (hu : valE us = 0) (hI : ∀ x ∈ ts, 0 ≤ x.imm ∧ x.imm ≤ 4294967295) (hI' : ∀ x ∈ us, 0 ≤ x.imm ∧ x.imm ≤ 4294967295) (hw : (nd us (us.length - 1)).width = (widL ts).getD v 0) :
    ∀ x ∈ outP (v : Int) ts us, 0 ≤ x.imm ∧ (x.op = 33 → x.imm < 4) := fun x hx => by
  refine ⟨(outP_imm (v : Int) h hu hI hI' x hx).1, fun h33 => ?_⟩
  obtain ⟨i, hi, rfl⟩ := List.getElem_of_mem hx
  have hs := shaped_facts (outP_shaped (v := v) h hu hI hw i hi)
  rw [List.getD_eq_getElem?_getD, List.getElem?_eq_getElem hi] at hs
  exact hs.2.2.2.2.2.1 h33
theorem outP_len (v : Int) (h : valE ts = 0) (hu : valE us = 0) : (outP v ts us).length ≤ 600 := by
  obtain ⟨t1, t2, _⟩ := valid_facts h
  obtain ⟨u1, u2, _⟩ := valid_facts hu
  obtain ⟨h1, h2, h3, h4, h5⟩ := put_share (v := v) (valid_down h) (valid_down hu) (by omega) (by omega) rfl
  rw [← h4]
  have := shr_len h1 h3
  omega
end
/-- The error of Put behind the replacing. -/
def putF (v : Int) (ts us : List Nd) : Int := if wmap (outP v ts us) = none then 7 else if 300 < (outP v ts us).length then 3 else 0
def putFL (v : Int) (ts us : List Nd) : List Nd := if putF v ts us = 0 then outP v ts us else []
theorem putFL_no {v : Int} {ts us : List Nd} (h : putF v ts us ≠ 0) : putFL v ts us = [] := if_neg h
theorem putFL_ok {v : Int} {ts us : List Nd} (h : putF v ts us = 0) : putFL v ts us = outP v ts us := if_pos h
def putE (v : Int) (ts us : List Nd) : Int :=
  if valE ts ≠ 0 then valE ts else if valE us ≠ 0 then valE us else if v < 0 ∨ 4 ≤ v then 1 else
  if (widL ts).getD v.toNat 0 = 0 then 4 else if (nd us (us.length - 1)).width ≠ (widL ts).getD v.toNat 0 then 6 else putF v ts us
def putO (v : Int) (ts us : List Nd) : List Nd := if putE v ts us = 0 then outP v ts us else []
theorem putO_no {v : Int} {ts us : List Nd} (h : putE v ts us ≠ 0) : putO v ts us = [] := if_neg h
theorem putE_t {v : Int} {ts us : List Nd} (h : valE ts ≠ 0) : putE v ts us = valE ts := if_pos h
theorem putE_u {v : Int} {ts us : List Nd} (h : valE ts = 0) (hu : valE us ≠ 0) : putE v ts us = valE us := by unfold putE; rw [if_neg (by simpa using h), if_pos hu]
theorem putE_v {v : Int} {ts us : List Nd} (h : valE ts = 0) (hu : valE us = 0) (hv : v < 0 ∨ 4 ≤ v) : putE v ts us = 1 := by unfold putE; rw [if_neg (by simpa using h), if_neg (by simpa using hu), if_pos hv]
theorem putE_0 {v : Nat} {ts us : List Nd} (h : valE ts = 0) (hu : valE us = 0) (hv : v < 4) (hw : (widL ts).getD v 0 = 0) : putE (v : Int) ts us = 4 := by
  unfold putE; rw [if_neg (by simpa using h), if_neg (by simpa using hu), if_neg (by omega), Int.toNat_natCast, if_pos hw]
theorem putE_w {v : Nat} {ts us : List Nd} (h : valE ts = 0) (hu : valE us = 0) (hv : v < 4) (hw : (widL ts).getD v 0 ≠ 0) (hr : (nd us (us.length - 1)).width ≠ (widL ts).getD v 0) : putE (v : Int) ts us = 6 := by
  unfold putE; rw [if_neg (by simpa using h), if_neg (by simpa using hu), if_neg (by omega), Int.toNat_natCast, if_neg hw, if_pos hr]
theorem putE_f {v : Nat} {ts us : List Nd} (h : valE ts = 0) (hu : valE us = 0) (hv : v < 4) (hw : (widL ts).getD v 0 ≠ 0) (hr : (nd us (us.length - 1)).width = (widL ts).getD v 0) : putE (v : Int) ts us = putF (v : Int) ts us := by
  unfold putE; rw [if_neg (by simpa using h), if_neg (by simpa using hu), if_neg (by omega), Int.toNat_natCast, if_neg hw, if_neg (by simpa using hr)]
end Go.Proofs.Ythopdfikikdcbaa
