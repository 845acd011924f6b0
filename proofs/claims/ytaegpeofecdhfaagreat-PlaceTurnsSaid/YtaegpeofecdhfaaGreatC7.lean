/- -/
import Derived.Deep.RegionLaw
import Derived.Test.YtaegpeofecdhfaaGreatC6
namespace Go.Proofs.YtaegpeofecdhfaaGreat
open Go.RowKit Go.Maps
set_option linter.unusedVariables false
set_option linter.unusedSimpArgs false
theorem info_sym : (Tryz.prog.info? 41).map (fun i => (i.zero, i.size, i.bytes)) = some (some (.agg #[.int .i64 0, .int .i64 0]), 2, 16) := by kernel_rfl
theorem info_wnt : (Tryz.prog.info? 43).map (fun i => (i.zero, i.size, i.bytes)) = some (some (.agg #[.int .i64 0, .int .i64 0, .int .i64 0, .int .i64 0]), 4, 32) := by kernel_rfl
theorem info_obj : (Tryz.prog.info? 26).map (fun i => (i.zero, i.size, i.bytes)) = some (some (.agg #[.slice none 0 0, .slice none 0 0, .slice none 0 0]), 3, 72) := by kernel_rfl
theorem longB_no {l : List Ob} (h : longB l = false) : l.length ≤ 8 ∧ ∀ o ∈ l, o.s.length ≤ 70 ∧ o.t.length ≤ 70 := by
  unfold longB at h
  rw [Bool.or_eq_false_iff] at h
  refine ⟨by have := of_decide_eq_false h.2; omega, fun o ho => ?_⟩
  have h1 := List.any_eq_false.1 h.1 o ho
  unfold bigO at h1
  simp only [Bool.or_eq_true, decide_eq_true_eq, not_or] at h1
  omega
theorem rev_step {α : Type} [Inhabited α] {s : List α} {k : Nat} (h : k < s.length) : s.reverse.take (k + 1) = s.reverse.take k ++ [s.getD (s.length - 1 - k) default] := by
  rw [List.take_succ_eq_append_getElem (by simpa using h), List.getElem_reverse, List.getD_eq_getElem?_getD, List.getElem?_eq_getElem (by omega)]; rfl
theorem RowG.shape {α : Type} {C : α → List Value} {w : World} {base : Nat} {e : TypeId} {z : Nat} {v : Value} {xs : List α} (h : RowG C w base e z v xs) : ∃ a c, v = .slice a xs.length c := by
  obtain ⟨h0, ⟨e, h1⟩ | ⟨g, cap, cur, e, _⟩⟩ := h
  · exact ⟨none, 0, by rw [e, h1]⟩
  · exact ⟨_, _, e⟩
theorem obF_turn {l : List Ob} (h : ∀ o ∈ l, ObF o) : ∀ o ∈ l.map turnO, ObF o := by
  intro o ho
  obtain ⟨x, hx, rfl⟩ := List.mem_map.1 ho
  obtain ⟨h1, h2, h3⟩ := h x hx
  exact ⟨h1, fun y hy => h2 y (List.mem_reverse.1 hy), fun y hy => h3 y (List.mem_reverse.1 hy)⟩
set_option maxRecDepth 100000 in
set_option maxHeartbeats 8000000 in
theorem wPlaceTurns (l : List Ob) (lv : Value) (base : Int) (w : World) (h : Obs w lv l) (hwf : ∀ o ∈ l, ObF o) : Calls Tryz.prog 6 #[lv, .int .i64 base] w fun e w' => e = .returned (.bool true) ∧ Below w.heap.size w w' := by
  have C1 := Lib.hid (long22 l lv w h)
  have C2 := Lib.hid (fun w' (hb : Below w.heap.size w w') => pLink_any l lv base w' (h.stays hb) hwf)
  have C3 := Lib.hid (fun w' v (ho : Obs w' v (l.map turnO)) => pLink_any (l.map turnO) v base w' ho (obF_turn hwf))
  have C4 := Lib.hid known22
  have C5 := Lib.hid sameB_eq
  obtain ⟨a, c, rfl, h1, h2, h3⟩ := h.shape
  have HR := Lib.hid h3
  clear h hwf h3
  cases hl : longB l with
  | true =>
    rw [hl] at C1
    go_enter Tryz.func6, Tryz.ntmps6
    go_wp2_with (first | (go_at_call 11; with_reducible refine C1.out.mono ?_; rintro e w' ⟨rfl, rfl⟩) | (go_at_call 12; with_reducible refine (C4.out _).mono ?_; rintro e w2 ⟨rfl, hb2⟩))
    go_ret
    exact ⟨rfl, hb2⟩
  | false =>
    rw [hl] at C1
    obtain ⟨hl8, hlo⟩ := longB_no hl
    have HLO := Lib.hid hlo
    obtain ⟨is0, his, hzs0, hzs1, hzs2⟩ := info_parts info_sym
    obtain ⟨iw0, hiw, hzw0, hzw1, hzw2⟩ := info_parts info_wnt
    obtain ⟨io0, hio, hzo0, hzo1, hzo2⟩ := info_parts info_obj
    clear hl hlo
    go_enter Tryz.func6, Tryz.ntmps6
    go_wp2_with (go_at_call 11; with_reducible refine C1.out.mono ?_; rintro e w' ⟨rfl, rfl⟩)
    go_loopw [5, 6, 7, 8, 9] (fun v i _ _ _ wr => ∃ j : Nat, j ≤ l.length ∧ i = .int .i64 j ∧ TurS w ((l.map turnO).take j) v wr) (fun _ i _ _ _ _ => l.length - (intOf i).toNat)
    case atStart => exact ⟨0, Nat.zero_le _, rfl, Below.refl _ _, [], rfl, RowG.nil _ _ _ _ _, fun i hi => absurd hi (Nat.not_lt_zero _)⟩
    case round =>
      obtain ⟨j, hj, rfl, hts⟩ := hrel
      have HTS := Lib.hid hts
      by_cases hjl : j < l.length
      · obtain ⟨b, q, ba, cb, sa, cs, ta, ct, ea, hbl, y0, y1, y2, hbi, hsi, hti⟩ := oRow HR.out hjl
        subst ea
        have x0 := below_cell hts.keep hbl y0
        have HY1 := Lib.hid y1
        have HY2 := Lib.hid y2
        have HBI := Lib.hid hbi
        have HSI := Lib.hid hsi
        have HTI := Lib.hid hti
        obtain ⟨hs70, ht70⟩ := HLO.out _ (mem_getD' hjl)
        have HSTEP : Hid ((l.map turnO).take (j + 1) = (l.map turnO).take j ++ [turnO (l.getD j default)]) := Lib.hid (by
          rw [List.take_succ_eq_append_getElem (by simpa using hjl), List.getElem_map, List.getD_eq_getElem?_getD, List.getElem?_eq_getElem hjl]; rfl)
        have hsz0 := hts.keep.size
        clear y0 y1 y2 hbi hsi hti hts
        generalize l.getD j default = oj at *
        have hne : ¬ b = wr.heap.size := by omega
        go_upto_region 8 with fail
        generalize hWb : wr.alloc (.cells #[.slice ba oj.b.length cb, .slice none 0 0, .slice none 0 0] 26) = Wb
        have BB : Hid (Below wr.heap.size wr Wb) := by rw [← hWb]; exact (Below.refl _ _).alloc (Nat.le_refl _) _
        have HCB : Hid (Cls Wb wr.heap.size [.slice ba oj.b.length cb, .slice none 0 0, .slice none 0 0]) := by rw [← hWb]; exact Cls.made
        have hsb0 : Wb.heap.size = wr.heap.size + 1 := by rw [← hWb]; simp
        have HTB := BB
        have HOWN := Lib.hid (fun g hg => HTS.out.own g hg)
        have x1 := below_cell (below_hop HTS.out.keep BB.out) hbl HY1.out
        clear hWb x0 hne
        generalize hP : wr.heap.size = P at *
        have HPW : Hid (w.heap.size ≤ P) := Lib.hid hsz0
        have HPz : Hid (P ≤ Wb.heap.size) := Lib.hid (by omega)
        have HPB0 : Hid (P + 1 ≤ Wb.heap.size) := Lib.hid (by omega)
        obtain ⟨wo, rfl⟩ : ∃ wo : World, wo = wr := ⟨_, rfl⟩
        go_wp2_with fail
        clear x1
        go_loopw [8] (fun i wr => ∃ k : Nat, k ≤ oj.s.length ∧ i = .int .i64 ((oj.s.length : Int) - 1 - k) ∧ (∃ u, Cls wr P [.slice ba oj.b.length cb, u, .slice none 0 0] ∧ RowG syC wr (P + 1) 41 2 u (oj.s.reverse.take k)) ∧ Below P wo wr ∧ (P + 1) ≤ wr.heap.size) (fun i _ => (intOf i + 1).toNat)
        case atStart => exact ⟨0, Nat.zero_le _, by simp, ⟨_, HCB.out, RowG.nil _ _ _ _ _⟩, HTB.out, HPB0.out⟩
        case round =>
          obtain ⟨k, hk, rfl, ⟨u, hcu, hru⟩, hts, hpb⟩ := hrel
          have HCU := Lib.hid hcu
          have HRU := Lib.hid hru
          have HTU := Lib.hid hts
          have hkw := HTS.out.keep.trans (hts.mono HPW.out)
          by_cases hkl : k < oj.s.length
          · obtain ⟨b', q', ea, hbl', v0, v1⟩ := HSI.out (oj.s.length - 1 - k) (by omega)
            subst ea
            have x1 := below_cell hkw hbl HY1.out
            have w0 := below_cell hkw hbl' v0; have w1 := below_cell hkw hbl' v1
            obtain ⟨ua, uc, rfl⟩ := hru.shape
            have htl : (oj.s.reverse.take k).length = k := by rw [List.length_take, List.length_reverse]; omega
            have HTL := Lib.hid htl
            have HRV : Hid (oj.s.reverse.take (k + 1) = oj.s.reverse.take k ++ [oj.s.getD (oj.s.length - 1 - k) default]) := Lib.hid (rev_step hkl)
            rw [htl] at HCU
            have p0 := HCU.out.at 1 _ rfl
            have hPl := cell_lt p0
            have hszk := hkw.size
            clear v0 v1 hcu hru hts htl hkw
            generalize oj.s.getD (oj.s.length - 1 - k) default = y at *
            obtain ⟨yn, ya⟩ := y
            simp only at w0 w1
            have hix : ((oj.s.length : Int) - 1 - k) = ((oj.s.length - 1 - k : Nat) : Int) := by omega
            rw [hix]
            have hqx : oj.s.length - 1 - k < oj.s.length := by omega
            clear hix
            generalize hqk : oj.s.length - 1 - k = qk at *
            have HQK := Lib.hid hqk
            clear hqk
            have i0 : (0 : Int) ≤ (j : Int) := by omega
            have i1 : (j : Int) < (l.length : Int) := by omega
            have k0 : (0 : Int) ≤ (qk : Int) := by omega
            have k1 : (qk : Int) < (oj.s.length : Int) := by omega
            have gb : b < wr.heap.size := by omega
            have gb' : b' < wr.heap.size := by omega
            have hneb : ¬ b = wr.heap.size := by omega
            have hneb' : ¬ b' = wr.heap.size := by omega
            have hneP : ¬ P = wr.heap.size := by omega
            have HRA : Hid ((wr.alloc (.cells #[.int .i64 yn, .int .i64 ya] 41)).ownsRow (P + 1) 41 2 (.slice ua k uc) k ((oj.s.reverse.take k).flatMap syC)) := Lib.hid (by
              have := HRU.out
              unfold RowG at this
              rw [HTL.out] at this
              exact ownsRow_at this fun g hg hlt => ((Below.refl wr.heap.size wr).alloc (Nat.le_refl _) _).block g hlt)
            have HOW := Lib.hid (fun g hg => (ownsRow_own HRU.out g hg))
            rw [HTL.out] at HOW
            go_wp2_with fail
            go_region_law ((refine step_append_lies _ (by rfl) _ _ _ (by rfl) (P + 1) 41 is0 (.agg #[.int .i64 0, .int .i64 0]) 2 16 Tryz.underlying23 his hzs0 hzs1 hzs2 rfl (by decide) (.slice ua k uc) k ((oj.s.reverse.take k).flatMap syC) (by rfl) HRA.out ⟨wr.heap.size, 0, none⟩ 1 1 [.int .i64 yn, .int .i64 ya] (by rfl) (by rfl) (World.news_of_block (cs := #[.int .i64 yn, .int .i64 ya]) (t := 41) (fr := (0, 0)) (show _ from Array.getElem?_push_size)) (by simp [Value.oneCell']) (by decide) (by unfold maxLen; omega) (by omega) (by simp; omega) (wr.heap.size + 1) (by simp) ?_); intro gg cap w4 hown4 hgrow4 hat4 hlt4; have HGR : Hid ((wr.alloc (.cells #[.int .i64 yn, .int .i64 ya] 41)).grownBy w4 (.slice ua k uc : Value).ownBlock) := Lib.hid (grown_undrew hgrow4); have HOW4 := Lib.hid hown4; have HC4 := Lib.hid ((HCU.out.below hPl ((Below.refl _ _).alloc (Nat.le_refl _) (.cells #[.int .i64 yn, .int .i64 ya] 41))).block (HGR.out.block P (by simp; omega) (fun e => by have := (HOW.out P e.symm).1; omega))); have l24 := HC4.out.at 1 (.slice ua k uc) rfl; have f24 := HC4.out.at' 1 (.slice ua k uc) rfl)
            all_goals
              have hlt4' : wr.heap.size + 1 ≤ w4.heap.size := by have := HGR.out.size; simpa using this
              have HB4 : Hid (Below P wr (w4.setCell ⟨P, 1, none⟩ (.slice (some ⟨gg, 0, none⟩) (k + 1) cap))) := Lib.hid (below_at (Below.grown (B := P) (((Below.refl P wr).alloc (by omega) _)) HGR.out (by simp; omega) (fun q hq => by have := (HOW.out q hq).1; omega)) (Nat.le_refl _) _ _)
              have HPB4 : Hid ((P + 1) ≤ (w4.setCell ⟨P, 1, none⟩ (.slice (some ⟨gg, 0, none⟩) (k + 1) cap)).heap.size) := Lib.hid (by simp; omega)
              have HC5 : Hid (Cls (w4.setCell ⟨P, 1, none⟩ (.slice (some ⟨gg, 0, none⟩) (k + 1) cap)) P [.slice ba oj.b.length cb, .slice (some ⟨gg, 0, none⟩) (k + 1) cap, .slice none 0 0]) := Lib.hid (HC4.out.set (k := 1) (by simp) _)
              have HR5 : Hid (RowG syC (w4.setCell ⟨P, 1, none⟩ (.slice (some ⟨gg, 0, none⟩) (k + 1) cap)) (P + 1) 41 2 (.slice (some ⟨gg, 0, none⟩) (k + 1) cap) (oj.s.reverse.take (k + 1))) := Lib.hid (by
                rw [HRV.out]
                refine RowG.snoc ?_
                rw [HTL.out]
                refine ownsRow_at HOW4.out fun g hg hlt => Below.heap_setCell w4 _ _ g (fun e => ?_)
                have h1 := (ownsRow_own HOW4.out g hg).1
                have e' : g = P := e
                omega)
              have HT5 : Hid (Below P wo (w4.setCell ⟨P, 1, none⟩ (.slice (some ⟨gg, 0, none⟩) (k + 1) cap))) := Lib.hid (HTU.out.trans HB4.out)
              clear l24 f24 hown4 hgrow4 hat4 hlt4
              go_wp2_with fail
              go_roundw
              case rel => exact ⟨k + 1, by omega, by have h9 := HQK.out; go_num, ⟨_, HC5.out, HR5.out⟩, HT5.out, HPB4.out⟩
              case measure => (simp [intOf]; try omega)
          · obtain rfl : k = oj.s.length := by omega
            have hall : oj.s.reverse.take oj.s.length = oj.s.reverse := List.take_of_length_le (by simp)
            rw [hall] at hru HRU
            obtain ⟨ua, uc, rfl⟩ := hru.shape
            rw [List.length_reverse] at HCU HRU hru hcu
            obtain ⟨wq, rfl⟩ : ∃ wo : World, wo = wr := ⟨_, rfl⟩
            generalize hsua : ua = sua at *
            generalize hsuc : uc = suc at *
            clear hsua hsuc
            obtain ⟨PB, hPB⟩ : ∃ PB, wq.heap.size = PB := ⟨_, rfl⟩
            have HPB0 : Hid (PB ≤ wq.heap.size) := Lib.hid (by omega)
            have HSB0 : Hid (∀ g, (.slice sua oj.s.length suc : Value).ownBlock = some g → g < PB) := Lib.hid (fun g hg => by have := (ownsRow_own hru g hg).2; omega)
            have HRS0 := Lib.hid hru
            have HPBP : P < PB := by have := hcu.lt (by simp); omega
            have x2 := below_cell hkw hbl HY2.out
            clear HCB HTB
            have HCB := HCU
            have HTB := HTU
            clear HCU HTU HRU hcu hru hts hPB hk hkl hkw
            go_wp2_with fail
            clear x2
            go_loopw [9] (fun i wr => ∃ k : Nat, k ≤ oj.t.length ∧ i = .int .i64 ((oj.t.length : Int) - 1 - k) ∧ (∃ u, Cls wr P [.slice ba oj.b.length cb, .slice sua oj.s.length suc, u] ∧ RowG wnC wr PB 43 4 u (oj.t.reverse.take k)) ∧ Below P wo wr ∧ PB ≤ wr.heap.size ∧ (∀ g, (.slice sua oj.s.length suc : Value).ownBlock = some g → g < PB) ∧ RowG syC wr (P + 1) 41 2 (.slice sua oj.s.length suc) oj.s.reverse) (fun i _ => (intOf i + 1).toNat)
            case atStart => exact ⟨0, Nat.zero_le _, by simp, ⟨_, HCB.out, RowG.nil _ _ _ _ _⟩, HTB.out, HPB0.out, HSB0.out, HRS0.out⟩
            case round =>
              obtain ⟨k, hk, rfl, ⟨u, hcu, hru⟩, hts, hpb, hsb, hrs⟩ := hrel
              have HCU := Lib.hid hcu
              have HRU := Lib.hid hru
              have HTU := Lib.hid hts
              have hkw := HTS.out.keep.trans (hts.mono HPW.out)
              have HSB := Lib.hid hsb
              have HRS := Lib.hid hrs
              by_cases hkl : k < oj.t.length
              · obtain ⟨b', q', ea, hbl', v0, v1, v2, v3⟩ := HTI.out (oj.t.length - 1 - k) (by omega)
                subst ea
                have x1 := below_cell hkw hbl HY2.out
                have w0 := below_cell hkw hbl' v0; have w1 := below_cell hkw hbl' v1; have w2 := below_cell hkw hbl' v2; have w3 := below_cell hkw hbl' v3
                obtain ⟨ua, uc, rfl⟩ := hru.shape
                have htl : (oj.t.reverse.take k).length = k := by rw [List.length_take, List.length_reverse]; omega
                have HTL := Lib.hid htl
                have HRV : Hid (oj.t.reverse.take (k + 1) = oj.t.reverse.take k ++ [oj.t.getD (oj.t.length - 1 - k) default]) := Lib.hid (rev_step hkl)
                rw [htl] at HCU
                have p0 := HCU.out.at 2 _ rfl
                have hPl := cell_lt p0
                have hszk := hkw.size
                clear v0 v1 v2 v3 hcu hru hts htl hkw hsb hrs
                generalize oj.t.getD (oj.t.length - 1 - k) default = y at *
                obtain ⟨ya, yk, yn, yp⟩ := y
                simp only at w0 w1 w2 w3
                have hix : ((oj.t.length : Int) - 1 - k) = ((oj.t.length - 1 - k : Nat) : Int) := by omega
                rw [hix]
                have hqx : oj.t.length - 1 - k < oj.t.length := by omega
                clear hix
                generalize hqk : oj.t.length - 1 - k = qk at *
                have HQK := Lib.hid hqk
                clear hqk
                have i0 : (0 : Int) ≤ (j : Int) := by omega
                have i1 : (j : Int) < (l.length : Int) := by omega
                have k0 : (0 : Int) ≤ (qk : Int) := by omega
                have k1 : (qk : Int) < (oj.t.length : Int) := by omega
                have gb : b < wr.heap.size := by omega
                have gb' : b' < wr.heap.size := by omega
                have hneb : ¬ b = wr.heap.size := by omega
                have hneb' : ¬ b' = wr.heap.size := by omega
                have hneP : ¬ P = wr.heap.size := by omega
                have HRA : Hid ((wr.alloc (.cells #[.int .i64 ya, .int .i64 yk, .int .i64 yn, .int .i64 yp] 43)).ownsRow PB 43 4 (.slice ua k uc) k ((oj.t.reverse.take k).flatMap wnC)) := Lib.hid (by
                  have := HRU.out
                  unfold RowG at this
                  rw [HTL.out] at this
                  exact ownsRow_at this fun g hg hlt => ((Below.refl wr.heap.size wr).alloc (Nat.le_refl _) _).block g hlt)
                have HOW := Lib.hid (fun g hg => (ownsRow_own HRU.out g hg))
                rw [HTL.out] at HOW
                go_wp2_with fail
                go_region_law ((refine step_append_lies _ (by rfl) _ _ _ (by rfl) PB 43 iw0 (.agg #[.int .i64 0, .int .i64 0, .int .i64 0, .int .i64 0]) 4 32 Tryz.underlying24 hiw hzw0 hzw1 hzw2 rfl (by decide) (.slice ua k uc) k ((oj.t.reverse.take k).flatMap wnC) (by rfl) HRA.out ⟨wr.heap.size, 0, none⟩ 1 1 [.int .i64 ya, .int .i64 yk, .int .i64 yn, .int .i64 yp] (by rfl) (by rfl) (World.news_of_block (cs := #[.int .i64 ya, .int .i64 yk, .int .i64 yn, .int .i64 yp]) (t := 43) (fr := (0, 0)) (show _ from Array.getElem?_push_size)) (by simp [Value.oneCell']) (by decide) (by unfold maxLen; omega) (by omega) (by simp; omega) (wr.heap.size + 1) (by simp) ?_); intro gg cap w4 hown4 hgrow4 hat4 hlt4; have HGR : Hid ((wr.alloc (.cells #[.int .i64 ya, .int .i64 yk, .int .i64 yn, .int .i64 yp] 43)).grownBy w4 (.slice ua k uc : Value).ownBlock) := Lib.hid (grown_undrew hgrow4); have HOW4 := Lib.hid hown4; have HC4 := Lib.hid ((HCU.out.below hPl ((Below.refl _ _).alloc (Nat.le_refl _) (.cells #[.int .i64 ya, .int .i64 yk, .int .i64 yn, .int .i64 yp] 43))).block (HGR.out.block P (by simp; omega) (fun e => by have := (HOW.out P e.symm).1; omega))); have l24 := HC4.out.at 2 (.slice ua k uc) rfl; have f24 := HC4.out.at' 2 (.slice ua k uc) rfl)
                all_goals
                  have hlt4' : wr.heap.size + 1 ≤ w4.heap.size := by have := HGR.out.size; simpa using this
                  have HB4 : Hid (Below P wr (w4.setCell ⟨P, 2, none⟩ (.slice (some ⟨gg, 0, none⟩) (k + 1) cap))) := Lib.hid (below_at (Below.grown (B := P) (((Below.refl P wr).alloc (by omega) _)) HGR.out (by simp; omega) (fun q hq => by have := (HOW.out q hq).1; omega)) (Nat.le_refl _) _ _)
                  have HPB4 : Hid (PB ≤ (w4.setCell ⟨P, 2, none⟩ (.slice (some ⟨gg, 0, none⟩) (k + 1) cap)).heap.size) := Lib.hid (by simp; omega)
                  have HRS4 : Hid (RowG syC (w4.setCell ⟨P, 2, none⟩ (.slice (some ⟨gg, 0, none⟩) (k + 1) cap)) (P + 1) 41 2 (.slice sua oj.s.length suc) oj.s.reverse) := Lib.hid (by
                    refine ownsRow_at HRS.out fun g hg hlt => ?_
                    have h1 := HSB.out g hg
                    have h2 := (ownsRow_own HRS.out g hg).1
                    rw [Below.heap_setCell w4 _ _ g (fun e => by have e' : g = P := e; omega)]
                    exact (HGR.out.block g (by simp; omega) (fun e => by have := (HOW.out g e.symm).1; omega)).trans (Below.heap_alloc wr _ g hlt))
                  have HC5 : Hid (Cls (w4.setCell ⟨P, 2, none⟩ (.slice (some ⟨gg, 0, none⟩) (k + 1) cap)) P [.slice ba oj.b.length cb, .slice sua oj.s.length suc, .slice (some ⟨gg, 0, none⟩) (k + 1) cap]) := Lib.hid (HC4.out.set (k := 2) (by simp) _)
                  have HR5 : Hid (RowG wnC (w4.setCell ⟨P, 2, none⟩ (.slice (some ⟨gg, 0, none⟩) (k + 1) cap)) PB 43 4 (.slice (some ⟨gg, 0, none⟩) (k + 1) cap) (oj.t.reverse.take (k + 1))) := Lib.hid (by
                    rw [HRV.out]
                    refine RowG.snoc ?_
                    rw [HTL.out]
                    refine ownsRow_at HOW4.out fun g hg hlt => Below.heap_setCell w4 _ _ g (fun e => ?_)
                    have h1 := (ownsRow_own HOW4.out g hg).1
                    have e' : g = P := e
                    omega)
                  have HT5 : Hid (Below P wo (w4.setCell ⟨P, 2, none⟩ (.slice (some ⟨gg, 0, none⟩) (k + 1) cap))) := Lib.hid (HTU.out.trans HB4.out)
                  clear l24 f24 hown4 hgrow4 hat4 hlt4
                  go_wp2_with fail
                  go_roundw
                  case rel => exact ⟨k + 1, by omega, by have h9 := HQK.out; go_num, ⟨_, HC5.out, HR5.out⟩, HT5.out, HPB4.out, HSB.out, HRS4.out⟩
                  case measure => (simp [intOf]; try omega)
              · obtain rfl : k = oj.t.length := by omega
                have hall : oj.t.reverse.take oj.t.length = oj.t.reverse := List.take_of_length_le (by simp)
                rw [hall] at hru HRU
                obtain ⟨ua, uc, rfl⟩ := hru.shape
                rw [List.length_reverse] at HCU HRU hru hcu
                have hlen : ((l.map turnO).take j).length = j := by rw [List.length_take, List.length_map]; omega
                have HLEN := Lib.hid hlen
                obtain ⟨cs0, hc1, hc2, hc3⟩ := HTS.out.row
                have HC1 : Hid (cs0.length = j) := Lib.hid (by rw [hc1, hlen])
                have hkeep : Below wo.heap.size wo wr := by rw [hP]; exact hts
                have HKE := Lib.hid (HTS.out.keep.trans (hts.mono HPW.out))
                have HC3 := Lib.hid (fun i hi => (hc3 i hi).below hkeep)
                have HRO : Hid (∀ ob, (wr.alloc ob).ownsRow w.heap.size 26 3 u5 j (cs0.flatMap obC)) := Lib.hid (fun ob => by
                  unfold RowG at hc2
                  rw [HC1.out] at hc2
                  exact ownsRow_at (ownsRow_at hc2 fun g hg hlt => hkeep.block g hlt) fun g hg hlt => ((Below.refl wr.heap.size wr).alloc (Nat.le_refl _) _).block g hlt)
                have HX : Hid (Ob3F wr u5.ownBlock (.slice ba oj.b.length cb) (.slice sua oj.s.length suc) (.slice ua oj.t.length uc) (turnO oj)) := Lib.hid (Ob3F.made (B := P + 1) (x := turnO oj) HBI.out HKE.out (fun q hq => ⟨(HOWN.out q hq).1, by have := (HOWN.out q hq).2; omega⟩) hrs (World.ownsRow.mono hru (by omega)) ⟨by show oj.s.reverse.length ≤ _; simp; omega, by show oj.t.reverse.length ≤ _; simp; omega⟩)
                have e0 := HCU.out.at 0 _ rfl
                have e1 := HCU.out.at 1 _ rfl
                have e2 := HCU.out.at 2 _ rfl
                have hPwr := cell_lt e0
                have hwz := HKE.out.size
                clear hru hcu hrs hts hc2 hc3 hlen hkeep hall hc1
                obtain ⟨wf, rfl⟩ : ∃ wo : World, wo = wr := ⟨_, rfl⟩
                go_wp2_with (at_builtin; refine wpList_append_lies _ rfl _ _ _ rfl w.heap.size 26 io0 (.agg #[.slice none 0 0, .slice none 0 0, .slice none 0 0]) 3 72 Tryz.underlying28 hio hzo0 hzo1 hzo2 rfl (by decide) u5 j (cs0.flatMap obC) rfl (HRO.out _) ⟨wf.heap.size, 0, none⟩ 1 1 [.slice ba oj.b.length cb, .slice sua oj.s.length suc, .slice ua oj.t.length uc] rfl rfl (World.news_of_block (cs := #[.slice ba oj.b.length cb, .slice sua oj.s.length suc, .slice ua oj.t.length uc]) (t := 26) (fr := (0, 0)) (show _ from Array.getElem?_push_size)) (by simp [Value.oneCell']) (by decide) (by unfold maxLen; omega) (by omega) (by simp; omega) (wf.heap.size + 1) (by simp) (fun gc capc w6 ho6 hg6 hat6 hl6 => ?_); have HO6 := Lib.hid ho6; have HG6 := Lib.hid hg6; have HAT6 := Lib.hid hat6; clear ho6 hg6 hat6 hl6)
                have HFIN : Hid (TurS w ((l.map turnO).take (j + 1)) (.slice (some ⟨gc, 0, none⟩) (j + 1) capc) w6) := by
                  refine Lib.hid ?_
                  have hb := (Below.refl wf.heap.size wf).alloc (Nat.le_refl _) (.cells #[.slice ba oj.b.length cb, .slice sua oj.s.length suc, .slice ua oj.t.length uc] 26)
                  have := TurS.app (w0 := w) (w := wf.alloc (.cells #[.slice ba oj.b.length cb, .slice sua oj.s.length suc, .slice ua oj.t.length uc] 26)) (w' := w6) (ts := (l.map turnO).take j) (v := u5) (x := turnO oj) (g := gc) (cap := capc) (cs := cs0) (by rw [HC1.out, HLEN.out]) (fun i hi => (HC3.out i hi).below hb) (HX.out.below hb) (below_hop HKE.out hb) (fun q hq => (HOWN.out q hq).1) (by rw [HLEN.out]; exact HO6.out) HG6.out (HAT6.out.imp id fun e => by rw [e]; simp)
                  rw [HLEN.out] at this
                  rw [HSTEP.out]
                  exact this
                go_roundw
                case rel => exact ⟨j + 1, by omega, by go_num, HFIN.out⟩
                case measure => (simp [intOf]; try omega)
      · obtain rfl : j = l.length := by omega
        have hfull : (l.map turnO).take l.length = l.map turnO := List.take_of_length_le (by simp)
        have HTF : Hid (TurS w (l.map turnO) u5 wr) := Lib.hid (by rw [← hfull]; exact hts)
        have HOBT := Lib.hid (HTF.out.obs (by simp; omega))
        have C2' := Lib.hid (C2.out wr HTF.out.keep)
        obtain ⟨hE, hJ⟩ := link_turn base l
        have HE := Lib.hid hE
        have HEQ : Hid ((if linkE base l = 0 then linkJ base (l.map turnO) (stA base (l.map turnO)) (l.map turnO).length else []) = (if linkE base l = 0 then linkJ base l (stA base l) l.length else [])) := Lib.hid (by
          by_cases h0 : linkE base l = 0
          · rw [if_pos h0, if_pos h0]; exact hJ h0
          · rw [if_neg h0, if_neg h0])
        have hsh := HOBT.out.shape
        obtain ⟨at', ct', e5, -⟩ := hsh
        have HKE := Lib.hid HTF.out.keep
        rw [List.length_map] at e5
        clear hts hE hJ hfull HTS HTF
        subst e5
        obtain ⟨wo, rfl⟩ : ∃ wo : World, wo = wr := ⟨_, rfl⟩
        go_wp2_with (first | ((go_at_call 15; with_reducible refine C2'.out.mono ?_); rintro e w2 hp2; obtain ⟨v2, x2, rfl, hi2, hx2, hb2⟩ := hp2.ints; obtain ⟨a2, c2, rfl, -⟩ := hi2.shape2; have HI2 := Lib.hid hi2; have HB2 := Lib.hid hb2; have HX2 := Lib.hid hx2; have HOB2 := Lib.hid (HOBT.out.stays hb2); clear hp2 hi2 hb2 hx2) | ((go_at_call 15; with_reducible refine (C3.out _ _ HOB2.out).mono ?_); rintro e w3 hp3; obtain ⟨v3, x3, rfl, hi3, hx3, hb3⟩ := hp3.ints; rw [HE.out] at hx3 ⊢; obtain rfl : x3 = x2 := hx3.trans (HEQ.out.trans HX2.out.symm); obtain ⟨a3, c3, rfl, -⟩ := hi3.shape2; have HI3 := Lib.hid hi3; have HI2b := Lib.hid (HI2.out.stays hb3); have HB3 := Lib.hid (below_hop HB2.out hb3); clear hp3 hi3 hb3 hx3) | ((go_at_call 17; with_reducible refine (C5.out _ _ _ _ HI2b.out HI3.out).mono ?_); rintro e w' ⟨rfl, rfl⟩) | (go_at_call 12; with_reducible refine (C4.out _).mono ?_; rintro e w4 ⟨rfl, hb4⟩))
        go_ret
        exact ⟨rfl, below_hop (below_hop HKE.out HB3.out) hb4⟩
end Go.Proofs.YtaegpeofecdhfaaGreat
