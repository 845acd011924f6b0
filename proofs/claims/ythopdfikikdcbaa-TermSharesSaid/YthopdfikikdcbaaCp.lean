/- Walk of CopyNodes. -/
import Derived.Test.YthopdfikikdcbaaOst
import Derived.Test.YthopdfikikdcbaaSn
import Derived.Laws.AppendOwnNone
namespace Go.Proofs.Ythopdfikikdcbaa
open Go.RowKit Go.Maps Wd
set_option linter.unusedVariables false
set_option linter.unusedSimpArgs false
/-- The cells of a slice of integers, as an append asks for them. -/
theorem Ints.news {w : World} {ad : Addr} {n c : Nat} {xs : List Int} (h : Ints .i64 w (.slice (some ad) n c) xs) : ∀ (j : Nat) (u : Value), (xs.map (Value.int .i64))[j]? = some u → w.cell? (ad.add j) = some u := by
  intro j u hu
  rw [List.getElem?_map] at hu
  cases e : xs[j]? with
  | none => rw [e] at hu; cases hu
  | some y =>
    rw [e] at hu
    cases hu
    have hj : j < xs.length := by
      rcases Nat.lt_or_ge j xs.length with h | h
      · exact h
      · rw [List.getElem?_eq_none h] at e; cases e
    obtain ⟨a, c', e', _, _, _, h4⟩ := h
    cases e'
    obtain ⟨b', o', e', h5, h6⟩ := h4 j hj
    cases e'
    rw [Nat.mul_one, List.getD_eq_getElem?_getD, e] at h6
    by_cases hj0 : j = 0
    · subst hj0; exact h6
    · simpa [Addr.add, hj0] using h6
theorem take_succ_nd (ts : List Nd) (j : Nat) (h : j < ts.length) : ts.take (j + 1) = ts.take j ++ [ts.getD j default] := by
  rw [List.take_succ_eq_append_getElem h, List.getD_eq_getElem?_getD, List.getElem?_eq_getElem h]; rfl
theorem IntsF.below {w w' : World} {v : Value} {xs : List Int} (h : IntsF w v xs) (hb : Below w.heap.size w w') : IntsF w' v xs := by
  refine ⟨h.ints.stays hb, fun b q n c e i hi => ?_⟩
  rw [← h.free b q n c e i hi]
  subst e
  obtain ⟨a, c', e', _, _, _, h4⟩ := h.ints
  cases e'
  obtain ⟨b', o', e', h5, h6⟩ := h4 i hi
  cases e'
  exact hb.frozen (p := ⟨b, q + i, none⟩) h5
set_option maxRecDepth 100000 in
set_option maxHeartbeats 2000000 in
theorem rCopy (ts : List Nd) (tv : Value) (w : World) (ht : Nds w tv ts) (hl : ts.length ≤ 1000) (hn : ∀ x ∈ ts, x.args.length ≤ 1000) :
    Calls Try.prog 25 #[tv] w fun e w' => ∃ v R avs, e = .returned v ∧ OSt w.heap.size ts R w' v avs ∧ Below w.heap.size w w' := by
  have HT := Lib.hid ht
  have HN := Lib.hid hn
  obtain ⟨ta, tc, rfl, ht1, ht2⟩ := ht.shape
  clear ht hn
  obtain ⟨i0, hi0, hz0, hz1, hz2⟩ := info_parts info_int
  obtain ⟨n0, hn0, hy0, hy1, hy2⟩ := info_parts info_node
  go_enter Try.func25, Try.ntmps25
  go_wp2_with fail
  go_loopw [3, 4] (fun v0 i wr => ∃ (j : Nat) (v : Value) (R : Nat → Prop) (avs : List Value), v = v0 ∧ j ≤ ts.length ∧ i = .int .i64 j ∧ OSt w.heap.size (ts.take j) R wr v avs ∧ Below w.heap.size w wr) (fun _ i _ => ts.length - (intOf i).toNat)
  case atStart => exact ⟨0, _, _, _, rfl, Nat.zero_le _, rfl, OSt.nil _ _, Below.refl _ _⟩
  case round =>
    obtain ⟨j, v, R, avs, rfl, hj, rfl, ho, hb⟩ := hrel
    have HO := Lib.hid ho
    have HB := Lib.hid hb
    have hbs := hb.size
    clear ho hb
    by_cases hlt : j < ts.length
    · have HTK := Lib.hid (take_succ_nd ts j hlt)
      obtain ⟨b, q, c', av, e', _, hbq, hav, c0, c1, c2, c3, c4⟩ := HT.out.at2 HB.out hlt
      cases e'
      have HNJ := Lib.hid (HN.out _ (mem_getD hlt))
      generalize ts.getD j default = x at *
      obtain ⟨op, width, flags, args, imm⟩ := x
      simp only at hav c0 c1 c2 c3 c4
      have hn20 : args.length ≤ 1000 := HNJ.out
      have HAV := Lib.hid (hav.stays HB.out)
      obtain ⟨aa, ac, rfl, ha1, ha2⟩ := hav.shape
      have hnone : aa = none → args = [] ∧ ac = 0 := fun e => by
        obtain ⟨a', c'', e', h1, _, h3, _⟩ := hav
        cases e'
        have := h3 e
        exact ⟨List.length_eq_zero_iff.1 (by omega), this⟩
      have HNONE := Lib.hid hnone
      clear hav hnone
      have hl0 := HO.out.row.1
      have hlj : (ts.take j).length = j := by rw [List.length_take, Nat.min_eq_left hj]
      have HLJ := Lib.hid hlj
      clear hlj hl0
      obtain ⟨na, nc, hna⟩ := own_shape HO.out.row
      rw [HLJ.out] at hna
      subst hna
      by_cases hsn : aa = none
      · obtain ⟨ha0, hc0⟩ := HNONE.out hsn
        subst hsn ha0 hc0
        have HEM : Hid (((wr.alloc (.cells #[.int .i64 op, .int .i64 width, .int .i64 flags, .slice none 0 0, .int .u32 imm] 47)).alloc (.cells #[] 3)).ownsRow (wr.heap.size + 1) 3 1 (.slice (some ⟨wr.heap.size + 1, 0, none⟩) 0 0) 0 []) := by
          have := ownsRow_empty (wr.alloc (.cells #[.int .i64 op, .int .i64 width, .int .i64 flags, .slice none 0 0, .int .u32 imm] 47)) (wr.heap.size + 1) (by simp) 3
          rw [show (wr.alloc (.cells #[.int .i64 op, .int .i64 width, .int .i64 flags, .slice none 0 0, .int .u32 imm] 47)).heap.size = wr.heap.size + 1 by simp] at this
          exact this
        have HROW : Hid (((wr.alloc (.cells #[.int .i64 op, .int .i64 width, .int .i64 flags, .slice (some ⟨wr.heap.size + 1, 0, none⟩) 0 0, .int .u32 imm] 47)).alloc (.cells #[] 3)).ownsRow w.heap.size 47 5 (.slice na j nc) j (rowsC (ts.take j) avs)) := by
          have h9 := (HO.out.below (show Below wr.heap.size wr ((wr.alloc (.cells #[.int .i64 op, .int .i64 width, .int .i64 flags, .slice (some ⟨wr.heap.size + 1, 0, none⟩) 0 0, .int .u32 imm] 47)).alloc (.cells #[] 3)) from ((Below.refl _ _).alloc (Nat.le_refl _) _).alloc (by simp) _)).row
          rw [HLJ.out] at h9
          exact h9
        have HEN : Hid (((wr.alloc (.cells #[.int .i64 op, .int .i64 width, .int .i64 flags, .slice (some ⟨wr.heap.size + 1, 0, none⟩) 0 0, .int .u32 imm] 47)).alloc (.cells #[] 3)).ownsRow (wr.heap.size + 1) 3 1 (.slice (some ⟨wr.heap.size + 1, 0, none⟩) 0 0) 0 []) := by
          have := ownsRow_empty (wr.alloc (.cells #[.int .i64 op, .int .i64 width, .int .i64 flags, .slice (some ⟨wr.heap.size + 1, 0, none⟩) 0 0, .int .u32 imm] 47)) (wr.heap.size + 1) (by simp) 3
          rw [show (wr.alloc (.cells #[.int .i64 op, .int .i64 width, .int .i64 flags, .slice (some ⟨wr.heap.size + 1, 0, none⟩) 0 0, .int .u32 imm] 47)).heap.size = wr.heap.size + 1 by simp] at this
          exact this
        go_wp2_with (first | (at_builtin; refine wpList_append_own_none rfl _ _ 25 rfl (wr.heap.size + 1) 3 i0 1 Try.underlying25 hi0 _ _ _ rfl HEM.out rfl ?_) | (at_builtin; refine wpList_append_own_at _ rfl _ _ 22 rfl w.heap.size 47 n0 _ 5 56 Try.underlying22 hn0 hy0 hy1 hy2 rfl (by decide) _ _ _ rfl (HROW.out.alloc _) ⟨_, 0, none⟩ 1 1 [.int .i64 op, .int .i64 width, .int .i64 flags, .slice (some ⟨wr.heap.size + 1, 0, none⟩) 0 0, .int .u32 imm] rfl rfl ?d1x1 ?d2x1 ?d3x1 ?d4x1 ?d5x1 ?_))
        try case d1x1 =>
          intro i u h
          rcases i with _ | _ | _ | _ | _ | i <;> first | (cases h; simp [go_sem, Addr.add]) | cases h
        try case d2x1 => simp [Value.oneCell']
        try case d3x1 => unfold maxLen; omega
        try case d4x1 => omega
        try case d5x1 => first | omega | (simp; omega)
        intro v' w2 hown' hgrow _ hat
        have HOW := Lib.hid hown'
        have HGR := Lib.hid hgrow
        have HAT := Lib.hid hat
        clear hown' hgrow hat
        go_wp2_with fail
        go_roundw
        case rel =>
          have HCG : Chg (fun b => (Value.slice na j nc).ownBlock = some b) ((wr.alloc (.cells #[.int .i64 op, .int .i64 width, .int .i64 flags, .slice (some ⟨wr.heap.size + 1, 0, none⟩) 0 0, .int .u32 imm] 47)).alloc (.cells #[] 3)) w2 := (Chg.of_below ((Below.refl _ _).alloc (Nat.le_refl _) _)).trans (Chg.of_grown HGR.out (fun k hk => hk)) (fun _ _ h => h)
          have hno := own_lt HO.out.row
          have ho2 := OSt.add (x := ⟨op, width, flags, [], imm⟩) (av := .slice (some ⟨wr.heap.size + 1, 0, none⟩) 0 0) (w := ((wr.alloc (.cells #[.int .i64 op, .int .i64 width, .int .i64 flags, .slice (some ⟨wr.heap.size + 1, 0, none⟩) 0 0, .int .u32 imm] 47)).alloc (.cells #[] 3))) (HO.out.below (show Below wr.heap.size wr ((wr.alloc (.cells #[.int .i64 op, .int .i64 width, .int .i64 flags, .slice (some ⟨wr.heap.size + 1, 0, none⟩) 0 0, .int .u32 imm] 47)).alloc (.cells #[] 3)) from ((Below.refl _ _).alloc (Nat.le_refl _) _).alloc (by simp) _)) (RowI.intsF (xs := []) HEN.out (by simp)) (fun b hb => (show wr.heap.size + 1 = b by simpa [Value.ownBlock] using hb) ▸ ⟨fun e => by have := hno _ e; omega, by omega, by simp⟩) HCG (by rw [HLJ.out]; exact HOW.out) (HAT.out.imp_right fun h => ⟨_, h, by simp⟩)
          refine ⟨j + 1, v', _, _, rfl, by omega, by go_num, by rw [HTK.out]; exact ho2, ?_⟩
          exact ((HB.out.trans ((show Below wr.heap.size wr ((wr.alloc (.cells #[.int .i64 op, .int .i64 width, .int .i64 flags, .slice (some ⟨wr.heap.size + 1, 0, none⟩) 0 0, .int .u32 imm] 47)).alloc (.cells #[] 3)) from ((Below.refl _ _).alloc (Nat.le_refl _) _).alloc (by simp) _).mono hbs)).alloc (by simp; omega) _).grown HGR.out (by simp; omega) (own_ge HO.out.row)
        case measure => simp [intOf]; omega
      · obtain ⟨ad, rfl⟩ : ∃ ad, aa = some ad := by cases aa with | none => exact absurd rfl hsn | some ad => exact ⟨ad, rfl⟩
        clear hsn
        have HEM : Hid (((wr.alloc (.cells #[.int .i64 op, .int .i64 width, .int .i64 flags, .slice (some ad) args.length ac, .int .u32 imm] 47)).alloc (.cells #[] 3)).ownsRow (wr.heap.size + 1) 3 1 (.slice (some ⟨wr.heap.size + 1, 0, none⟩) 0 0) 0 []) := by
          have := ownsRow_empty (wr.alloc (.cells #[.int .i64 op, .int .i64 width, .int .i64 flags, .slice (some ad) args.length ac, .int .u32 imm] 47)) (wr.heap.size + 1) (by simp) 3
          rw [show (wr.alloc (.cells #[.int .i64 op, .int .i64 width, .int .i64 flags, .slice (some ad) args.length ac, .int .u32 imm] 47)).heap.size = wr.heap.size + 1 by simp] at this
          exact this
        have HNW := Lib.hid ((HAV.out.stays (show Below wr.heap.size wr ((wr.alloc (.cells #[.int .i64 op, .int .i64 width, .int .i64 flags, .slice (some ad) args.length ac, .int .u32 imm] 47)).alloc (.cells #[] 3)) from ((Below.refl _ _).alloc (Nat.le_refl _) _).alloc (by simp) _)).news)
        go_wp2_with (at_builtin; refine wpList_append_own_at _ rfl _ _ 25 rfl (wr.heap.size + 1) 3 i0 (.int .i64 0) 1 8 Try.underlying25 hi0 hz0 hz1 hz2 rfl (by decide) _ _ _ rfl HEM.out ad args.length ac (args.map (Value.int .i64)) rfl ?e0 HNW.out ?e2 ?e3 ?e4 ?e5 ?_)
        try case e0 => simp
        try case e2 => simp [Value.oneCell']
        try case e3 => unfold maxLen; omega
        try case e4 => omega
        try case e5 => simp
        intro v1 w1 hown1 hgrow1 _ hat1
        have hc1 : Chg (fun b => b = wr.heap.size + 1) ((wr.alloc (.cells #[.int .i64 op, .int .i64 width, .int .i64 flags, .slice (some ad) args.length ac, .int .u32 imm] 47)).alloc (.cells #[] 3)) w1 := Chg.of_grown hgrow1 (fun k hk => by cases hk; rfl)
        have hs1 := hc1.size
        have hs1' : wr.heap.size + 2 ≤ w1.heap.size := by simpa using hs1
        have x0 := hc1.cell (b := wr.heap.size) (o := 0) (by omega) (v := .int .i64 op) (by simp [go_sem])
        have x1 := hc1.cell (b := wr.heap.size) (o := 1) (by omega) (v := .int .i64 width) (by simp [go_sem])
        have x2 := hc1.cell (b := wr.heap.size) (o := 2) (by omega) (v := .int .i64 flags) (by simp [go_sem])
        have x3 := hc1.cell (b := wr.heap.size) (o := 3) (by omega) (v := .slice (some ad) args.length ac) (by simp [go_sem])
        have x4 := hc1.cell (b := wr.heap.size) (o := 4) (by omega) (v := .int .u32 imm) (by simp [go_sem])
        have z3 : w1.frozen? ⟨wr.heap.size, 3, none⟩ = false := by rw [hc1.frozen (by omega) (by simp; omega)]; simp [go_sem]
        have hrw : RowI w1 (wr.heap.size + 1) 3 .i64 v1 args := by simpa [RowI] using hown1
        obtain ⟨va, vc, hv1⟩ := hrw.shape
        subst hv1
        have HC1 := Lib.hid hc1
        have hset : Chg (fun b => b = wr.heap.size) w1 (w1.setCell ⟨wr.heap.size, 3, none⟩ (.slice va args.length vc)) := (Chg.refl (fun b => b = wr.heap.size) w1).setCell (b := wr.heap.size) rfl _
        have hall : Chg (fun b => wr.heap.size ≤ b) wr (w1.setCell ⟨wr.heap.size, 3, none⟩ (.slice va args.length vc)) := ((Chg.of_below (show Below wr.heap.size wr ((wr.alloc (.cells #[.int .i64 op, .int .i64 width, .int .i64 flags, .slice (some ad) args.length ac, .int .u32 imm] 47)).alloc (.cells #[] 3)) from ((Below.refl _ _).alloc (Nat.le_refl _) _).alloc (by simp) _)).trans hc1 (fun k hk h => by omega)).trans hset (fun k hk h => by omega)
        have HALL := Lib.hid (hall.below (Nat.le_refl _) (fun k h => h))
        have HIF : Hid (IntsF (w1.setCell ⟨wr.heap.size, 3, none⟩ (.slice va args.length vc)) (.slice va args.length vc) args) := by
          have h9 : RowI (w1.setCell ⟨wr.heap.size, 3, none⟩ (.slice va args.length vc)) (wr.heap.size + 1) 3 .i64 (.slice va args.length vc) args :=
            own_same (T := fun b => (Value.slice va args.length vc).ownBlock = some b) hrw (hset.same fun k hk => ⟨own_lt hrw k hk, by have := own_ge hrw k hk; omega⟩) (fun b h => h)
          exact h9.intsF (by omega)
        have HOV : Hid (∀ b, (Value.slice va args.length vc).ownBlock = some b → wr.heap.size + 1 ≤ b ∧ b < w1.heap.size) := fun b hb => ⟨own_ge hrw b hb, own_lt hrw b hb⟩
        have HROW : Hid ((w1.setCell ⟨wr.heap.size, 3, none⟩ (.slice va args.length vc)).ownsRow w.heap.size 47 5 (.slice na j nc) j (rowsC (ts.take j) avs)) := by
          have h9 := (HO.out.below HALL.out).row
          rw [HLJ.out] at h9
          exact h9
        clear hown1 hgrow1 hat1 hc1 hset hall hrw hs1
        go_wp2_with (at_builtin; refine wpList_append_own_at _ rfl _ _ 22 rfl w.heap.size 47 n0 _ 5 56 Try.underlying22 hn0 hy0 hy1 hy2 rfl (by decide) _ _ _ rfl (HROW.out.alloc _) ⟨_, 0, none⟩ 1 1 [.int .i64 op, .int .i64 width, .int .i64 flags, .slice va args.length vc, .int .u32 imm] rfl rfl ?d1x2 ?d2x2 ?d3x2 ?d4x2 ?d5x2 ?_)
        try case d1x2 =>
          intro i u h
          rcases i with _ | _ | _ | _ | _ | i <;> first | (cases h; simp [go_sem, Addr.add]) | cases h
        try case d2x2 => simp [Value.oneCell']
        try case d3x2 => unfold maxLen; omega
        try case d4x2 => omega
        try case d5x2 => first | omega | (simp; omega)
        intro v' w2 hown' hgrow _ hat
        have HOW := Lib.hid hown'
        have HGR := Lib.hid hgrow
        have HAT := Lib.hid hat
        clear hown' hgrow hat
        go_wp2_with fail
        go_roundw
        case rel =>
          have HCG : Chg (fun b => (Value.slice na j nc).ownBlock = some b) (w1.setCell ⟨wr.heap.size, 3, none⟩ (.slice va args.length vc)) w2 := (Chg.of_below ((Below.refl _ _).alloc (Nat.le_refl _) _)).trans (Chg.of_grown HGR.out (fun k hk => hk)) (fun _ _ h => h)
          have hno := own_lt HO.out.row
          have ho2 := OSt.add (x := ⟨op, width, flags, args, imm⟩) (av := .slice va args.length vc) (w := (w1.setCell ⟨wr.heap.size, 3, none⟩ (.slice va args.length vc))) (HO.out.below HALL.out) HIF.out (fun b hb => ⟨fun e => by have := hno b e; have := (HOV.out b hb).1; omega, by have := (HOV.out b hb).1; omega, by simp [World.setCell]; exact (HOV.out b hb).2⟩) HCG (by rw [HLJ.out]; exact HOW.out) (HAT.out.imp_right fun h => ⟨_, h, by simp⟩)
          refine ⟨j + 1, v', _, _, rfl, by omega, by go_num, by rw [HTK.out]; exact ho2, ?_⟩
          exact ((HB.out.trans (HALL.out.mono hbs)).alloc (by simp; omega) _).grown HGR.out (by simp; omega) (own_ge HO.out.row)
        case measure => simp [intOf]; omega
    · obtain rfl : j = ts.length := by omega
      go_wp2_with fail
      go_ret
      have ho := HO.out
      rw [List.take_length] at ho
      exact ⟨_, R, avs, rfl, ho, HB.out⟩
end Go.Proofs.Ythopdfikikdcbaa
