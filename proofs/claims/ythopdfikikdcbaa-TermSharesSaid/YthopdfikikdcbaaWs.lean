/- Walk of the law TermShares. -/
import Derived.Test.YthopdfikikdcbaaShc
namespace Go.Proofs.Ythopdfikikdcbaa
open Go.RowKit Go.Maps Wd
set_option linter.unusedVariables false
set_option linter.unusedSimpArgs false
/-- The slice v holds n integers that may be written. -/
def IntsA (w : World) (v : Value) (n : Nat) : Prop := ∃ xs, xs.length = n ∧ IntsF w v xs
theorem IntsA.set {w : World} {v : Value} {n b o : Nat} {u : Value} (h : IntsA w v n) (hc : w.cell? ⟨b, o, none⟩ = some u) (x : Int) : IntsA (w.setCell ⟨b, o, none⟩ (.int .i64 x)) v n := by
  classical
  obtain ⟨xs, rfl, ⟨a, c, rfl, h1, h2, h3, h4⟩, hf⟩ := h
  refine ⟨(List.range xs.length).map fun i => if ∃ q, a = some ⟨b, q, none⟩ ∧ q + i = o then x else xs.getD i 0, by simp, ⟨a, c, by simp, by simpa using h1, by simpa using h2, h3, fun i hi => ?_⟩, fun b' q n' c' e i hi => ?_⟩
  · have hi' : i < xs.length := by simpa using hi
    obtain ⟨b', q, rfl, h5, h6⟩ := h4 i hi'
    refine ⟨b', q, rfl, by simpa using h5, ?_⟩
    show World.cell? _ _ = some (Value.int .i64 (List.getD _ i 0))
    rw [List.getD_eq_getElem?_getD, List.getElem?_map, List.getElem?_range hi']
    show (w.setCell _ _).cell? _ = some (Value.int .i64 (if _ then x else xs.getD i 0))
    by_cases hq : ∃ q', some (⟨b', q, none⟩ : Addr) = some ⟨b, q', none⟩ ∧ q' + i = o
    · rw [if_pos hq]
      obtain ⟨q', e, e2⟩ := hq
      cases e
      subst e2
      rw [Nat.mul_one]
      exact World.cell?_setCell_same _ _ _ hc
    · rw [if_neg hq]
      rw [World.cell?_setCell_other _ _ _ _ (by
        intro e
        rw [Nat.mul_one] at e
        cases e
        exact hq ⟨q, rfl, rfl⟩)]
      exact h6
  · rw [World.frozen?_setCell]
    exact hf b' q xs.length c' (by cases e; rfl) i (by simpa using hi)
/-- The Args of the nodes of a list lie in blocks of R and may be written; the list itself does not lie there. -/
structure Wrt (w : World) (B : Nat) (na : Option Addr) (o : List Nd) (R : Nat → Prop) (avs : List Value) : Prop where
  len : avs.length = o.length
  blk : ∀ i, i < o.length → ∃ g, na = some ⟨g, 0, none⟩ ∧ ¬ R g ∧ g < w.heap.size ∧ w.cell? ⟨g, i * 5 + 3, none⟩ = some (avs.getD i undef)
  arg : ∀ i, i < o.length → IntsA w (avs.getD i undef) (o.getD i default).args.length
  own : ∀ i, i < o.length → ∀ b, (avs.getD i undef).ownBlock = some b → R b
  low : ∀ b, R b → B ≤ b
theorem Wrt.of {w w' : World} {v : Value} {o : List Nd} (h : ShrIs w w' v o) : ∃ na nc R avs, v = .slice na o.length nc ∧ Wrt w' w.heap.size na o R avs := by
  obtain ⟨bb, W, R, fv, avs, h1, h2, h3⟩ := h
  obtain ⟨na, nc, rfl⟩ := own_shape h1.row
  refine ⟨na, nc, R, avs, rfl, h1.len, fun i hi => ?_, fun i hi => ⟨_, rfl, (h1.args i hi).1⟩, fun i hi b hb => (h1.args i hi).2 b hb, fun b hb => h2 b (.inr hb)⟩
  obtain ⟨h0, ⟨e, h5⟩ | ⟨g, cap, cur, e, hb', hg, h5, h6, h7, h8⟩⟩ := h1.row
  · simp at e; omega
  · cases e
    have hgl : g < w'.heap.size := by
      rcases Nat.lt_or_ge g w'.heap.size with h | h
      · exact h
      · rw [Array.getElem?_eq_none h] at hg; cases hg
    refine ⟨g, rfl, h1.WR g (h1.rowW g rfl).1, hgl, ?_⟩
    have e1 : w'.cell? ⟨g, i * 5 + 3, none⟩ = cur.toList[i * 5 + 3]? := by simp [World.cell?, hg]
    have e2 : (cur.toList.take (o.length * 5))[i * 5 + 3]? = cur.toList[i * 5 + 3]? := by rw [List.getElem?_take, if_pos (by omega)]
    rw [e1, ← e2, h8]
    exact rowsC_get o avs h1.len i 3 hi (by omega)
theorem Wrt.below {w w' : World} {B : Nat} {na : Option Addr} {o : List Nd} {R : Nat → Prop} {avs : List Value} (h : Wrt w B na o R avs) (hb : Below w.heap.size w w') : Wrt w' B na o R avs :=
  ⟨h.len, fun i hi => by
    obtain ⟨g, h1, h2, h3, h4⟩ := h.blk i hi
    exact ⟨g, h1, h2, Nat.lt_of_lt_of_le h3 hb.size, below_cell hb h3 h4⟩, fun i hi => by
    obtain ⟨xs, h1, h2⟩ := h.arg i hi
    exact ⟨xs, h1, h2.below hb⟩, h.own, h.low⟩
theorem Wrt.set {w : World} {B : Nat} {na : Option Addr} {o : List Nd} {R : Nat → Prop} {avs : List Value} {b p : Nat} {u : Value} (h : Wrt w B na o R avs) (hc : w.cell? ⟨b, p, none⟩ = some u) (hR : R b) (x : Int) : Wrt (w.setCell ⟨b, p, none⟩ (.int .i64 x)) B na o R avs :=
  ⟨h.len, fun i hi => by
    obtain ⟨g, h1, h2, h3, h4⟩ := h.blk i hi
    refine ⟨g, h1, h2, by simpa using h3, ?_⟩
    rw [World.cell?_setCell_other _ _ _ _ (by intro e; cases e; exact h2 hR)]
    exact h4, fun i hi => (h.arg i hi).set hc x, h.own, h.low⟩
/-- The place of an Arg. -/
theorem Wrt.at {w : World} {B L : Nat} {na : Option Addr} {o : List Nd} {R : Nat → Prop} {avs : List Value} (h : Wrt w B na o R avs) {i : Nat} (hi : i < o.length) (hL : L = (o.getD i default).args.length) :
    ∃ g ba c, na = some ⟨g, 0, none⟩ ∧ g < w.heap.size ∧ w.cell? ⟨g, i * 5 + 3, none⟩ = some (.slice ba L c) ∧
      ∀ m, m < L → ∃ b q u, ba = some ⟨b, q, none⟩ ∧ R b ∧ w.cell? ⟨b, q + m, none⟩ = some u ∧ w.frozen? ⟨b, q + m, none⟩ = false := by
  subst hL
  obtain ⟨g, h1, h2, h3, h4⟩ := h.blk i hi
  obtain ⟨xs, hx, ⟨a, c, ev, h5, h6, h7, h8⟩, hf⟩ := h.arg i hi
  have ho := h.own i hi
  rw [hx] at ev
  rw [ev] at h4 ho hf
  refine ⟨g, a, c, h1, h3, h4, fun m hm => ?_⟩
  obtain ⟨b, q, e, h9, h10⟩ := h8 m (by omega)
  subst e
  rw [Nat.mul_one] at h10
  exact ⟨b, q, _, rfl, ho b rfl, h10, hf b q _ _ rfl m (by omega)⟩
set_option maxRecDepth 100000 in
set_option maxHeartbeats 4000000 in
theorem wTermShares (ts : List Nd) (k : Int) (tv : Value) (w : World) (hts : Nds w tv ts) (hi : ∀ x ∈ ts, 0 ≤ x.imm ∧ x.imm ≤ 4294967295) : Calls Try.prog 5 #[tv, .int .i64 k] w fun e w' => e = .returned (.bool true) ∧ Below w.heap.size w w' := by
  have HT := Lib.hid hts
  have HI := Lib.hid hi
  obtain ⟨ta, tc, rfl, ht1, ht2⟩ := hts.shape
  clear hi hts
  have KN := Lib.hid known7
  cases hl : longB ts
  rotate_left
  · go_enter Try.func5, Try.ntmps5
    go_wp2_with fail
    refine (long_any ts _ _ HT.out).mono ?_
    rintro e w' ⟨rfl, rfl⟩
    go_wp2_with fail
    refine (KN.out _).mono ?_
    rintro e w8 ⟨rfl, hb8⟩
    go_wp2_with fail
    go_ret
    exact ⟨rfl, hb8⟩
  have HLG := Lib.hid (longB_no hl)
  by_cases h : valE ts = 0
  · have HV := Lib.hid h
    have HSL : Hid (shrL ts = shr ts (ts.length - 1)) := if_pos h
    have HDN := Lib.hid (valid_down h)
    obtain ⟨hv1, hv2, _⟩ := valid_facts h
    have HLN := Lib.hid (shr_len HDN.out (k := ts.length - 1) (by omega))
    have HRT := Lib.hid (shr_root HDN.out (k := ts.length - 1) (by omega))
    have HVS := Lib.hid (shr_valid h HI.out (k := ts.length - 1) (by omega))
    have HIS := Lib.hid (shr_imm HDN.out HI.out (k := ts.length - 1) (by omega))
    have HAG := Lib.hid (shr_again HDN.out (k := ts.length - 1) (by omega))
    clear h
    go_enter Try.func5, Try.ntmps5
    go_wp2_with fail
    refine (long_any ts _ _ HT.out).mono ?_
    rintro e w' ⟨rfl, rfl⟩
    rw [hl]
    go_wp2_with fail
    refine (rCopy ts _ _ HT.out (by omega) (fun x hx => by have := HLG.out.2 x hx; omega)).mono ?_
    rintro e w1 ⟨ov, R0, avs0, rfl, ho, hb1⟩
    have HOV := Lib.hid (ho.nds (by omega))
    have HB1 := Lib.hid hb1
    clear ho hb1
    obtain ⟨oa, oc, rfl, _⟩ := HOV.out.shape
    go_wp2_with fail
    refine (pShare_ok ts _ _ HV.out HI.out HOV.out).mono ?_
    rintro e w2 ⟨av, rfl, hs⟩
    have HS := Lib.hid hs
    have HB2 := Lib.hid (below_hop HB1.out hs.bel)
    obtain ⟨na, nc, R, avs, rfl, hw⟩ := Wrt.of hs
    have HW := Lib.hid hw
    have HA2 := Lib.hid (hs.nds (by have := HLN.out; omega))
    have HO2 := Lib.hid (HOV.out.stays hs.bel)
    have hz12 := hs.bel.size
    have HBW := Lib.hid hs.bel
    clear hs hw
    have HVL := Lib.hid (rShare ts (.slice ta ts.length tc) w2 HI.out (HT.out.stays HB2.out))
    rw [HV.out, HSL.out] at HVL
    generalize hsh : shr ts (ts.length - 1) = sh at *
    have HSH := Lib.hid hsh
    clear hsh
    go_wp2_with fail
    refine (HVL.out).mono ?_
    rintro e w3 ⟨bv, rfl, hbv, hb3⟩
    obtain ⟨ba, bc, rfl, _⟩ := hbv.shape
    have HB3 := Lib.hid hb3
    have HBV := Lib.hid hbv
    clear hbv hb3
    go_wp2_with fail
    refine (pPart ts _ _ _ HI.out (HO2.out.stays HB3.out)).mono ?_
    rintro e w4 ⟨cv, rfl, hcv, hb4⟩
    obtain ⟨ca, cc, rfl, _⟩ := hcv.shape
    have HB4 := Lib.hid (below_hop HB3.out hb4)
    have HCV := Lib.hid hcv
    have HBV4 := Lib.hid (HBV.out.stays hb4)
    clear hcv hb4
    go_wp2_with fail
    refine (rPart ts _ _ _ HI.out (HT.out.stays (below_hop HB2.out HB4.out))).mono ?_
    rintro e w5 ⟨dv, rfl, hdv, hb5⟩
    obtain ⟨da, dc, rfl, _⟩ := hdv.shape
    have HB5 := Lib.hid (below_hop HB4.out hb5)
    have HDV := Lib.hid hdv
    have HCV5 := Lib.hid (HCV.out.stays hb5)
    have HBV5 := Lib.hid (HBV4.out.stays hb5)
    clear hdv hb5
    generalize prtE ts k = pe at *
    generalize prtL ts k = pl at *
    go_wp2_with fail
    refine (rSameNodes sh sh _ _ _ (HA2.out.stays HB5.out) HBV5.out).mono ?_
    rintro e w6 ⟨rfl, hb6⟩
    have HB6 := Lib.hid (below_hop HB5.out hb6)
    have HCV6 := Lib.hid (HCV5.out.stays hb6)
    have HDV6 := Lib.hid (HDV.out.stays hb6)
    clear hb6
    rw [decide_eq_true (rfl : sh = sh)]
    go_wp2_with fail
    refine (rSameNodes pl pl _ _ _ HCV6.out HDV6.out).mono ?_
    rintro e w7 ⟨rfl, hb7⟩
    have HB7 := Lib.hid (below_hop HB6.out hb7)
    clear hb7
    rw [decide_eq_true (rfl : pl = pl)]
    go_wp2_with fail
    refine (pShare_ok sh _ _ HVS.out HIS.out (HA2.out.stays HB7.out)).mono ?_
    rintro e w8 ⟨av2, rfl, hs8⟩
    have hb8 := hs8.bel
    rw [HAG.out] at hs8
    have HA8 := Lib.hid (hs8.nds (by have := HLN.out; omega))
    have HB8 := Lib.hid (below_hop HB7.out hb8)
    obtain ⟨aa2, ac2, rfl, _⟩ := HA8.out.shape
    clear hs8 hb8
    go_wp2_with fail
    refine (rSameNodes sh sh _ _ _ HA8.out (HA2.out.stays HB8.out)).mono ?_
    rintro e w9 ⟨rfl, hb9⟩
    have HB9 := Lib.hid (below_hop HB8.out hb9)
    clear hb9
    rw [decide_eq_true (rfl : sh = sh)]
    have hsl : sh.length ≤ 300 := by have := HLN.out; omega
    have HW9 := Lib.hid (HW.out.below HB9.out)
    have HB19 := Lib.hid (HBW.out.trans (HB9.out.mono hz12))
    go_wp2_with fail
    go_loopw [16] (fun iv wx => ∃ j : Nat, iv = .int .i64 j ∧ j ≤ sh.length ∧ Wrt wx w1.heap.size na sh R avs ∧ Below w1.heap.size w1 wx) (fun iv _ => sh.length - (intOf iv).toNat)
    case atStart => exact ⟨0, rfl, Nat.zero_le _, HW9.out, HB19.out⟩
    case round =>
      obtain ⟨j, rfl, hj, hw, hb⟩ := hrel
      by_cases hlt : j < sh.length
      · obtain ⟨L, HLL⟩ : ∃ L, Hid (L = (sh.getD j default).args.length) := ⟨_, rfl⟩
        have hL3 : L ≤ 3 := by rw [HLL.out]; exact (ndV_of HVS.out HIS.out j hlt).len
        have HWW := Lib.hid hw
        have HBB := Lib.hid hb
        clear hw hb
        go_wp2_with fail
        go_loopw [17] (fun iv wx => ∃ m : Nat, iv = .int .i64 m ∧ m ≤ L ∧ Wrt wx w1.heap.size na sh R avs ∧ Below w1.heap.size w1 wx) (fun iv _ => L - (intOf iv).toNat)
        case atStart => exact ⟨0, rfl, Nat.zero_le _, HWW.out, HBB.out⟩
        case round =>
          obtain ⟨m, rfl, hm, hw, hb⟩ := hrel
          obtain ⟨g, ba9, c9, rfl, hg, d3, hcell⟩ := hw.at hlt HLL.out
          have HWW2 := Lib.hid hw
          have HBB2 := Lib.hid hb
          clear hw hb
          by_cases hml : m < L
          · obtain ⟨b9, q9, u9', rfl, hR9, d4, d5⟩ := hcell m hml
            have HR9 := Lib.hid hR9
            have HD4 := Lib.hid d4
            clear hcell hR9
            go_wp2_with fail
            go_roundw
            case rel => exact ⟨m + 1, by go_num, by omega, HWW2.out.set HD4.out HR9.out _, below_at HBB2.out (HWW2.out.low _ HR9.out) _ _⟩
            case measure => simp [intOf]; omega
          · obtain rfl : m = L := by omega
            clear hcell
            go_wp2_with fail
            go_roundw
            case rel => exact ⟨j + 1, by go_num, by omega, HWW2.out, HBB2.out⟩
            case measure => simp [intOf]; omega
      · obtain rfl : j = sh.length := by omega
        have HBB := Lib.hid hb
        clear hw hb
        go_wp2_with fail
        refine (rSameNodes ts ts _ _ _ (HOV.out.stays HBB.out) (HT.out.stays (below_hop HB1.out HBB.out))).mono ?_
        rintro e w10 ⟨rfl, hb10⟩
        have HB10 := Lib.hid (below_hop (below_hop HB1.out HBB.out) hb10)
        clear hb10
        rw [decide_eq_true (rfl : ts = ts)]
        go_wp2_with fail
        refine (KN.out _).mono ?_
        rintro e w11 ⟨rfl, hb11⟩
        go_wp2_with fail
        go_ret
        exact ⟨rfl, below_hop HB10.out hb11⟩
  · have hne : (valE ts != 0) = true := by simpa using h
    have HSL : Hid (shrL ts = []) := if_neg h
    have HPE : Hid (∀ k, prtE ts k = valE ts) := fun k => if_neg h
    have HPL : Hid (∀ k, prtL ts k = []) := fun k => by unfold prtL; rw [HPE.out, if_neg h]
    have HNE := Lib.hid h
    clear h
    go_enter Try.func5, Try.ntmps5
    go_wp2_with fail
    refine (long_any ts _ _ HT.out).mono ?_
    rintro e w' ⟨rfl, rfl⟩
    rw [hl]
    go_wp2_with fail
    refine (rCopy ts _ _ HT.out (by have := HLG.out.1; omega) (fun x hx => by have := HLG.out.2 x hx; omega)).mono ?_
    rintro e w1 ⟨ov, R0, avs0, rfl, ho, hb1⟩
    have HOV := Lib.hid (ho.nds (by have := HLG.out.1; omega))
    have HB1 := Lib.hid hb1
    clear ho hb1
    obtain ⟨oa, oc, rfl, _⟩ := HOV.out.shape
    go_wp2_with fail
    refine (pShare_no ts _ _ HNE.out HI.out HOV.out).mono ?_
    rintro e w2 ⟨rfl, hb2⟩
    have HB2 := Lib.hid (below_hop HB1.out hb2)
    have HO2 := Lib.hid (HOV.out.stays hb2)
    clear hb2
    have HVL := Lib.hid (rShare ts (.slice ta ts.length tc) w2 HI.out (HT.out.stays HB2.out))
    rw [HSL.out] at HVL
    go_wp2_with fail
    refine (HVL.out).mono ?_
    rintro e w3 ⟨bv, rfl, hbv, hb3⟩
    obtain ⟨ba, bc, rfl, _⟩ := hbv.shape
    have HB3 := Lib.hid hb3
    have HBV := Lib.hid hbv
    clear hbv hb3
    go_wp2_with fail
    refine (pPart ts _ _ _ HI.out (HO2.out.stays HB3.out)).mono ?_
    rw [HPE.out, HPL.out]
    rintro e w4 ⟨cv, rfl, hcv, hb4⟩
    obtain ⟨ca, cc, rfl, _⟩ := hcv.shape
    have HB4 := Lib.hid (below_hop HB3.out hb4)
    have HCV := Lib.hid hcv
    have HBV4 := Lib.hid (HBV.out.stays hb4)
    clear hcv hb4
    go_wp2_with fail
    refine (rPart ts _ _ _ HI.out (HT.out.stays (below_hop HB2.out HB4.out))).mono ?_
    rw [HPE.out, HPL.out]
    rintro e w5 ⟨dv, rfl, hdv, hb5⟩
    obtain ⟨da, dc, rfl, _⟩ := hdv.shape
    have HB5 := Lib.hid (below_hop HB4.out hb5)
    have HDV := Lib.hid hdv
    have HCV5 := Lib.hid (HCV.out.stays hb5)
    have HBV5 := Lib.hid (HBV4.out.stays hb5)
    clear hdv hb5
    go_wp2_with fail
    refine (rSameNodes [] [] _ _ _ (Nds.nil _) HBV5.out).mono ?_
    rintro e w6 ⟨rfl, hb6⟩
    have HB6 := Lib.hid (below_hop HB5.out hb6)
    have HCV6 := Lib.hid (HCV5.out.stays hb6)
    have HDV6 := Lib.hid (HDV.out.stays hb6)
    clear hb6
    rw [decide_eq_true (rfl : ([] : List Nd) = [])]
    go_wp2_with fail
    refine (rSameNodes [] [] _ _ _ HCV6.out HDV6.out).mono ?_
    rintro e w7 ⟨rfl, hb7⟩
    have HB7 := Lib.hid (below_hop HB6.out hb7)
    clear hb7
    rw [decide_eq_true (rfl : ([] : List Nd) = [])]
    go_wp2_with fail
    refine (KN.out _).mono ?_
    rintro e w11 ⟨rfl, hb11⟩
    go_wp2_with fail
    go_ret
    exact ⟨rfl, below_hop (below_hop HB2.out HB7.out) hb11⟩
end Go.Proofs.Ythopdfikikdcbaa
