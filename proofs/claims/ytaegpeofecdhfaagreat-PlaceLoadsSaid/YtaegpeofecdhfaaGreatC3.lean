/- -/
import Derived.BigRegion
import Derived.BigQuiet
import Derived.Deep.Onto
import Derived.Deep.RegionLaw
import Derived.Deep.AppendLies
import Derived.Test.YtaegpeofecdhfaaGreatC1
import Derived.Test.YtaegpeofecdhfaaGreatC2
set_option maxHeartbeats 1000000
set_option maxRecDepth 100000
namespace Go.Proofs.YtaegpeofecdhfaaGreat
open Go.RowKit Go.Maps
set_option linter.unusedVariables false
set_option linter.unusedSimpArgs false
theorem info_u8b : (Tryz.prog.info? 5).map (fun i => (i.zero, i.size, i.bytes)) = some (some (.int .u8 0), 1, 1) := by kernel_rfl
theorem linkE_v {base : Int} {l : List Ob} (h : arrE base l ≠ 0) : linkE base l = arrE base l := if_pos h
theorem linkE_4 {base : Int} {l : List Ob} {st : Im} (h : arrE base l = 0) (hs : arrL base l = some st) (hm : missB l st.m l.length = true) : linkE base l = 4 := by
  unfold linkE
  rw [if_neg (by simpa using h), hs]
  simp only
  rw [if_pos hm]
theorem linkE_3 {base : Int} {l : List Ob} {st : Im} (h : arrE base l = 0) (hs : arrL base l = some st) (hm : missB l st.m l.length = false) (hz : 32768 < base + st.z) : linkE base l = 3 := by
  unfold linkE
  rw [if_neg (by simpa using h), hs]
  simp only
  rw [hm, if_neg (by simp), if_pos hz]
theorem linkE_0 {base : Int} {l : List Ob} {st : Im} (h : arrE base l = 0) (hs : arrL base l = some st) (hm : missB l st.m l.length = false) (hz : ¬ 32768 < base + st.z) : linkE base l = 0 := by
  unfold linkE
  rw [if_neg (by simpa using h), hs]
  simp only
  rw [hm, if_neg (by simp), if_neg hz]
theorem missB_hit {l : List Ob} {m : List (Int × Int)} {j k : Nat} (hj : j < l.length) (hk : k < (l.getD j default).t.length) (h : lookM m ((l.getD j default).t.getD k default).n = none) : missB l m l.length = true := by
  unfold missB
  refine any_take_hit hj hj ?_
  refine List.any_eq_true.2 ⟨_, mem_getD' hk, ?_⟩
  rw [h]; rfl
theorem missB_step {l : List Ob} {m : List (Int × Int)} {j : Nat} (hj : j < l.length) (h0 : missB l m j = false) (h : (l.getD j default).t.any (fun x => (lookM m x.n).isNone) = false) : missB l m (j + 1) = false := any_take_step hj h0 h
theorem want_ok {o : Ob} (h : valO o = 0) : ∀ x ∈ o.t, (0 ≤ x.a ∧ x.a ≤ o.b.length - 4) ∧ (x.k = 0 ∨ x.k = 1) ∧ (-2147483648 ≤ x.n ∧ x.n ≤ 2147483647) ∧ -2147483648 ≤ x.p ∧ x.p ≤ 2147483647 := by
  intro x hx
  by_cases g : 8192 < o.b.length ∨ 64 < o.s.length ∨ 64 < o.t.length
  · rw [valO_3 g] at h; omega
  · cases g2 : o.s.any (symX o.b.length) with
    | true => rw [valO_1s g g2] at h; omega
    | false =>
      cases g3 : wantsX nearP o.b.length o.t o.t.length with
      | true => rw [valO_1w g g2 g3] at h; omega
      | false =>
        have := wantsX_ok g3 (Nat.le_refl _) x (by rw [List.take_length]; exact hx)
        obtain ⟨h1, h2, h3, h4, h5⟩ := wantB_bd this
        exact ⟨⟨h1, h2⟩, h3, h4, h5⟩
theorem lookM_bd {m : List (Int × Int)} {n a lo hi : Int} (h : ∀ q ∈ m, lo ≤ q.2 ∧ q.2 ≤ hi) (h1 : lookM m n = some a) : lo ≤ a ∧ a ≤ hi := by
  unfold lookM at h1
  cases hf : m.find? (fun q => q.1 == n) with
  | none => rw [hf] at h1; cases h1
  | some q =>
    rw [hf] at h1
    cases h1
    exact h q (List.mem_of_find?_eq_some hf)
def LinkP (base : Int) (l : List Ob) (w : World) (e : Ending) (w' : World) : Prop :=
  ∃ v, e = .returned (.tuple #[v, .int .i64 (linkE base l)]) ∧ (linkE base l ≠ 0 → v = .slice none 0 0) ∧ (linkE base l = 0 → ∀ st, arrL base l = some st → Ints .u8 w' v (linkJ base l st l.length)) ∧ Below w.heap.size w w'
theorem LinkP.no {base : Int} {l : List Ob} {w w' : World} {n : Int} (h : linkE base l = n) (hn : n ≠ 0) (hb : Below w.heap.size w w') : LinkP base l w (.returned (.tuple #[.slice none 0 0, .int .i64 n])) w' :=
  ⟨_, by rw [h], fun _ => rfl, fun h0 => absurd (h.symm.trans h0) hn, hb⟩
theorem qlink5 {p : Prop} (h : p := by
  have hNb : -200000000000 ≤ N ∧ N ≤ 200000000000 := by omega
  clear hN hk1
  go_loopw [113] (fun i wr => ∃ c : Nat, c ≤ 4 ∧ i = .int .i64 c ∧ OInts .u8 wr D (setK out (pn + yan) N c) ∧ Below W2.heap.size W2 wr) (fun i _ => 4 - (intOf i).toNat)
  case atStart => exact ⟨0, by omega, rfl, HOq.out, HBq.out⟩
  case round =>
    obtain ⟨c5, hc5, rfl, ho5, hb5⟩ := hrel
    have HO5 := Lib.hid ho5
    have HB5 := Lib.hid hb5
    by_cases hcl : c5 < 4
    · have hlen5 : (setK out (pn + yan) N c5).length = zn := by rw [setK_length, hL1.out]
      have d1 := ho5.cell (i := pn + yan + c5) (by rw [hlen5]; omega)
      have f1 := ho5.free (i := pn + yan + c5) (by rw [hlen5]; omega)
      have HS5 : Hid (OInts .u8 (wr.setCell ⟨D, pn + yan + c5, none⟩ (.int .u8 (by4 N c5))) D (setK out (pn + yan) N (c5 + 1))) := ho5.set (i := pn + yan + c5) (by rw [hlen5]; omega) (by4 N c5)
      have hDW : W2.heap.size ≤ D := by omega
      have hi0 : (0 : Int) ≤ (pn : Int) + yan := by omega
      have hi1 : (pn : Int) + yan + 3 < (zn : Int) := by omega
      clear ho5 hb5 hlen5
      have hcc : c5 = 0 ∨ c5 = 1 ∨ c5 = 2 ∨ c5 = 3 := by omega
      generalize hgd : (setK out (pn + yan) N c5).getD (pn + yan + c5) 0 = gd at d1
      clear hgd
      rcases hcc with rfl | rfl | rfl | rfl
      · simp only [Nat.add_zero] at d1 f1 HS5
        have hv : by4 N 0 = N % 256 := by unfold by4; simp
        rw [hv] at HS5
        go_wp2_with fail
        go_roundw
        case rel => exact ⟨1, by omega, by go_num, HS5.out, below_at HB5.out hDW _ _⟩
        case measure => simp [intOf]
      · have hv : by4 N 1 = N % 4294967296 / 256 % 256 := by
          unfold by4
          rw [show (2 : Int) ^ (8 * 1) = 256 from rfl]
          omega
        rw [hv] at HS5
        go_wp2_with fail
        go_roundw
        case rel => exact ⟨2, by omega, by go_num, HS5.out, below_at HB5.out hDW _ _⟩
        case measure => simp [intOf]
      · have hv : by4 N 2 = N % 4294967296 / 65536 % 256 := by
          unfold by4
          rw [show (2 : Int) ^ (8 * 2) = 65536 from rfl]
          omega
        rw [hv] at HS5
        go_wp2_with fail
        go_roundw
        case rel => exact ⟨3, by omega, by go_num, HS5.out, below_at HB5.out hDW _ _⟩
        case measure => simp [intOf]
      · have hv : by4 N 3 = N % 4294967296 / 16777216 := by
          unfold by4
          rw [show (2 : Int) ^ (8 * 3) = 16777216 from rfl]
          omega
        rw [hv] at HS5
        go_wp2_with fail
        go_roundw
        case rel => exact ⟨4, by omega, by go_num, HS5.out, below_at HB5.out hDW _ _⟩
        case measure => simp [intOf]
    · obtain rfl : c5 = 4 := by omega
      have HF : Hid (OInts .u8 wr D (wantsL base sm pn (setL (linkJ base l ⟨sp, zn, sm⟩ j) pn oj.b) (oj.t.take (k + 1)))) := by
        show OInts .u8 wr D _
        rw [hS.out, hw.out]
        exact ho5
      clear ho5 hb5
      go_wp2_with fail
      go_roundw
      case rel => exact ⟨k + 1, by omega, by go_num, HF.out, HB5.out⟩
      case measure => simp [intOf]; omega
 ) : p := h
set_option maxHeartbeats 8000000 in
theorem pLink_any (l : List Ob) (lv : Value) (base : Int) (w : World) (h : Obs w lv l) (hwf : ∀ o ∈ l, ObF o) : Calls Tryz.prog 15 #[lv, .int .i64 base] w fun e w' => LinkP base l w e w' := by
  by_cases hE : arrE base l = 0
  rotate_left
  · have C := Lib.hid (arranged_no h hwf hE)
    have HQ := Lib.hid (linkE_v hE)
    have HN := Lib.hid hE
    have hne : (arrE base l != 0) = true := by simpa [bne] using hE
    clear h hwf hE
    generalize arrE base l = ev at *
    go_enter Tryz.func15, Tryz.ntmps15
    go_wp2_with (go_at_call 44; with_reducible refine C.out.mono ?_; rintro e w1 ⟨rfl, hb⟩; have HB := Lib.hid (hb.alloc hb.size (.cells #[.slice none 0 0, .int .i64 0, .map none] 90)); clear hb)
    refine bodyPost_ret (v := .tuple #[.slice none 0 0, .int .i64 ev]) (by simp [results, Tryz.results15, go_sem]) rfl (LinkP.no HQ.out HN.out HB.out)
  · obtain ⟨st, hst, hl4, hv, hb0, hb1, hb4⟩ := arrE_zero hE
    obtain ⟨z0, z1, hpl⟩ := arrL_bd hl4 hv hst
    have C := Lib.hid (arranged_ok h hwf hE hst)
    have HE := Lib.hid hE
    have HST := Lib.hid hst
    have HV := Lib.hid hv
    have HVS := Lib.hid (arrL_vals (base := base) (l := l) (j := l.length) (st := st) hv (Nat.le_refl _) (by rw [List.take_length]; exact hst)).2
    have HP := Lib.hid (arrL_places (base := base) (l := l) (j := l.length) (st := st) (Nat.le_refl _) (by rw [List.take_length]; exact hst)).2.2
    obtain ⟨a, c, rfl, hc1, hc2, hrow⟩ := h.shape
    have HR := Lib.hid hrow
    clear h hwf hE hst hv hrow
    obtain ⟨sp, sz, sm⟩ := st
    simp only at z0 z1 hpl
    obtain ⟨zn, rfl⟩ := Int.eq_ofNat_of_zero_le z0
    have HPL := Lib.hid hpl
    clear hpl
    go_enter Tryz.func15, Tryz.ntmps15
    go_wp2_with (go_at_call 44; with_reducible refine C.out.mono ?_; rintro e w1 ⟨va, vc, M, rfl, hi, hm, hb⟩; have HI1 := Lib.hid hi; have HM1 := Lib.hid hm; have HB1 := Lib.hid hb; clear hi hm hb)
    generalize hW2 : w1.alloc (.cells #[.slice va sp.length vc, .int .i64 zn, .map (some M)] 90) = W2 at *
    have B2 : Hid (Below w1.heap.size w1 W2) := by rw [← hW2]; exact (Below.refl _ _).alloc (Nat.le_refl _) _
    have i0 : W2.cell? ⟨w1.heap.size, 0, none⟩ = some (.slice va sp.length vc) := by rw [← hW2]; simp [go_sem]
    have i1 : W2.cell? ⟨w1.heap.size, 1, none⟩ = some (.int .i64 zn) := by rw [← hW2]; simp [go_sem]
    have i2 : W2.cell? ⟨w1.heap.size, 2, none⟩ = some (.map (some M)) := by rw [← hW2]; simp [go_sem]
    have hs2 : w1.heap.size < W2.heap.size := by rw [← hW2]; simp
    have hs1 := HB1.out.size
    have HW2 : Hid (Below w.heap.size w W2) := below_next HB1.out hs1 B2.out
    have HI2 : Hid (Ints .i64 W2 (.slice va sp.length vc) sp) := HI1.out.stays B2.out
    have HM2 : Hid (MapIs Tryz.prog 3 W2 M (symE sm)) := HM1.out.below B2.out
    have I0 := Lib.hid i0
    have I1 := Lib.hid i1
    have I2 := Lib.hid i2
    clear hW2 HI1 HM1 i0 i1 i2
    go_loopw [33] (fun i wr => ∃ j : Nat, j ≤ l.length ∧ i = .int .i64 j ∧ Hid (missB l sm j = false) ∧ Below W2.heap.size W2 wr) (fun i _ => l.length - (intOf i).toNat)
    case atStart => exact ⟨0, Nat.zero_le _, rfl, rfl, Below.refl _ _⟩
    case round =>
      obtain ⟨j, hj, rfl, hno, hb⟩ := hrel
      have HB := Lib.hid hb
      have hbs := hb.size
      by_cases hjl : j < l.length
      · obtain ⟨b, q, ea, hbl, vb, vs, vt, y0, y1, y2, hx⟩ := HR.out j hjl
        subst ea
        obtain ⟨ba, cb, rfl, _, _⟩ := hx.1.shape2
        obtain ⟨sa, cs, rfl, _⟩ := hx.2.1.shape
        obtain ⟨ta, ct, rfl, ht1, ht2, ht3⟩ := hx.2.2.shape
        have hwr : Below w.heap.size w wr := below_next HW2.out (by omega) hb
        have x0 := below_cell hwr hbl y0
        have x1 := below_cell hwr hbl y1
        have x2 := below_cell hwr hbl y2
        have HT3 := Lib.hid ht3
        have HOV := Lib.hid (HV.out _ (mem_getD' hjl))
        generalize hlo : l.getD j default = oj at *
        have HLO := Lib.hid hlo
        have hne : ¬ b = wr.heap.size := by omega
        have hnM : ¬ M = wr.heap.size := by have := HM2.out.1; omega
        obtain ⟨Wb, hWb⟩ : ∃ W, wr.alloc (.cells #[.slice ba oj.b.length cb, .slice sa oj.s.length cs, .slice ta oj.t.length ct] 26) = W := ⟨_, rfl⟩
        have BB : Hid (Below wr.heap.size wr Wb) := by rw [← hWb]; exact (Below.refl _ _).alloc (Nat.le_refl _) _
        have c2 : Wb.cell? ⟨wr.heap.size, 2, none⟩ = some (.slice ta oj.t.length ct) := by rw [← hWb]; simp [go_sem]
        have hsb : wr.heap.size < Wb.heap.size := by rw [← hWb]; simp
        have HBb : Hid (Below W2.heap.size W2 Wb) := below_next hb hbs BB.out
        clear hlo hx y0 y1 y2 ht3 hb hwr
        go_wp2_with fail
        clear x0 x1 x2 c2 hWb
        obtain ⟨wz, rfl⟩ : ∃ wz : World, wz = wr := ⟨_, rfl⟩
        go_loopw [40] (fun i wr => ∃ k : Nat, k ≤ oj.t.length ∧ i = .int .i64 k ∧ Hid ((oj.t.take k).any (fun x => (lookM sm x.n).isNone) = false) ∧ Below W2.heap.size W2 wr) (fun i _ => oj.t.length - (intOf i).toNat)
        case atStart => exact ⟨0, Nat.zero_le _, rfl, rfl, HBb.out⟩
        case round =>
          obtain ⟨k, hk, rfl, hnk, hb⟩ := hrel
          have HBk := Lib.hid hb
          have hks := hb.size
          by_cases hkl : k < oj.t.length
          · obtain ⟨b', q', ea, hbl', u0, u1, u2, u3⟩ := wRows HT3.out (below_next HW2.out (by omega) hb) k hkl
            subst ea
            have hyb := want_ok HOV.out _ (mem_getD' hkl)
            generalize hy : oj.t.getD k default = y at *
            have HY := Lib.hid hy
            clear hy
            obtain ⟨ya, yk, yn, yp⟩ := y
            simp only at u0 u1 u2 u3 hyb
            have hne3 : ¬ b' = wr.heap.size := by omega
            obtain ⟨Wc, hWc⟩ : ∃ W, wr.alloc (.cells #[.int .i64 ya, .int .i64 yk, .int .i64 yn, .int .i64 yp] 43) = W := ⟨_, rfl⟩
            have BC : Hid (Below wr.heap.size wr Wc) := by rw [← hWc]; exact (Below.refl _ _).alloc (Nat.le_refl _) _
            have v2 : Wc.cell? ⟨wr.heap.size, 2, none⟩ = some (.int .i64 yn) := by rw [← hWc]; simp [go_sem]
            have HBc : Hid (Below W2.heap.size W2 Wc) := below_next hb hks BC.out
            have m2 := below_cell HBc.out hs2 I2.out
            have hkey := key_int (n := yn) ⟨by omega, by omega⟩
            clear hb
            cases hlm : lookM sm yn with
            | none =>
              have hlk := lookup_miss map_law Tryz.underlying88 (z := .int .i64 0) (fun w => by kernel_rfl) (HM2.out.below HBc.out) hkey (symE_new (lookM_none hlm))
              have HQ := Lib.hid (linkE_4 HE.out HST.out (missB_hit (m := sm) hjl (by rw [HLO.out]; exact hkl) (by rw [HLO.out, HY.out]; exact hlm)))
              clear hlm hkey
              go_wp2_with fail
              refine bodyPost_ret (v := .tuple #[.slice none 0 0, .int .i64 4]) (by simp [results, Tryz.results15, go_sem]) rfl (LinkP.no HQ.out (by decide) (below_next HW2.out (by omega) HBc.out))
            | some av =>
              have hlk := lookup_hit map_law Tryz.underlying88 (HM2.out.below HBc.out) hkey (lookM_some hlm)
              have HN : Hid ((oj.t.take (k + 1)).any (fun x => (lookM sm x.n).isNone) = false) := any_take_step hkl hnk.out (by rw [HY.out]; simp only [hlm]; rfl)
              clear hlm hkey
              go_wp2_with fail
              go_roundw
              case rel => exact ⟨k + 1, by omega, by go_num, HN.out, HBc.out⟩
              case measure => simp [intOf]; omega
          · obtain rfl : k = oj.t.length := by omega
            have HN : Hid (missB l sm (j + 1) = false) := missB_step hjl hno.out (by rw [HLO.out]; have := hnk.out; rwa [List.take_length] at this)
            clear hb
            go_wp2_with fail
            go_roundw
            case rel => exact ⟨j + 1, by omega, by go_num, HN.out, HBk.out⟩
            case measure => simp [intOf]; omega
      · obtain rfl : j = l.length := by omega
        have HMS := Lib.hid hno.out
        have j1 := below_cell hb hs2 I1.out
        obtain ⟨wo, rfl⟩ : ∃ wo : World, wo = wr := ⟨_, rfl⟩
        have HWo : Hid (Below w.heap.size w wo) := below_next HW2.out (by omega) hb
        cases g : decide (32768 < base + (zn : Int))
        case true =>
          have HQ := Lib.hid (linkE_3 HE.out HST.out HMS.out (of_decide_eq_true g))
          clear hb
          go_wp2_with fail
          refine bodyPost_ret (v := .tuple #[.slice none 0 0, .int .i64 3]) (by simp [results, Tryz.results15, go_sem]) rfl (LinkP.no HQ.out (by decide) HWo.out)
        case false =>
          have HQ := Lib.hid (linkE_0 HE.out HST.out HMS.out (of_decide_eq_false g))
          have g' := of_decide_eq_false g
          have hzn : zn ≤ 32768 := by omega
          obtain ⟨ii0, hii0, hzz0, hzz1, hzz2⟩ := info_parts info_u8b
          clear hb
          go_wp2_with (at_make; refine wpList_make_full _ rfl _ _ 22 rfl (wo.heap.size) 5 ii0 (.int .u8 0) 1 Tryz.underlying22 hii0 hzz0 hzz1 .i64 .i64 _ _ zn rfl rfl rfl rfl ?d1 ?d2 ?d3 ?_)
          case d1 => first | omega | (rw [hzz2]; omega)
          case d2 => first | omega | exact Nat.le_refl _ | (unfold maxLen; omega)
          intro w3 hown hgr
          have hO : OInts .u8 w3 wo.heap.size (linkJ base l ⟨sp, zn, sm⟩ 0) := (OInts.made hown : OInts .u8 w3 wo.heap.size (List.replicate zn 0))
          have hb3 := below_made hgr
          have HO3 := Lib.hid hO
          have HB3 : Hid (Below W2.heap.size W2 w3) := below_next HB.out hbs hb3
          clear hown hgr hO hb3
          generalize hD : wo.heap.size = D at *
          go_wp2_with fail
          go_loopw [66] (fun i wr => ∃ j : Nat, j ≤ l.length ∧ i = .int .i64 j ∧ OInts .u8 wr D (linkJ base l ⟨sp, zn, sm⟩ j) ∧ Below W2.heap.size W2 wr) (fun i _ => l.length - (intOf i).toNat)
          case atStart => exact ⟨0, Nat.zero_le _, rfl, HO3.out, HB3.out⟩
          case round =>
            obtain ⟨j, hj, rfl, ho, hb⟩ := hrel
            have HO := Lib.hid ho
            have HB' := Lib.hid hb
            have hbs' := hb.size
            by_cases hjl' : j < l.length
            · obtain ⟨b, q, ea, hbl, vb, vs, vt, y0, y1, y2, hx⟩ := HR.out j hjl'
              subst ea
              obtain ⟨ba, cb, rfl, _, _⟩ := hx.1.shape2
              obtain ⟨sa, cs, rfl, _⟩ := hx.2.1.shape
              obtain ⟨ta, ct, rfl, ht1, ht2, ht3⟩ := hx.2.2.shape
              have hwr : Below w.heap.size w wr := below_next HW2.out (by omega) hb
              have x0 := below_cell hwr hbl y0
              have x1 := below_cell hwr hbl y1
              have x2 := below_cell hwr hbl y2
              have HT3 := Lib.hid ht3
              have HBY := Lib.hid (hx.1.stays hwr)
              have HOV := Lib.hid (HV.out _ (mem_getD' hjl'))
              have hpj := HP.out j hjl'
              generalize hlo : l.getD j default = oj at *
              have HLO := Lib.hid hlo
              obtain ⟨vap, cp, ep, hp1, _, _, hp4⟩ := HI2.out
              cases ep
              obtain ⟨bp, op, rfl, hbp, hcp0⟩ := hp4 j (by have := HPL.out; omega)
              rw [Nat.mul_one] at hcp0
              have hcp := below_cell hb hbp hcp0
              generalize hpp : sp.getD j 0 = pj at *
              obtain ⟨pn, rfl⟩ := Int.eq_ofNat_of_zero_le hpj.1
              have HPP := Lib.hid hpp
              have k0 := below_cell hb hs2 I0.out
              have hj1 : (j : Int) < (sp.length : Int) := by have := HPL.out; omega
              have hj0 : (0 : Int) ≤ (j : Int) := by omega
              have hne : ¬ b = wr.heap.size := by omega
              have hlD : D < wr.heap.size := ho.1
              have hbpw : bp < wr.heap.size := by omega
              have hpz : pn + oj.b.length ≤ zn := by omega
              obtain ⟨Wb, hWb⟩ : ∃ W, wr.alloc (.cells #[.slice ba oj.b.length cb, .slice sa oj.s.length cs, .slice ta oj.t.length ct] 26) = W := ⟨_, rfl⟩
              have BB : Hid (Below wr.heap.size wr Wb) := by rw [← hWb]; exact (Below.refl _ _).alloc (Nat.le_refl _) _
              have c0 : Wb.cell? ⟨wr.heap.size, 0, none⟩ = some (.slice ba oj.b.length cb) := by rw [← hWb]; simp [go_sem]
              have c2 : Wb.cell? ⟨wr.heap.size, 2, none⟩ = some (.slice ta oj.t.length ct) := by rw [← hWb]; simp [go_sem]
              have hsb : wr.heap.size < Wb.heap.size := by rw [← hWb]; simp
              have HOb := Lib.hid (HO.out.below BB.out)
              have HBb : Hid (Below W2.heap.size W2 Wb) := below_next hb hbs' BB.out
              have k0b := below_cell BB.out (by omega) k0
              have hcpb := below_cell BB.out hbpw hcp
              have hll := linkJ_length base l ⟨sp, zn, sm⟩ j
              have hcpy : ∀ ty, (Builtin.copy_ #[22, 22] ty #[.slice (if zn = pn then some ⟨D, 0, none⟩ else some ⟨D, pn, none⟩) (zn - pn) (zn - pn), .slice ba oj.b.length cb]).run Tryz.prog Wb.drew = .ok (goInt oj.b.length) (Wb.drew.setCells D pn (oj.b.map (Value.int .u8))) := fun ty => by
                by_cases hz : zn = pn
                · have e : oj.b = [] := List.length_eq_zero_iff.1 (by omega)
                  rw [if_pos hz, e]
                  exact run_copy_none Wb.drew 22 22 ty 5 _ _ _ _ _ _ (by kernel_rfl) (by kernel_rfl) (by simp)
                · rw [if_neg hz]
                  exact copy_in (w := Wb.drew) ((HBY.out.stays BB.out).stays (below_drewN (Below.refl _ _) 1)) (HOb.out.drewN 1) (by rw [hll]; simp; omega) (by omega)
              have hpn0 : (0 : Int) ≤ (pn : Int) := by omega
              have hpn1 : (pn : Int) ≤ (zn : Int) := by omega
              have HCP := Lib.hid hcp0
              clear hlo hx y0 y1 y2 ht3 hb ho hwr hp4 hcp0 hpp hpj hll
              go_wp2_with fail
              clear hWb x0 x1 x2
              go_region
              clear hcpy
              generalize (if zn = pn then (some ⟨D, 0, none⟩ : Option Addr) else some ⟨D, pn, none⟩) = a77
              generalize hWe : Wb.drew.setCells D pn (oj.b.map (Value.int .u8)) = We
              have hdb : Below Wb.heap.size Wb Wb.drew := below_drewN (Below.refl _ _) 1
              have hLL : Hid ((linkJ base l ⟨sp, zn, sm⟩ j).length = zn) := by
                show _ = _
                have := linkJ_length base l ⟨sp, zn, sm⟩ j
                simpa using this
              have HOe : Hid (OInts .u8 We D (setL (linkJ base l ⟨sp, zn, sm⟩ j) pn oj.b)) := by
                rw [← hWe]
                exact OInts.setCells (HOb.out.drewN 1) (by rw [hLL.out]; omega)
              have HBe : Hid (Below W2.heap.size W2 We) := by
                rw [← hWe]
                exact below_cells (by omega) _ _ _ (below_next HBb.out (by omega) hdb)
              have c2e : We.cell? ⟨wr.heap.size, 2, none⟩ = some (.slice ta oj.t.length ct) := by
                rw [← hWe, setCells_cell (by omega)]
                exact below_cell hdb (by omega) c2
              clear hWe c0 c2 k0 hcp k0b hcpb hdb
              go_wp2_with fail
              clear c2e
              obtain ⟨wz, rfl⟩ : ∃ wz : World, wz = wr := ⟨_, rfl⟩
              go_loopw [84] (fun i wr => ∃ k : Nat, k ≤ oj.t.length ∧ i = .int .i64 k ∧ OInts .u8 wr D (wantsL base sm pn (setL (linkJ base l ⟨sp, zn, sm⟩ j) pn oj.b) (oj.t.take k)) ∧ Below W2.heap.size W2 wr) (fun i _ => oj.t.length - (intOf i).toNat)
              case atStart => exact ⟨0, Nat.zero_le _, rfl, HOe.out, HBe.out⟩
              case round =>
                obtain ⟨k, hk, rfl, ho, hb⟩ := hrel
                have HOk := Lib.hid ho
                have HBk := Lib.hid hb
                have hks := hb.size
                by_cases hkl : k < oj.t.length
                · obtain ⟨b', q', ea, hbl', u0, u1, u2, u3⟩ := wRows HT3.out (below_next HW2.out (by omega) hb) k hkl
                  subst ea
                  have hyb := want_ok HOV.out _ (mem_getD' hkl)
                  obtain ⟨av, hav⟩ := missB_some HMS.out hjl' (k := k) (by rw [HLO.out]; exact hkl)
                  rw [HLO.out] at hav
                  have hstep := wantsL_step (base := base) (m := sm) (p := (pn : Int)) (out := setL (linkJ base l ⟨sp, zn, sm⟩ j) pn oj.b) hkl
                  generalize hy : oj.t.getD k default = y at *
                  clear hy
                  obtain ⟨ya, yk, yn, yp⟩ := y
                  simp only at u0 u1 u2 u3 hyb hav
                  obtain ⟨⟨ha0, ha1⟩, hk01, ⟨hn0, hn1⟩, hp0, hp1'⟩ := hyb
                  obtain ⟨yan, rfl⟩ := Int.eq_ofNat_of_zero_le ha0
                  have hvb := lookM_bd (HVS.out) hav
                  have hkey := key_int (n := yn) ⟨by omega, by omega⟩
                  have hhit := lookM_some hav
                  have hne3 : ¬ b' = wr.heap.size := by omega
                  obtain ⟨Wc, hWc⟩ : ∃ W, wr.alloc (.cells #[.int .i64 yan, .int .i64 yk, .int .i64 yn, .int .i64 yp] 43) = W := ⟨_, rfl⟩
                  have BC : Hid (Below wr.heap.size wr Wc) := by rw [← hWc]; exact (Below.refl _ _).alloc (Nat.le_refl _) _
                  have t0 : Wc.cell? ⟨wr.heap.size, 0, none⟩ = some (.int .i64 yan) := by rw [← hWc]; simp [go_sem]
                  have t1 : Wc.cell? ⟨wr.heap.size, 1, none⟩ = some (.int .i64 yk) := by rw [← hWc]; simp [go_sem]
                  have t2 : Wc.cell? ⟨wr.heap.size, 2, none⟩ = some (.int .i64 yn) := by rw [← hWc]; simp [go_sem]
                  have t3 : Wc.cell? ⟨wr.heap.size, 3, none⟩ = some (.int .i64 yp) := by rw [← hWc]; simp [go_sem]
                  have hlc : wr.heap.size < Wc.heap.size := by rw [← hWc]; simp
                  have HBc : Hid (Below W2.heap.size W2 Wc) := below_next hb hks BC.out
                  have HOc := Lib.hid (ho.below BC.out)
                  have k0c := below_cell HBc.out hs2 I0.out
                  have k2c := below_cell HBc.out hs2 I2.out
                  have hcpc := below_cell HBc.out hbp HCP.out
                  have hgI : w1.heap.size < Wc.heap.size := by omega
                  have hgP : bp < Wc.heap.size := by omega
                  have HST4 := Lib.hid hstep
                  have HAV := Lib.hid hav
                  clear hstep hav ho hb
                  go_wp2_with fail
                  clear hWc u0 u1 u2 u3
                  go_quiet (fail)
                  have hdq : Below Wc.heap.size Wc (Wc.drewN nq) := below_drewN (Below.refl _ _) nq
                  have t1q := below_cell hdq hlc t1
                  have t2q := below_cell hdq hlc t2
                  have t3q := below_cell hdq hlc t3
                  have k2q := below_cell hdq hgI k2c
                  have HOq : Hid (OInts .u8 (Wc.drewN nq) D (wantsL base sm pn (setL (linkJ base l ⟨sp, zn, sm⟩ j) pn oj.b) (oj.t.take k))) := HOc.out.drewN nq
                  have HBq : Hid (Below W2.heap.size W2 (Wc.drewN nq)) := below_next HBc.out (by omega) hdq
                  have hlk1 := lookup_hit1 map_law Tryz.underlying88 (HM2.out.below HBq.out) hkey hhit
                  have hWq : Wc.heap.size ≤ (Wc.drewN nq).heap.size := hdq.size
                  have hL1 : Hid ((wantsL base sm pn (setL (linkJ base l ⟨sp, zn, sm⟩ j) pn oj.b) (oj.t.take k)).length = zn) := by
                    show _ = _
                    rw [wantsL_length, setL_length, hLL.out]
                  generalize hout : wantsL base sm pn (setL (linkJ base l ⟨sp, zn, sm⟩ j) pn oj.b) (oj.t.take k) = out at *
                  generalize Wc.drewN nq = Wq at *
                  clear hdq t0 t1 t2 t3 k0c k2c hcpc hout hhit hkey
                  have hS : Hid (wantsL base sm pn (setL (linkJ base l ⟨sp, zn, sm⟩ j) pn oj.b) (oj.t.take (k + 1)) = setW4 out (pn + yan) (wantN base sm pn ⟨yan, yk, yn, yp⟩)) := by
                    have e := HST4.out
                    rw [show ((pn : Int) + (⟨yan, yk, yn, yp⟩ : Wn).a).toNat = pn + yan from by simp only; omega] at e
                    exact e
                  obtain ⟨wy, rfl⟩ : ∃ wy : World, wy = wr := ⟨_, rfl⟩
                  cases hk1 : (yk == 1)
                  · have hw : Hid (wantN base sm pn ⟨yan, yk, yn, yp⟩ = av + yp) := by
                      show _ = _
                      unfold wantN
                      rw [if_neg (by simpa using hk1), HAV.out]; rfl
                    go_wp2_with fail
                    generalize hN : av + yp = N at *
                    exact qlink5
                  · have hw : Hid (wantN base sm pn ⟨yan, yk, yn, yp⟩ = av + yp - (base + ((pn : Int) + yan) + 4)) := by
                      show _ = _
                      unfold wantN
                      rw [if_pos (by simpa using hk1), HAV.out]; rfl
                    go_wp2_with fail
                    generalize hN : av + yp - (base + ((pn : Int) + yan) + 4) = N at *
                    exact qlink5
                · obtain rfl : k = oj.t.length := by omega
                  have HN : Hid (OInts .u8 wr D (linkJ base l ⟨sp, zn, sm⟩ (j + 1))) := by
                    have e1 := linkJ_step base l ⟨sp, zn, sm⟩ j
                    have e2 := HPP.out
                    simp only at e1
                    rw [HLO.out, e2] at e1
                    rw [e1]
                    unfold objL
                    rw [List.take_length] at ho
                    exact ho
                  clear ho hb
                  go_wp2_with fail
                  go_roundw
                  case rel => exact ⟨j + 1, by omega, by go_num, HN.out, HBk.out⟩
                  case measure => simp [intOf]; omega
            · obtain rfl : j = l.length := by omega
              have hll := linkJ_length base l ⟨sp, zn, sm⟩ l.length
              have HI : Hid (Ints .u8 wr (.slice (some ⟨D, 0, none⟩) zn zn) (linkJ base l ⟨sp, zn, sm⟩ l.length)) := by
                have := ho.ints (by rw [hll]; simp; omega)
                rw [hll] at this
                exact this
              clear ho hb hll
              go_wp2_with fail
              refine bodyPost_ret (v := .tuple #[.slice (some ⟨D, 0, none⟩) zn zn, .int .i64 0]) (by simp [results, Tryz.results15, go_sem]) rfl ⟨_, by rw [HQ.out], fun h => absurd HQ.out h, fun _ st hst => ?_, below_next HW2.out (by omega) HB'.out⟩
              rw [HST.out] at hst
              cases hst
              exact HI.out
def zJ (l : List Ob) : Nat → Int
  | 0 => 0
  | j + 1 => nextAt (zJ l j) + ((l.getD j default).b.length : Int)
def pJ (l : List Ob) (j : Nat) : Int := nextAt (zJ l j)
theorem zJ_nn (l : List Ob) : ∀ j, 0 ≤ zJ l j
  | 0 => Int.le_refl _
  | j + 1 => by
    have := zJ_nn l j
    unfold zJ nextAt
    omega
def syJ (base : Int) (l : List Ob) : Nat → List (Int × Int)
  | 0 => []
  | j + 1 => syJ base l j ++ (l.getD j default).s.map fun s => (s.n, base + pJ l j + s.a)
def dupK (l : List Ob) (i k : Nat) : Bool := (l.getD i default).s.any fun s => (l.getD k default).s.any fun t => s.n == t.n
def dupI (l : List Ob) (i : Nat) : Bool := (List.range i).any (dupK l i)
def dupR (l : List Ob) (j : Nat) : Bool := (List.range j).any (dupI l)
def linkF (base : Int) (l : List Ob) (wanted : Bool) : Int :=
  if 4 < l.length then 3 else if firstE l ≠ 0 then firstE l else if base < 0 ∨ 32768 < base ∨ base.tmod 4 ≠ 0 then 1
  else if dupR l l.length then 7 else if wanted && missB l (syJ base l l.length) l.length then 4 else if 32768 < base + zJ l l.length then 3 else 0
theorem twice_no {s : List Sy} (h : twiceX s s.length = false) : ∀ i j, j < i → i < s.length → (s.getD i default).n ≠ (s.getD j default).n := by
  intro i j hij hi e
  have h1 := List.any_eq_false.1 h i (List.mem_range.2 hi)
  have h2 := List.any_eq_false.1 (Bool.not_eq_true _ ▸ h1 : ((s.take i).any fun u => (s.getD i default).n == u.n) = false) (s.getD j default) (by
    rw [List.getD_eq_getElem?_getD, List.getElem?_eq_getElem (by omega)]
    exact List.mem_take_iff_getElem.2 ⟨j, by omega, rfl⟩)
  rw [e] at h2
  simp at h2
theorem val_twice {o : Ob} (h : valO o = 0) : twiceX o.s o.s.length = false := by
  unfold valO valW at h
  by_cases h1 : 8192 < o.b.length ∨ 64 < o.s.length ∨ 64 < o.t.length
  · rw [if_pos h1] at h; cases h
  · rw [if_neg h1] at h
    cases h2 : o.s.any (symX o.b.length) with
    | true => rw [h2] at h; cases h
    | false =>
      rw [h2] at h
      cases h3 : wantsX nearP o.b.length o.t o.t.length with
      | true => rw [h3] at h; cases h
      | false =>
        rw [h3] at h
        cases h4 : twiceX o.s o.s.length with
        | true => rw [h4] at h; cases h
        | false => rfl
theorem addS_ok {c : Int} : ∀ {s : List Sy} {m : List (Int × Int)}, (∀ y ∈ s, m.any (fun q => q.1 == y.n) = false) → (s.Pairwise fun a b => a.n ≠ b.n) → addS c s m = some (m ++ s.map fun y => (y.n, c + y.a))
  | [], m, _, _ => by simp [addS]
  | y :: s, m, h, hp => by
    unfold addS
    rw [List.foldlM_cons, if_neg (by rw [h y (List.mem_cons_self ..)]; simp)]
    have ih := addS_ok (c := c) (s := s) (m := m ++ [(y.n, c + y.a)]) (fun x hx => by
      rw [List.any_append, h x (List.mem_cons_of_mem _ hx)]
      simpa using (List.pairwise_cons.1 hp).1 x hx) (List.pairwise_cons.1 hp).2
    show addS c s (m ++ [(y.n, c + y.a)]) = _
    rw [ih]; simp
theorem addS_bad {c : Int} : ∀ {s : List Sy} {m : List (Int × Int)}, (∃ y ∈ s, m.any (fun q => q.1 == y.n) = true) → addS c s m = none
  | [], m, h => by obtain ⟨y, hy, _⟩ := h; cases hy
  | y :: s, m, h => by
    unfold addS
    rw [List.foldlM_cons]
    by_cases e : m.any (fun q => q.1 == y.n) = true
    · rw [if_pos e]; rfl
    · rw [if_neg e]
      obtain ⟨x, hx, hx2⟩ := h
      rcases List.mem_cons.1 hx with rfl | hx
      · exact absurd hx2 e
      · exact addS_bad (c := c) (s := s) (m := m ++ [(y.n, c + y.a)]) ⟨x, hx, by rw [List.any_append, hx2]; rfl⟩
theorem names_pair {s : List Sy} (h : twiceX s s.length = false) : s.Pairwise fun a b => a.n ≠ b.n := by
  rw [List.pairwise_iff_getElem]
  intro i j hi hj hij e
  have := twice_no h j i hij hj
  rw [List.getD_eq_getElem?_getD, List.getElem?_eq_getElem hj, List.getD_eq_getElem?_getD, List.getElem?_eq_getElem hi] at this
  exact this e.symm
theorem syJ_any {base : Int} {l : List Ob} {n : Int} : ∀ {j : Nat}, (syJ base l j).any (fun q => q.1 == n) = (List.range j).any fun k => (l.getD k default).s.any fun t => n == t.n
  | 0 => rfl
  | j + 1 => by
    unfold syJ
    rw [List.any_append, syJ_any, any_range_succ]
    congr 1
    rw [List.any_map]
    congr 1
    funext t
    show (t.n == n) = (n == t.n)
    exact Bool.beq_comm
theorem dupI_iff {base : Int} {l : List Ob} {i : Nat} : dupI l i = true ↔ ∃ y ∈ (l.getD i default).s, (syJ base l i).any (fun q => q.1 == y.n) = true := by
  unfold dupI dupK
  constructor
  · intro h
    obtain ⟨k, hk, h1⟩ := List.any_eq_true.1 h
    obtain ⟨y, hy, h2⟩ := List.any_eq_true.1 h1
    exact ⟨y, hy, by rw [syJ_any]; exact List.any_eq_true.2 ⟨k, hk, h2⟩⟩
  · intro ⟨y, hy, h⟩
    rw [syJ_any] at h
    obtain ⟨k, hk, h1⟩ := List.any_eq_true.1 h
    exact List.any_eq_true.2 ⟨k, hk, List.any_eq_true.2 ⟨y, hy, h1⟩⟩
theorem arrL_is {base : Int} {l : List Ob} (hv : ∀ o ∈ l, valO o = 0) : ∀ j, j ≤ l.length → arrL base (l.take j) = if dupR l j then none else some ⟨(List.range j).map (pJ l), zJ l j, syJ base l j⟩
  | 0, _ => by simp [arrL, dupR, zJ, syJ]
  | j + 1, hj => by
    have ih := arrL_is (base := base) hv j (by omega)
    have hd : dupR l (j + 1) = (dupR l j || dupI l j) := any_range_succ j _
    cases h1 : dupR l j with
    | true =>
      rw [h1, if_pos rfl] at ih
      rw [hd, h1, Bool.true_or, if_pos rfl]
      exact arrL_none (j := j) (by rw [List.take_take, Nat.min_eq_left (by omega)]; exact ih)
    | false =>
      rw [h1, if_neg (by simp)] at ih
      rw [arrL_step (by omega) ih, hd, h1, Bool.false_or]
      unfold putO
      have hnm := names_pair (val_twice (hv _ (mem_getD' (l := l) (k := j) (by omega))))
      cases h2 : dupI l j with
      | true =>
        rw [if_pos rfl, addS_bad ((dupI_iff (base := base)).1 h2)]; rfl
      | false =>
        rw [if_neg (by simp), addS_ok (fun y hy => ?_) hnm]
        · simp only [Option.map_some, Option.some.injEq, Im.mk.injEq]
          refine ⟨?_, rfl, ?_⟩
          · rw [List.range_succ, List.map_append]; rfl
          · rfl
        · cases h3 : (syJ base l j).any (fun q => q.1 == y.n) with
          | false => rfl
          | true => rw [(dupI_iff (base := base)).2 ⟨y, hy, h3⟩] at h2; cases h2
theorem arrL_all {base : Int} {l : List Ob} (hv : ∀ o ∈ l, valO o = 0) : arrL base l = if dupR l l.length then none else some ⟨(List.range l.length).map (pJ l), zJ l l.length, syJ base l l.length⟩ := by
  have := arrL_is (base := base) hv l.length (Nat.le_refl _)
  rwa [List.take_length] at this
theorem linkF_link (base : Int) (l : List Ob) : linkF base l true = linkE base l := by
  unfold linkF linkE arrE
  by_cases h1 : 4 < l.length
  · rw [if_pos h1, if_pos h1, if_pos (by decide)]
  · rw [if_neg h1, if_neg h1]
    by_cases h2 : firstE l ≠ 0
    · rw [if_pos h2, if_pos h2, if_pos h2]
    · rw [if_neg h2, if_neg h2]
      by_cases h3 : base < 0 ∨ 32768 < base ∨ base.tmod 4 ≠ 0
      · rw [if_pos h3, if_pos h3, if_pos (by decide)]
      · rw [if_neg h3, if_neg h3, arrL_all (firstE_zero (by omega))]
        cases h4 : dupR l l.length with
        | true => simp
        | false => simp
theorem oRow {w : World} {a : Option Addr} {l : List Ob} (h : ∀ i, i < l.length → ∃ b o, a = some ⟨b, o, none⟩ ∧ b < w.heap.size ∧ ObAt w b (o + i * 3) (l.getD i default)) {j : Nat} (hj : j < l.length) :
    ∃ b q ba cb sa cs ta ct, a = some ⟨b, q, none⟩ ∧ b < w.heap.size ∧ w.cell? ⟨b, q + j * 3, none⟩ = some (.slice ba (l.getD j default).b.length cb) ∧ w.cell? ⟨b, q + j * 3 + 1, none⟩ = some (.slice sa (l.getD j default).s.length cs) ∧ w.cell? ⟨b, q + j * 3 + 2, none⟩ = some (.slice ta (l.getD j default).t.length ct) ∧
      Ints .u8 w (.slice ba (l.getD j default).b.length cb) (l.getD j default).b ∧ (∀ i, i < (l.getD j default).s.length → ∃ b o, sa = some ⟨b, o, none⟩ ∧ b < w.heap.size ∧ SyAt w b (o + i * 2) ((l.getD j default).s.getD i default)) ∧
      (∀ i, i < (l.getD j default).t.length → ∃ b o, ta = some ⟨b, o, none⟩ ∧ b < w.heap.size ∧ WnAt w b (o + i * 4) ((l.getD j default).t.getD i default)) := by
  obtain ⟨b, q, ea, hbl, vb, vs, vt, y0, y1, y2, hx⟩ := h j hj
  obtain ⟨ba, cb, rfl, _, _⟩ := hx.1.shape2
  obtain ⟨sa, cs, rfl, _, _, h3⟩ := hx.2.1.shape
  obtain ⟨ta, ct, rfl, _, _, h4⟩ := hx.2.2.shape
  exact ⟨b, q, ba, cb, sa, cs, ta, ct, ea, hbl, y0, y1, y2, hx.1, h3, h4⟩
theorem lookM_append (a b : List (Int × Int)) (n : Int) : lookM (a ++ b) n = (lookM a n).or (lookM b n) := by
  unfold lookM
  rw [List.find?_append]
  cases a.find? (fun q => q.1 == n) <;> rfl
theorem find_syms {s : List Sy} {c n : Int} : lookM (s.map fun y => (y.n, c + y.a)) n = (s.find? fun y => y.n == n).map fun y => c + y.a := by
  unfold lookM
  rw [List.find?_map, Option.map_map]
  rfl
theorem find_none {s : List Sy} {n : Int} (h : s.any (fun y => y.n == n) = false) : s.find? (fun y => y.n == n) = none := by
  rw [List.find?_eq_none]
  intro y hy
  have := List.any_eq_false.1 h y hy
  simpa using this
def LkP (base : Int) (l : List Ob) (b : Bool) (w : World) (e : Ending) (w' : World) : Prop := e = .returned (.int .i64 (linkF base l b)) ∧ Below w.heap.size w w'
theorem LkP.of {base : Int} {l : List Ob} {b : Bool} {w w' : World} {n : Int} (h : linkF base l b = n) (hb : Below w.heap.size w w') : LkP base l b w (.returned (.int .i64 n)) w' := ⟨by rw [h], hb⟩
theorem Cls.at {w : World} {b : Nat} {cs : List Value} (h : Cls w b cs) (k : Nat) (v : Value) (hk : cs[k]? = some v) : w.cell? ⟨b, k, none⟩ = some v := (h k v hk).1
def haltC : Value := .agg #[.int .i64 26, .int .i64 0, .int .i64 0, .int .i64 0, .int .u32 0, .int .i64 0]
theorem pwithin_no (lo hi : Int) (w : World) : Calls Tryz.prog 158 #[.int .i64 0, .bool false, .int .i64 lo, .int .i64 hi] w fun e w' => e = .returned (.bool true) ∧ w = w' := by
  go_enter Tryz.func158, Tryz.ntmps158
  go_wp2_with fail
  go_ret
  exact ⟨rfl, rfl⟩
theorem isLast_halt (w : World) : Calls Tryz.prog 112 #[.int .i64 26] w fun e w' => e = .returned (.bool true) ∧ w = w' := by
  go_enter Tryz.func112, Tryz.ntmps112
  go_wp2_with fail
  go_ret
  exact ⟨rfl, rfl⟩
theorem isBranch_halt (w : World) : Calls Tryz.prog 49 #[.int .i64 26] w fun e w' => e = .returned (.bool false) ∧ w = w' := by
  go_enter Tryz.func49, Tryz.ntmps49
  go_wp2_with fail
  go_ret
  exact ⟨rfl, rfl⟩
theorem regs_first (w : World) : Calls Tryz.prog 269 #[.agg #[]] w fun e w' => e = .returned (.int .i64 10) ∧ Below w.heap.size w w' := by
  have HB := Lib.hid ((Below.refl w.heap.size w).alloc (Nat.le_refl _) (.cells #[] 142))
  go_enter Tryz.func269, Tryz.ntmps269
  go_wp2_with fail
  go_ret
  exact ⟨rfl, HB.out⟩
theorem regs_second (w : World) : Calls Tryz.prog 283 #[.agg #[]] w fun e w' => e = .returned (.int .i64 4) ∧ Below w.heap.size w w' := by
  have HB := Lib.hid ((Below.refl w.heap.size w).alloc (Nat.le_refl _) (.cells #[] 143))
  go_enter Tryz.func283, Tryz.ntmps283
  go_wp2_with fail
  go_ret
  exact ⟨rfl, HB.out⟩
theorem fieldsOf_halt (w : World) : Calls Tryz.prog 157 #[.int .i64 26] w fun e w' => e = .returned (.tuple #[.agg #[.bool false, .bool false, .bool false, .bool false, .bool false, .bool false], .bool true]) ∧ Below w.heap.size w w' := by
  go_enter Tryz.func157, Tryz.ntmps157
  go_wp2_with fail
  refine bodyPost_ret (v := .tuple #[.agg #[.bool false, .bool false, .bool false, .bool false, .bool false, .bool false], .bool true]) (Cls.res2 (cs := [.bool false, .bool false, .bool false, .bool false, .bool false, .bool false]) Cls.made rfl rfl rfl Tryz.underlying215 rfl (by kernel_rfl)) rfl ⟨rfl, (Below.refl _ w).alloc (Nat.le_refl _) _⟩
set_option maxHeartbeats 2000000 in
theorem isCode_halt (w : World) : Calls Tryz.prog 111 #[haltC, .int .i64 0, .int .i64 1] w fun e w' => e = .returned (.bool true) ∧ Below w.heap.size w w' := by
  unfold haltC
  have C1 := Lib.hid fieldsOf_halt
  have C2 := Lib.hid pwithin_no
  obtain ⟨W1, hW1⟩ : ∃ W, w.alloc (.cells #[.int .i64 26, .int .i64 0, .int .i64 0, .int .i64 0, .int .u32 0, .int .i64 0] 76) = W := ⟨_, rfl⟩
  have BB : Hid (Below w.heap.size w W1) := by rw [← hW1]; exact (Below.refl _ _).alloc (Nat.le_refl _) _
  have hs : w.heap.size < W1.heap.size := by rw [← hW1]; simp
  have HC : Hid (Cls W1 w.heap.size [.int .i64 26, .int .i64 0, .int .i64 0, .int .i64 0, .int .u32 0, .int .i64 0]) := by rw [← hW1]; exact Cls.made
  have x0 := HC.out.at 0 (.int .i64 26) rfl
  go_enter Tryz.func111, Tryz.ntmps111
  go_wp2_with (first | (go_at_call 157; with_reducible refine (C1.out _).mono ?_; rintro e w2 ⟨rfl, hb2⟩; have HC2 := HC.out.below hs hb2; have x1 := HC2.at 1 (.int .i64 0) rfl; have x2 := HC2.at 2 (.int .i64 0) rfl; have x3 := HC2.at 3 (.int .i64 0) rfl; have x4 := HC2.at 4 (.int .u32 0) rfl; have x5 := HC2.at 5 (.int .i64 0) rfl; have hl2 : w.heap.size < w2.heap.size := Nat.lt_of_lt_of_le hs hb2.size; have hne : ¬ w.heap.size = w2.heap.size := (by omega); have HB2 := Lib.hid ((below_next BB.out (by omega) hb2).alloc (by omega) (.cells #[.bool false, .bool false, .bool false, .bool false, .bool false, .bool false] 215)); clear HC2 hb2 x0) | (go_at_call 158; with_reducible refine (C2.out _ _ _).mono ?_; rintro e w' ⟨rfl, rfl⟩))
  go_ret
  exact ⟨rfl, HB2.out⟩
end Go.Proofs.YtaegpeofecdhfaaGreat
namespace Go.Proofs
open Go.Shelf Go.RowKit Go.Lib
def Tryz.contC_ren : Go.Shelf.Ren := ⟨fun | 8 => 109 | 6 => 156 | n => n, fun | 22 => 74 | 23 => 76 | 25 => 176 | 4 => 4 | 3 => 3 | 0 => 0 | n => n, fun | n => n⟩
theorem Tryz.contC : Go.Proofs.SlLaysH0.n8 Tryz.prog Tryz.contC_ren := {
  mixed := by kernel_rfl
  f6 := ⟨Tryz.f156.name, by decide, Tryz.func156.trans (congrArg some (by kernel_rfl))⟩
  f8 := ⟨Tryz.f109.name, by decide, Tryz.func109.trans (congrArg some (by kernel_rfl))⟩
  t0 := Tryz.underlying0
  a0 := Tryz.isAgg0
  z0 := Tryz.sizeOf0
  v0 := Tryz.zeroValue0
  t3 := Tryz.underlying3
  a3 := Tryz.isAgg3
  z3 := Tryz.sizeOf3
  v3 := Tryz.zeroValue3
  t4 := Tryz.underlying4
  a4 := Tryz.isAgg4
  z4 := Tryz.sizeOf4
  v4 := Tryz.zeroValue4
  t22 := Tryz.underlying74
  a22 := Tryz.isAgg74
  z22 := Tryz.sizeOf74
  v22 := Tryz.zeroValue74
  t25 := Tryz.underlying176
  a25 := Tryz.isAgg176
  z25 := Tryz.sizeOf176
  v25 := Tryz.zeroValue176 }
end Go.Proofs
namespace Go.Proofs.YtaegpeofecdhfaaGreat
open Go.RowKit Go.Maps
set_option linter.unusedVariables false
set_option linter.unusedSimpArgs false
def haltL : List Value := [.int .i64 26, .int .i64 0, .int .i64 0, .int .i64 0, .int .u32 0, .int .i64 0]
structure HaltAt (w : World) (b1 b0 : Nat) : Prop where
  s : w.cell? ⟨b1, 0, none⟩ = some (.slice (some ⟨b0, 0, none⟩) 1 1)
  o : w.cell? ⟨b0, 0, none⟩ = some (.int .i64 26)
  d : w.cell? ⟨b0, 1, none⟩ = some (.int .i64 0)
  a : w.cell? ⟨b0, 2, none⟩ = some (.int .i64 0)
  b : w.cell? ⟨b0, 3, none⟩ = some (.int .i64 0)
  i : w.cell? ⟨b0, 4, none⟩ = some (.int .u32 0)
  t : w.cell? ⟨b0, 5, none⟩ = some (.int .i64 0)
theorem HaltAt.below {w w' : World} {b1 b0 : Nat} (h : HaltAt w b1 b0) (hb : Below w.heap.size w w') : HaltAt w' b1 b0 := by
  have h1 := cell_lt h.s
  have h0 := cell_lt h.o
  exact ⟨below_cell hb h1 h.s, below_cell hb h0 h.o, below_cell hb h0 h.d, below_cell hb h0 h.a, below_cell hb h0 h.b, below_cell hb h0 h.i, below_cell hb h0 h.t⟩
theorem HaltAt.lt1 {w : World} {b1 b0 : Nat} (h : HaltAt w b1 b0) : b1 < w.heap.size := cell_lt h.s
theorem HaltAt.lt0 {w : World} {b1 b0 : Nat} (h : HaltAt w b1 b0) : b0 < w.heap.size := cell_lt h.o
theorem pv1_halt (B b1 : Nat) (w : World) (p0 : w.cell? ⟨B, 0, none⟩ = some (.int .i64 0)) (p1 : w.cell? ⟨B, 1, none⟩ = some (.slice (some ⟨b1, 0, none⟩) 1 1)) :
    Calls Tryz.prog 110 #[haltC, .pointer (some ⟨B, 0, none⟩)] w fun e w' => e = .returned (.bool false) ∧ Below w.heap.size w w' := by
  unfold haltC
  have C := Lib.hid isCode_halt
  unfold haltC at C
  have hl := cell_lt p0
  have hne : ¬ B = w.heap.size := by omega
  have HB := Lib.hid ((Below.refl w.heap.size w).alloc (Nat.le_refl _) (.cells #[.int .i64 26, .int .i64 0, .int .i64 0, .int .i64 0, .int .u32 0, .int .i64 0] 76))
  go_enter Tryz.func110, Tryz.ntmps110
  go_wp2_with (go_at_call 111; with_reducible refine (C.out _).mono ?_; rintro e w2 ⟨rfl, hb2⟩)
  go_ret
  exact ⟨rfl, below_next HB.out (by simp) hb2⟩
theorem egv1 : ∀ args w, (callFunc 110 args).run Tryz.prog w = .ok (.enter 110 args) w := enters_of Tryz.func110 (by kernel_rfl) rfl
theorem contC_halt (B b1 b0 : Nat) (w : World) (h : HaltAt w b1 b0) (p0 : w.cell? ⟨B, 0, none⟩ = some (.int .i64 0)) (p1 : w.cell? ⟨B, 1, none⟩ = some (.slice (some ⟨b1, 0, none⟩) 1 1)) :
    Calls Tryz.prog 109 #[.slice (some ⟨b0, 0, none⟩) 1 1, .func (.func 110) #[] #[.pointer (some ⟨B, 0, none⟩)]] w fun e w' => e = .returned (.bool false) ∧ Below w.heap.size w w' := by
  have hl := cell_lt p0
  refine (AnyQ.slices_ContainsFunc Tryz.contC (α := Unit) 6 Tryz.isAgg76 Tryz.sizeOf76 (fun _ => haltL) (fun _ => rfl) (fun _ => false) 110 #[.pointer (some ⟨B, 0, none⟩)] egv1 b0 0 1 1 [()] w (fun W x hb => ?_) (by simp) (by decide) h.lt0 (fun j hj i v hi => ?_)).mono fun e w' ⟨he, hb⟩ => ⟨he, hb⟩
  · exact (pv1_halt B b1 W (below_cell hb hl p0) (below_cell hb hl p1)).mono fun e w' ⟨he, h'⟩ => ⟨he, hb.trans (h'.mono hb.size)⟩
  · obtain rfl : j = 0 := by simp at hj; omega
    match i, hi with
    | 0, hi => simp [haltL] at hi; rw [← hi]; exact h.o
    | 1, hi => simp [haltL] at hi; rw [← hi]; exact h.d
    | 2, hi => simp [haltL] at hi; rw [← hi]; exact h.a
    | 3, hi => simp [haltL] at hi; rw [← hi]; exact h.b
    | 4, hi => simp [haltL] at hi; rw [← hi]; exact h.i
    | 5, hi => simp [haltL] at hi; rw [← hi]; exact h.t
    | i + 6, hi => simp [haltL] at hi
theorem psize_halt (b1 b0 : Nat) (w : World) (h : HaltAt w b1 b0) : Calls Tryz.prog 108 #[.agg #[.int .i64 0, .slice (some ⟨b1, 0, none⟩) 1 1]] w fun e w' => e = .returned (.int .i64 1) ∧ Below w.heap.size w w' := by
  have HB := Lib.hid ((Below.refl w.heap.size w).alloc (Nat.le_refl _) (.cells #[.int .i64 0, .slice (some ⟨b1, 0, none⟩) 1 1] 46))
  have h1 := h.lt1
  have hne : ¬ b1 = w.heap.size := by omega
  have s := h.s
  clear h
  go_enter Tryz.func108, Tryz.ntmps108
  go_wp2_with fail
  go_loopw [3, 9] (fun s i wr => ∃ j : Nat, j ≤ 1 ∧ s = .int .i64 j ∧ i = .int .i64 j ∧ wr = w.alloc (.cells #[.int .i64 0, .slice (some ⟨b1, 0, none⟩) 1 1] 46)) (fun _ i _ => 1 - (intOf i).toNat)
  case atStart => exact ⟨0, by omega, rfl, rfl, rfl⟩
  case round =>
    obtain ⟨j, hj, rfl, rfl, rfl⟩ := hrel
    rcases (show j = 0 ∨ j = 1 by omega) with rfl | rfl
    · go_wp2_with fail
      go_roundw
      case rel => exact ⟨1, by omega, by simp⟩
      case measure => simp [intOf]
    · go_wp2_with fail
      go_ret
      exact ⟨rfl, HB.out⟩
set_option maxHeartbeats 2000000 in
theorem pValidate_halt (b1 b0 : Nat) (w : World) (h : HaltAt w b1 b0) : Calls Tryz.prog 84 #[.agg #[.int .i64 0, .slice (some ⟨b1, 0, none⟩) 1 1]] w fun e w' => e = .returned (.int .i64 0) ∧ Below w.heap.size w w' := by
  obtain ⟨W1, hW1⟩ : ∃ W, w.alloc (.cells #[.int .i64 0, .slice (some ⟨b1, 0, none⟩) 1 1] 46) = W := ⟨_, rfl⟩
  have BB : Hid (Below w.heap.size w W1) := by rw [← hW1]; exact (Below.refl _ _).alloc (Nat.le_refl _) _
  have hs : w.heap.size < W1.heap.size := by rw [← hW1]; simp
  have p0 : W1.cell? ⟨w.heap.size, 0, none⟩ = some (.int .i64 0) := by rw [← hW1]; simp [go_sem]
  have p1 : W1.cell? ⟨w.heap.size, 1, none⟩ = some (.slice (some ⟨b1, 0, none⟩) 1 1) := by rw [← hW1]; simp [go_sem]
  have H1 : Hid (HaltAt W1 b1 b0) := h.below BB.out
  have P1 := Lib.hid p1
  have P0 := Lib.hid p0
  have C1 := Lib.hid (psize_halt b1 b0 W1 H1.out)
  have C2 := Lib.hid isLast_halt
  clear h
  go_enter Tryz.func84, Tryz.ntmps84
  go_wp2_with (go_at_call 108; with_reducible refine C1.out.mono ?_; rintro e w2 ⟨rfl, hb2⟩; have p1b := below_cell hb2 hs P1.out; have HB2 := Lib.hid hb2; clear hb2 p0 p1)
  go_loopw [36] (fun i wr => ∃ j : Int, (j = 0 ∨ j = 1) ∧ i = .int .i64 j ∧ Below W1.heap.size W1 wr) (fun i _ => 1 - (intOf i).toNat)
  case atStart => exact ⟨0, .inl rfl, rfl, HB2.out⟩
  case round =>
    obtain ⟨j, hj, rfl, hb⟩ := hrel
    have HB := Lib.hid hb
    have hbs := hb.size
    have q1 := below_cell hb hs P1.out
    have q0 := below_cell hb hs P0.out
    have HH := Lib.hid (H1.out.below hb)
    have s1 := HH.out.s
    rcases (show j = 0 ∨ j = 1 by omega) with rfl | rfl
    · have C3 := Lib.hid (contC_halt w.heap.size b1 b0 wr HH.out q0 q1)
      clear hb q0 q1
      go_wp2_with (go_at_call 109; with_reducible refine C3.out.mono ?_; rintro e w3 ⟨rfl, hb3⟩)
      go_roundw
      case rel => exact ⟨1, .inr rfl, rfl, below_next HB.out hbs hb3⟩
      case measure => simp [intOf]
    · clear hb
      obtain ⟨wo, rfl⟩ : ∃ wo : World, wo = wr := ⟨_, rfl⟩
      have o1 := HH.out.o
      go_wp2_with fail
      go_loopw [6, 7, 47, 53] (fun _ _ i _ wr => ∃ j : Int, (j = 0 ∨ j = 1) ∧ i = .int .i64 j ∧ Below wo.heap.size wo wr) (fun _ _ i _ _ => 1 - (intOf i).toNat)
      case atStart => exact ⟨0, .inl rfl, rfl, Below.refl _ _⟩
      case round =>
        obtain ⟨j, hj, rfl, hb⟩ := hrel
        have HB' := Lib.hid hb
        have hbs' := hb.size
        have HHr := Lib.hid (HH.out.below hb)
        have s1 := HHr.out.s
        rcases (show j = 0 ∨ j = 1 by omega) with rfl | rfl
        · clear hb
          go_wp2_with fail
          obtain ⟨wz, rfl⟩ : ∃ wz : World, wz = wr := ⟨_, rfl⟩
          go_loopw [7, 53] (fun _ i wr => ∃ j : Int, (j = 0 ∨ j = 1) ∧ i = .int .i64 j ∧ Below wz.heap.size wz wr) (fun _ i _ => 1 - (intOf i).toNat)
          case atStart => exact ⟨0, .inl rfl, rfl, Below.refl _ _⟩
          case round =>
            obtain ⟨j, hj, rfl, hb⟩ := hrel
            have HBk := Lib.hid hb
            have o2 := (HHr.out.below hb).o
            rcases (show j = 0 ∨ j = 1 by omega) with rfl | rfl
            · clear hb
              go_wp2_with (go_at_call 112; with_reducible refine (C2.out _).mono ?_; rintro e w' ⟨rfl, rfl⟩)
              go_roundw
              case rel => exact ⟨1, .inr rfl, rfl, HBk.out⟩
              case measure => simp [intOf]
            · clear hb
              go_wp2_with fail
              go_roundw
              case rel => exact ⟨1, .inr rfl, rfl, below_next HB'.out hbs' HBk.out⟩
              case measure => simp [intOf]
        · clear hb
          go_wp2_with fail
          go_ret
          exact ⟨rfl, below_next (below_next BB.out (by omega) HB.out) (by omega) HB'.out⟩
theorem meth_regs0 (n : Nat) (w : World) : Sem.run Tryz.prog (Go.method (n + 1) 142 (.agg #[]) ("backstay".push (Char.ofNat 47) ++ "place.registers")) w = .ok (269, .agg #[]) w := by kernel_rfl
theorem meth_regs1 (n : Nat) (w : World) : Sem.run Tryz.prog (Go.method (n + 1) 143 (.agg #[]) ("backstay".push (Char.ofNat 47) ++ "place.registers")) w = .ok (283, .agg #[]) w := by kernel_rfl
set_option maxHeartbeats 2000000 in
theorem asked_0 (b1 b0 : Nat) (w : World) (h : HaltAt w b1 b0) : Calls Tryz.prog 69 #[.int .i64 0, .agg #[.int .i64 0, .slice (some ⟨b1, 0, none⟩) 1 1]] w fun e w' => e = .returned (.tuple #[.iface 142 (.agg #[]), .int .i64 0]) ∧ Below w.heap.size w w' := by
  obtain ⟨W1, hW1⟩ : ∃ W, w.alloc (.cells #[.int .i64 0, .slice (some ⟨b1, 0, none⟩) 1 1] 46) = W := ⟨_, rfl⟩
  have BB : Hid (Below w.heap.size w W1) := by rw [← hW1]; exact (Below.refl _ _).alloc (Nat.le_refl _) _
  have hs : w.heap.size < W1.heap.size := by rw [← hW1]; simp
  have p0 : W1.cell? ⟨w.heap.size, 0, none⟩ = some (.int .i64 0) := by rw [← hW1]; simp [go_sem]
  have p1 : W1.cell? ⟨w.heap.size, 1, none⟩ = some (.slice (some ⟨b1, 0, none⟩) 1 1) := by rw [← hW1]; simp [go_sem]
  have P0 := Lib.hid p0
  have C1 := Lib.hid (pValidate_halt b1 b0 W1 (h.below BB.out))
  have C2 := Lib.hid regs_first
  clear h
  go_enter Tryz.func69, Tryz.ntmps69
  go_wp2_with (go_at_call 84; with_reducible refine C1.out.mono ?_; rintro e w2 ⟨rfl, hb2⟩; have p0b := below_cell hb2 hs P0.out; have HB2 := Lib.hid hb2; clear hb2 p0 p1)
  have hl2 : w.heap.size < w2.heap.size := cell_lt p0b
  generalize hW3 : w2.alloc (.cells #[.iface 142 (.agg #[]), .iface 143 (.agg #[])] 103) = W3
  have B3 : Hid (Below w2.heap.size w2 W3) := by rw [← hW3]; exact (Below.refl _ _).alloc (Nat.le_refl _) _
  have HW3 : Hid (Below w.heap.size w W3) := below_next (below_next BB.out (by omega) HB2.out) (by omega) B3.out
  have p03 := below_cell B3.out hl2 p0b
  have r0 : ∀ wk, Since W3 wk → wk.cell? ⟨w.heap.size, 0, none⟩ = some (.int .i64 0) := fun wk h => h.cell p03
  have h00 := Since.refl W3
  have hl3 : w.heap.size < W3.heap.size := cell_lt p03
  clear hW3 p0b p03
  have hm := meth_regs0 386
  simp only [String.reducePush, String.reduceAppend, Nat.reduceAdd] at hm
  go_region_held3 (fun wk => Since W3 wk) (first | assumption | exact Since.drew (by assumption)) ((go_at_call 269; with_reducible refine (C2.out _).mono ?_; rintro e w1 ⟨rfl, hb1⟩; have hs1 := Since.next (by assumption) hb1))
  all_goals go_wp2_with fail
  all_goals refine bodyPost_ret (v := .tuple #[.iface 142 (.agg #[]), .int .i64 0]) (by simp [results, Tryz.results69, go_sem]) rfl ⟨rfl, ?_⟩
  all_goals exact below_next HW3.out (by omega) (by assumption)
set_option maxHeartbeats 2000000 in
theorem asked_1 (b1 b0 : Nat) (w : World) (h : HaltAt w b1 b0) : Calls Tryz.prog 69 #[.int .i64 1, .agg #[.int .i64 0, .slice (some ⟨b1, 0, none⟩) 1 1]] w fun e w' => e = .returned (.tuple #[.iface 143 (.agg #[]), .int .i64 0]) ∧ Below w.heap.size w w' := by
  obtain ⟨W1, hW1⟩ : ∃ W, w.alloc (.cells #[.int .i64 0, .slice (some ⟨b1, 0, none⟩) 1 1] 46) = W := ⟨_, rfl⟩
  have BB : Hid (Below w.heap.size w W1) := by rw [← hW1]; exact (Below.refl _ _).alloc (Nat.le_refl _) _
  have hs : w.heap.size < W1.heap.size := by rw [← hW1]; simp
  have p0 : W1.cell? ⟨w.heap.size, 0, none⟩ = some (.int .i64 0) := by rw [← hW1]; simp [go_sem]
  have p1 : W1.cell? ⟨w.heap.size, 1, none⟩ = some (.slice (some ⟨b1, 0, none⟩) 1 1) := by rw [← hW1]; simp [go_sem]
  have P0 := Lib.hid p0
  have C1 := Lib.hid (pValidate_halt b1 b0 W1 (h.below BB.out))
  have C2 := Lib.hid regs_second
  clear h
  go_enter Tryz.func69, Tryz.ntmps69
  go_wp2_with (go_at_call 84; with_reducible refine C1.out.mono ?_; rintro e w2 ⟨rfl, hb2⟩; have p0b := below_cell hb2 hs P0.out; have HB2 := Lib.hid hb2; clear hb2 p0 p1)
  have hl2 : w.heap.size < w2.heap.size := cell_lt p0b
  generalize hW3 : w2.alloc (.cells #[.iface 142 (.agg #[]), .iface 143 (.agg #[])] 103) = W3
  have B3 : Hid (Below w2.heap.size w2 W3) := by rw [← hW3]; exact (Below.refl _ _).alloc (Nat.le_refl _) _
  have HW3 : Hid (Below w.heap.size w W3) := below_next (below_next BB.out (by omega) HB2.out) (by omega) B3.out
  have p03 := below_cell B3.out hl2 p0b
  have r0 : ∀ wk, Since W3 wk → wk.cell? ⟨w.heap.size, 0, none⟩ = some (.int .i64 0) := fun wk h => h.cell p03
  have h00 := Since.refl W3
  have hl3 : w.heap.size < W3.heap.size := cell_lt p03
  clear hW3 p0b p03
  have hm := meth_regs1 386
  simp only [String.reducePush, String.reduceAppend, Nat.reduceAdd] at hm
  go_region_held3 (fun wk => Since W3 wk) (first | assumption | exact Since.drew (by assumption)) ((go_at_call 283; with_reducible refine (C2.out _).mono ?_; rintro e w1 ⟨rfl, hb1⟩; have hs1 := Since.next (by assumption) hb1))
  all_goals go_wp2_with fail
  all_goals refine bodyPost_ret (v := .tuple #[.iface 143 (.agg #[]), .int .i64 0]) (by simp [results, Tryz.results69, go_sem]) rfl ⟨rfl, ?_⟩
  all_goals exact below_next HW3.out (by omega) (by assumption)
theorem Cls.res1 {P : Program} {fn : Func} {p : Tmp} {ty : TypeId} {tmps : Array Value} {w : World} {b : Nat} {cs : List Value} {d : TypeDesc} (h : Cls w b cs) (hf : fn.results = #[.cell p ty]) (hp : tmps.getD p undef = .pointer (some ⟨b, 0, none⟩)) (hu : P.underlying ty = some d) (hd : d.isRow = true) (hi : (P.info? ty).map (·.size) = some cs.length) :
    (results fn tmps).run P w = .ok (.agg cs.toArray) w := by
  have hr : w.rangeAt b 0 cs := fun j v hj => by rw [Nat.zero_add]; exact (h j v hj).1
  have hp' : tmps[p]?.getD undef = .pointer (some ⟨b, 0, none⟩) := by simpa using hp
  simp [results, hf, hp', asAddr, run_loadVar_mid w b 0 ty cs d hr hu hd hi]
theorem formOf_40 (w : World) : Calls Tryz.prog 99 #[.int .i64 40] w fun e w' => e = .returned (.int .i64 9) ∧ w = w' := by
  go_enter Tryz.func99, Tryz.ntmps99
  go_wp2_with fail
  go_ret
  exact ⟨rfl, rfl⟩
theorem fits_9 (w : World) : Calls Tryz.prog 279 #[.int .i64 9, .int .i64 0] w fun e w' => e = .returned (.bool true) ∧ w = w' := by
  go_enter Tryz.func279, Tryz.ntmps279
  go_wp2_with fail
  go_ret
  exact ⟨rfl, rfl⟩
theorem code_9 (w : World) : Calls Tryz.prog 129 #[.int .i64 9] w fun e w' => e = .returned (.int .u32 115) ∧ w = w' := by
  go_enter Tryz.func129, Tryz.ntmps129
  go_wp2_with fail
  go_ret
  exact ⟨rfl, rfl⟩
theorem third_40 (w : World) : Calls Tryz.prog 130 #[.int .i64 40] w fun e w' => e = .returned (.int .u32 0) ∧ w = w' := by
  go_enter Tryz.func130, Tryz.ntmps130
  go_wp2_with fail
  go_ret
  exact ⟨rfl, rfl⟩
theorem has_9 (w : World) : Calls Tryz.prog 134 #[.int .i64 9] w fun e w' => e = .returned (.agg #[.bool false, .bool false, .bool false, .bool false]) ∧ Below w.heap.size w w' := by
  go_enter Tryz.func134, Tryz.ntmps134
  go_wp2_with fail
  refine bodyPost_ret (v := .agg #[.bool false, .bool false, .bool false, .bool false]) (Cls.res1 (cs := [.bool false, .bool false, .bool false, .bool false]) Cls.made rfl rfl Tryz.underlying199 rfl (by kernel_rfl)) rfl ⟨rfl, (Below.refl _ w).alloc (Nat.le_refl _) _⟩
set_option maxHeartbeats 2000000 in
theorem rvValidate_40 (w : World) : Calls Tryz.prog 278 #[.agg #[.int .i64 40, .int .i64 0, .int .i64 0, .int .i64 0, .int .i64 0]] w fun e w' => e = .returned (.int .i64 0) ∧ Below w.heap.size w w' := by
  have C1 := Lib.hid formOf_40
  have C2 := Lib.hid has_9
  have C3 := Lib.hid fits_9
  obtain ⟨W1, hW1⟩ : ∃ W, w.alloc (.cells #[.int .i64 40, .int .i64 0, .int .i64 0, .int .i64 0, .int .i64 0] 149) = W := ⟨_, rfl⟩
  have BB : Hid (Below w.heap.size w W1) := by rw [← hW1]; exact (Below.refl _ _).alloc (Nat.le_refl _) _
  have hs : w.heap.size < W1.heap.size := by rw [← hW1]; simp
  have HC : Hid (Cls W1 w.heap.size [.int .i64 40, .int .i64 0, .int .i64 0, .int .i64 0, .int .i64 0]) := by rw [← hW1]; exact Cls.made
  have x0 := HC.out.at 0 (.int .i64 40) rfl
  go_enter Tryz.func278, Tryz.ntmps278
  go_wp2_with (first | (go_at_call 99; with_reducible refine (C1.out _).mono ?_; rintro e w' ⟨rfl, rfl⟩) | (go_at_call 134; with_reducible refine (C2.out _).mono ?_; rintro e w2 ⟨rfl, hb2⟩; have HC2 := HC.out.below hs hb2; have x1 := HC2.at 1 (.int .i64 0) rfl; have x2 := HC2.at 2 (.int .i64 0) rfl; have x3 := HC2.at 3 (.int .i64 0) rfl; have x4 := HC2.at 4 (.int .i64 0) rfl; have hl2 : w.heap.size < w2.heap.size := Nat.lt_of_lt_of_le hs hb2.size; have hne : ¬ w.heap.size = w2.heap.size := (by omega); have HB2 := Lib.hid (below_next BB.out (by omega) hb2); clear HC2 hb2 x0))
  generalize hW4 : (w2.alloc (.cells #[.bool false, .bool false, .bool false, .bool false] 199)).alloc (.cells #[.int .i64 0, .int .i64 0, .int .i64 0] 3) = W4
  have hB4 : Below w2.heap.size w2 W4 := by rw [← hW4]; exact ((Below.refl _ _).alloc (Nat.le_refl _) _).alloc (by simp) _
  have HW4 : Hid (Below w.heap.size w W4) := below_next HB2.out (by omega) hB4
  have y4 := below_cell hB4 hl2 x4
  have h0 : W4.cell? ⟨w2.heap.size, 0, none⟩ = some (.bool false) := by rw [← hW4]; simp [go_sem]
  have h1 : W4.cell? ⟨w2.heap.size, 1, none⟩ = some (.bool false) := by rw [← hW4]; simp [go_sem]
  have h2 : W4.cell? ⟨w2.heap.size, 2, none⟩ = some (.bool false) := by rw [← hW4]; simp [go_sem]
  have i0 : W4.cell? ⟨w2.heap.size + 1, 0, none⟩ = some (.int .i64 0) := by rw [← hW4]; simp [go_sem]
  have i1 : W4.cell? ⟨w2.heap.size + 1, 1, none⟩ = some (.int .i64 0) := by rw [← hW4]; simp [go_sem]
  have i2 : W4.cell? ⟨w2.heap.size + 1, 2, none⟩ = some (.int .i64 0) := by rw [← hW4]; simp [go_sem]
  clear hW4 hB4 x1 x2 x3 x4
  go_loopw [5, 6, 20] (fun _ _ i wr => ∃ j : Int, (j = 0 ∨ j = 1 ∨ j = 2 ∨ j = 3) ∧ i = .int .i64 j ∧ W4 = wr) (fun _ _ i _ => 3 - (intOf i).toNat)
  case atStart => exact ⟨0, .inl rfl, rfl, rfl⟩
  case round =>
    obtain ⟨j, hj, rfl, rfl⟩ := hrel
    rcases hj with rfl | rfl | rfl | rfl
    · go_wp2_with fail
      go_roundw
      case rel => exact ⟨1, by simp, rfl, trivial⟩
      case measure => simp [intOf]
    · go_wp2_with fail
      go_roundw
      case rel => exact ⟨2, by simp, rfl, trivial⟩
      case measure => simp [intOf]
    · go_wp2_with fail
      go_roundw
      case rel => exact ⟨3, by simp, rfl, trivial⟩
      case measure => simp [intOf]
    · go_wp2_with (go_at_call 279; with_reducible refine (C3.out _).mono ?_; rintro e w' ⟨rfl, rfl⟩)
      go_ret
      exact ⟨rfl, HW4.out⟩
set_option maxHeartbeats 2000000 in
theorem rvencode_40 (w : World) : Calls Tryz.prog 137 #[.agg #[.int .i64 40, .int .i64 0, .int .i64 0, .int .i64 0, .int .i64 0]] w fun e w' => e = .returned (.int .u32 1048691) ∧ Below w.heap.size w w' := by
  have C1 := Lib.hid formOf_40
  have C2 := Lib.hid code_9
  have C3 := Lib.hid third_40
  obtain ⟨W1, hW1⟩ : ∃ W, w.alloc (.cells #[.int .i64 40, .int .i64 0, .int .i64 0, .int .i64 0, .int .i64 0] 149) = W := ⟨_, rfl⟩
  have BB : Hid (Below w.heap.size w W1) := by rw [← hW1]; exact (Below.refl _ _).alloc (Nat.le_refl _) _
  have hs : w.heap.size < W1.heap.size := by rw [← hW1]; simp
  have HC : Hid (Cls W1 w.heap.size [.int .i64 40, .int .i64 0, .int .i64 0, .int .i64 0, .int .i64 0]) := by rw [← hW1]; exact Cls.made
  have x0 := HC.out.at 0 (.int .i64 40) rfl
  have x1 := HC.out.at 1 (.int .i64 0) rfl
  have x2 := HC.out.at 2 (.int .i64 0) rfl
  have x3 := HC.out.at 3 (.int .i64 0) rfl
  have x4 := HC.out.at 4 (.int .i64 0) rfl
  go_enter Tryz.func137, Tryz.ntmps137
  go_wp2_with (go_at_call 99; with_reducible refine (C1.out _).mono ?_; rintro e w' ⟨rfl, rfl⟩)
  clear hW1
  go_quiet (first | (go_at_call 129; with_reducible exact quiet_same (C2.out _)) | (go_at_call 130; with_reducible exact quiet_same (C3.out _)))
  go_wp2_with fail
  go_ret
  exact ⟨rfl, below_drewN BB.out _⟩
theorem rvEncode_40 (w : World) : Calls Tryz.prog 277 #[.agg #[.int .i64 40, .int .i64 0, .int .i64 0, .int .i64 0, .int .i64 0]] w fun e w' => e = .returned (.tuple #[.int .u32 1048691, .int .i64 0]) ∧ Below w.heap.size w w' := by
  have C1 := Lib.hid rvValidate_40
  have C2 := Lib.hid rvencode_40
  obtain ⟨W1, hW1⟩ : ∃ W, w.alloc (.cells #[.int .i64 40, .int .i64 0, .int .i64 0, .int .i64 0, .int .i64 0] 149) = W := ⟨_, rfl⟩
  have BB : Hid (Below w.heap.size w W1) := by rw [← hW1]; exact (Below.refl _ _).alloc (Nat.le_refl _) _
  have hs : w.heap.size < W1.heap.size := by rw [← hW1]; simp
  have HC : Hid (Cls W1 w.heap.size [.int .i64 40, .int .i64 0, .int .i64 0, .int .i64 0, .int .i64 0]) := by rw [← hW1]; exact Cls.made
  have x0 := HC.out.at 0 (.int .i64 40) rfl
  have x1 := HC.out.at 1 (.int .i64 0) rfl
  have x2 := HC.out.at 2 (.int .i64 0) rfl
  have x3 := HC.out.at 3 (.int .i64 0) rfl
  have x4 := HC.out.at 4 (.int .i64 0) rfl
  go_enter Tryz.func277, Tryz.ntmps277
  go_wp2_with (first | (go_at_call 278; with_reducible refine (C1.out _).mono ?_; rintro e w2 ⟨rfl, hb2⟩; have HC2 := HC.out.below hs hb2; have y0 := HC2.at 0 (.int .i64 40) rfl; have y1 := HC2.at 1 (.int .i64 0) rfl; have y2 := HC2.at 2 (.int .i64 0) rfl; have y3 := HC2.at 3 (.int .i64 0) rfl; have y4 := HC2.at 4 (.int .i64 0) rfl; have HB2 := Lib.hid (below_next BB.out (by omega) hb2); have hw2 := HB2.out.size; clear HC2 hb2 x0 x1 x2 x3 x4) | (go_at_call 137; with_reducible refine (C2.out _).mono ?_; rintro e w3 ⟨rfl, hb3⟩))
  refine bodyPost_ret (v := .tuple #[.int .u32 1048691, .int .i64 0]) (by simp [results, Tryz.results277, go_sem]) rfl ⟨rfl, below_next HB2.out hw2 hb3⟩
theorem app_bytes {w : World} {ops : Array Oper} {rest : List Oper} {o : Oper} {a : Act} {Q : Exit → Act → World → Prop} (hgd : o.guard = none) (s x : Operand)
    (ho : o.op = .call { callee := .builtin .append, args := #[s, x], argTypes := #[22, 22] }) (base : Nat) (v : Value) (xs : List Int) (hs : a.eval s = v) (hown : RowI w base 5 .u8 v xs)
    (g m c : Nat) (ys : List Int) (hm : ys.length = m) (hx : a.eval x = .slice (some ⟨g, 0, none⟩) m c) (hy : ∀ j, j < m → w.cell? ⟨g, j, none⟩ = some (.int .u8 (ys.getD j 0))) (hl : xs.length + m ≤ 100000) (hbase : base ≤ w.heap.size)
    (h : ∀ v' w', RowI w' base 5 .u8 v' (xs ++ ys) → Below base w w' → w.grownBy w' v.ownBlock → wpList Tryz.prog ops Q rest (a.put o.dst v') w') : wpList Tryz.prog ops Q (o :: rest) a w := by
  obtain ⟨i0, hi0, hz0, hz1, hz2⟩ := info_parts info_u8b
  refine wpList_append_own (P := Tryz.prog) w hgd s x _ ho base 5 i0 (.int .u8 0) 1 1 Tryz.underlying22 hi0 hz0 hz1 hz2 rfl (by decide) v xs.length _ hs hown ⟨g, 0, none⟩ m c (ys.map (Value.int .u8)) hx (by simp [hm]) (fun j u hj => ?_) (fun u hu => ?_) ?_ ?_ hbase ?_
  · have hjl : j < ys.length := by
      rcases Nat.lt_or_ge j ys.length with h | h
      · exact h
      · rw [List.getElem?_eq_none (by simpa using h)] at hj; cases hj
    rw [List.getElem?_map, List.getElem?_eq_getElem hjl] at hj
    cases hj
    rw [addr_none, Nat.zero_add, hy j (by omega), List.getD_eq_getElem?_getD, List.getElem?_eq_getElem hjl]; rfl
  · obtain ⟨y, _, rfl⟩ := List.mem_map.1 hu
    rfl
  · unfold maxLen; omega
  · omega
  · intro v' w' hown' hg _
    exact h v' w' (RowI.app hown' (by rw [hm]) rfl) ((Below.refl _ _).grown hg hbase (own_ge hown)) hg
theorem RowI.base {w : World} {base base' : Nat} {e : TypeId} {k : IntKind} {v : Value} {xs : List Int} (h : RowI w base e k v xs) (hb : base' ≤ base) : RowI w base' e k v xs := World.ownsRow.mono h hb
def Rv40 (w : World) (g : Nat) : Prop := Cls w g [.int .i64 40, .int .i64 0, .int .i64 0, .int .i64 0, .int .i64 0]
set_option maxHeartbeats 2000000 in
theorem rvBytes_40 (g : Nat) (w : World) (h : Rv40 w g) : Calls Tryz.prog 275 #[.slice (some ⟨g, 0, none⟩) 1 1] w fun e w' => ∃ v, e = .returned (.tuple #[v, .int .i64 0]) ∧ RowI w' w.heap.size 5 .u8 v [115, 0, 16, 0] ∧ Below w.heap.size w w' := by
  have C1 := Lib.hid rvEncode_40
  have hg : g < w.heap.size := h.lt (by decide)
  have x0 := h.at 0 (.int .i64 40) rfl
  have x1 := h.at 1 (.int .i64 0) rfl
  have x2 := h.at 2 (.int .i64 0) rfl
  have x3 := h.at 3 (.int .i64 0) rfl
  have x4 := h.at 4 (.int .i64 0) rfl
  have hne : ¬ g = w.heap.size := by omega
  have BB := Lib.hid ((Below.refl w.heap.size w).alloc (Nat.le_refl _) (.cells #[.int .i64 40, .int .i64 0, .int .i64 0, .int .i64 0, .int .i64 0] 149))
  go_enter Tryz.func275, Tryz.ntmps275
  go_wp2_with fail
  go_loopw [4, 11] (fun v i wr => ((i = .int .i64 0 ∧ v = .slice none 0 0 ∧ w = wr) ∨ (i = .int .i64 1 ∧ RowI wr w.heap.size 5 .u8 v [115, 0, 16, 0] ∧ Below w.heap.size w wr))) (fun _ i _ => 1 - (intOf i).toNat)
  case atStart => exact .inl ⟨rfl, rfl, rfl⟩
  case round =>
    rcases hrel with ⟨rfl, rfl, rfl⟩ | ⟨rfl, hr, hb⟩
    · go_wp2_with (first | (go_at_call 277; with_reducible refine (C1.out _).mono ?_; rintro e w2 ⟨rfl, hb2⟩; have HB2 := Lib.hid (below_next BB.out (by simp) hb2); have hw2 := HB2.out.size; clear hb2) | (at_builtin; refine app_bytes rfl _ _ rfl w.heap.size _ [] rfl (RowI.nil _ _ _ _) w2.heap.size 4 4 [115, 0, 16, 0] rfl rfl (fun j hj => ?_) (by simp) (by simp; omega) (fun v' w4 hr4 hb4 hg4 => ?_)))
      · rcases (show j = 0 ∨ j = 1 ∨ j = 2 ∨ j = 3 by omega) with rfl | rfl | rfl | rfl <;> simp [go_sem]
      · exact ⟨.inr ⟨rfl, hr4, (HB2.out.alloc hw2 _).trans hb4⟩, by simp [intOf]⟩
    · go_wp2_with fail
      refine bodyPost_ret (v := .tuple #[_, .int .i64 0]) (by simp [results, Tryz.results275, go_sem]) rfl ⟨_, rfl, hr, hb⟩
set_option maxHeartbeats 2000000 in
theorem bytesOf_40 (g : Nat) (w : World) (h : Rv40 w g) : Calls Tryz.prog 271 #[.agg #[], .slice (some ⟨g, 0, none⟩) 1 1] w fun e w' => ∃ v, e = .returned v ∧ RowI w' w.heap.size 5 .u8 v [115, 0, 16, 0] ∧ Below w.heap.size w w' := by
  have hg : g < w.heap.size := h.lt (by decide)
  have B1 := Lib.hid ((Below.refl w.heap.size w).alloc (Nat.le_refl _) (.cells #[] 142))
  have C1 := Lib.hid (rvBytes_40 g (w.alloc (.cells #[] 142)) (h.below hg B1.out))
  go_enter Tryz.func271, Tryz.ntmps271
  go_wp2_with (go_at_call 275; with_reducible refine C1.out.mono ?_; rintro e w2 ⟨v, rfl, hr, hb⟩)
  go_ret
  exact ⟨_, rfl, hr.base (by simp), below_next B1.out (by simp) hb⟩
theorem reg_0 (w : World) : Calls Tryz.prog 272 #[.agg #[], .int .i64 0] w fun e w' => e = .returned (.int .i64 5) ∧ Below w.heap.size w w' := by
  have B1 := Lib.hid ((Below.refl w.heap.size w).alloc (Nat.le_refl _) (.cells #[] 142))
  go_enter Tryz.func272, Tryz.ntmps272
  go_wp2_with fail
  go_ret
  exact ⟨rfl, B1.out⟩
set_option maxHeartbeats 4000000 in
theorem plain_0 (w : World) : Calls Tryz.prog 267 #[.agg #[], haltC] w fun e w' => ∃ v, e = .returned v ∧ RowI w' w.heap.size 5 .u8 v [115, 0, 16, 0] ∧ Below w.heap.size w w' := by
  unfold haltC
  have C1 := Lib.hid reg_0
  obtain ⟨W1, hW1⟩ : ∃ W, (w.alloc (.cells #[] 142)).alloc (.cells #[.int .i64 26, .int .i64 0, .int .i64 0, .int .i64 0, .int .u32 0, .int .i64 0] 76) = W := ⟨_, rfl⟩
  have BB : Hid (Below w.heap.size w W1) := by rw [← hW1]; exact ((Below.refl _ _).alloc (Nat.le_refl _) _).alloc (by simp) _
  have e1 : W1.heap.size = w.heap.size + 2 := by rw [← hW1]; simp
  have q0 : W1.cell? ⟨w.heap.size + 1, 0, none⟩ = some (.int .i64 26) := by rw [← hW1]; simp [go_sem]
  have q1 : W1.cell? ⟨w.heap.size + 1, 1, none⟩ = some (.int .i64 0) := by rw [← hW1]; simp [go_sem]
  have q2 : W1.cell? ⟨w.heap.size + 1, 2, none⟩ = some (.int .i64 0) := by rw [← hW1]; simp [go_sem]
  have q3 : W1.cell? ⟨w.heap.size + 1, 3, none⟩ = some (.int .i64 0) := by rw [← hW1]; simp [go_sem]
  have r1 : ∀ wk, Since W1 wk → wk.cell? ⟨w.heap.size + 1, 1, none⟩ = some (.int .i64 0) := fun wk h => h.cell q1
  have r2 : ∀ wk, Since W1 wk → wk.cell? ⟨w.heap.size + 1, 2, none⟩ = some (.int .i64 0) := fun wk h => h.cell q2
  have r3 : ∀ wk, Since W1 wk → wk.cell? ⟨w.heap.size + 1, 3, none⟩ = some (.int .i64 0) := fun wk h => h.cell q3
  have R0 : Hid (∀ wk, Since W1 wk → wk.cell? ⟨w.heap.size + 1, 0, none⟩ = some (.int .i64 26)) := fun wk h => h.cell q0
  have h00 := Since.refl W1
  go_enter Tryz.func267, Tryz.ntmps267
  go_wp2_with fail
  clear hW1 q0 q1 q2 q3
  have E1 := Lib.hid e1
  clear e1
  go_region_held3 (fun wk => Since W1 wk) (first | assumption | exact Since.drew (by assumption)) ((go_at_call 272; with_reducible refine (C1.out _).mono ?_; rintro e w1 ⟨rfl, hb1⟩; have hs1 := Since.next (by assumption) hb1))
  all_goals
    have hS : Since W1 w1 := by assumption
    have q0 := R0.out _ hS
    have hsz := hS.size
    have hE := E1.out
    have hlt : w.heap.size + 1 < w1.heap.size := by omega
    have C3 := Lib.hid (bytesOf_40 w1.heap.size (w1.alloc (.cells #[.int .i64 40, .int .i64 0, .int .i64 0, .int .i64 0, .int .i64 0] 149)) Cls.made)
    have B3 : Hid (Below w.heap.size w (w1.alloc (.cells #[.int .i64 40, .int .i64 0, .int .i64 0, .int .i64 0, .int .i64 0] 149))) := (below_next BB.out (by omega) hS).alloc (by omega) _
    clear hE hS r1 r2 r3 h00 hsz
    go_wp2_with (go_at_call 271; with_reducible refine C3.out.mono ?_; rintro e w3 ⟨v, rfl, hr3, hb3⟩)
    go_ret
    exact ⟨_, rfl, hr3.base (by simp; omega), below_next B3.out (by simp; omega) hb3⟩
theorem meth_plain0 (n : Nat) (w : World) : Sem.run Tryz.prog (Go.method (n + 1) 142 (.agg #[]) ("backstay".push (Char.ofNat 47) ++ "place.plain")) w = .ok (267, .agg #[]) w := by kernel_rfl
theorem meth_plain1 (n : Nat) (w : World) : Sem.run Tryz.prog (Go.method (n + 1) 143 (.agg #[]) ("backstay".push (Char.ofNat 47) ++ "place.plain")) w = .ok (281, .agg #[]) w := by kernel_rfl
structure LayAt (T : TypeId) (L b cb s g : Nat) (bv : Value) (s0 s1 : Int) (w : World) : Prop where
  hl : Cls w L [.iface T (.agg #[]), .slice (some ⟨b, 0, none⟩) 1 cb, bv, .slice (some ⟨s, 0, none⟩) 2 2, .slice (some ⟨g, 0, none⟩) 1 1]
  hc : ∀ k v, haltL[k]? = some v → w.cell? ⟨b, k, none⟩ = some v
  hs : Cls w s [.int .i64 s0, .int .i64 s1]
  hg : w.cell? ⟨g, 0, none⟩ = some (.bool false)
  hn : L < s ∧ b < s ∧ s ≠ g
theorem LayAt.below {T : TypeId} {L b cb s g : Nat} {bv : Value} {s0 s1 : Int} {w w' : World} (h : LayAt T L b cb s g bv s0 s1 w) (hb : Below w.heap.size w w') : LayAt T L b cb s g bv s0 s1 w' :=
  ⟨h.hl.below (h.hl.lt (by simp)) hb, fun k v hv => below_cell hb (cell_lt (h.hc k v hv)) (h.hc k v hv), h.hs.below (h.hs.lt (by simp)) hb, below_cell hb (cell_lt h.hg) h.hg, h.hn⟩
theorem LayAt.set0 {T : TypeId} {L b cb s g : Nat} {bv : Value} {s0 s1 : Int} {w : World} (h : LayAt T L b cb s g bv s0 s1 w) (n : Int) : LayAt T L b cb s g bv n s1 (w.setCell ⟨s, 0, none⟩ (.int .i64 n)) := by
  obtain ⟨h1, h2, h3⟩ := h.hn
  refine ⟨h.hl.other (by omega) _, fun k v hv => ?_, h.hs.set (k := 0) (by simp) _, ?_, h.hn⟩
  · rw [World.cell?_setCell_other _ _ _ _ (by intro hh; cases hh; omega)]; exact h.hc k v hv
  · rw [World.cell?_setCell_other _ _ _ _ (by intro hh; cases hh; omega)]; exact h.hg
theorem LayAt.set1 {T : TypeId} {L b cb s g : Nat} {bv : Value} {s0 s1 : Int} {w : World} (h : LayAt T L b cb s g bv s0 s1 w) (n : Int) : LayAt T L b cb s g bv s0 n (w.setCell ⟨s, 1, none⟩ (.int .i64 n)) := by
  obtain ⟨h1, h2, h3⟩ := h.hn
  refine ⟨h.hl.other (by omega) _, fun k v hv => ?_, h.hs.set (k := 1) (by simp) _, ?_, h.hn⟩
  · rw [World.cell?_setCell_other _ _ _ _ (by intro hh; cases hh; omega)]; exact h.hc k v hv
  · rw [World.cell?_setCell_other _ _ _ _ (by intro hh; cases hh)]; exact h.hg
theorem Cls.at' {w : World} {b : Nat} {cs : List Value} (h : Cls w b cs) (k : Nat) (v : Value) (hk : cs[k]? = some v) : w.frozen? ⟨b, k, none⟩ = false := (h k v hk).2
set_option maxHeartbeats 4000000 in
theorem lay_0 (L b cb s g : Nat) (bv : Value) (w : World) (h : LayAt 142 L b cb s g bv 0 0 w) : Calls Tryz.prog 70 #[.pointer (some ⟨L, 0, none⟩)] w fun e w' => e = .returned (.tuple #[]) ∧ LayAt 142 L b cb s g bv 0 4 w' ∧ Below s w w' := by
  have C1 := Lib.hid isBranch_halt
  have C2 := Lib.hid plain_0
  unfold haltC at C2
  have H := Lib.hid h
  have l1 := h.hl.at 1 (.slice (some ⟨b, 0, none⟩) 1 cb) rfl
  have c0 := h.hc 0 (.int .i64 26) rfl
  have c1 := h.hc 1 (.int .i64 0) rfl
  have c2 := h.hc 2 (.int .i64 0) rfl
  have c3 := h.hc 3 (.int .i64 0) rfl
  have c4 := h.hc 4 (.int .u32 0) rfl
  have c5 := h.hc 5 (.int .i64 0) rfl
  have hL := h.hl.lt (by simp)
  have hb := cell_lt c0
  have hsl := h.hs.lt (by simp)
  obtain ⟨n1, n2, n3⟩ := h.hn
  have hm := meth_plain0 386
  simp only [String.reducePush, String.reduceAppend, Nat.reduceAdd] at hm
  clear h
  go_enter Tryz.func70, Tryz.ntmps70
  go_wp2_with fail
  go_loopw [2, 3, 10] (fun at' _ i wr => (i = .int .i64 0 ∧ at' = .int .i64 0 ∧ w = wr) ∨ (i = .int .i64 1 ∧ at' = .int .i64 4 ∧ LayAt 142 L b cb s g bv 0 0 wr ∧ Below s w wr)) (fun _ _ i _ => 1 - (intOf i).toNat)
  case atStart => exact .inl ⟨rfl, rfl, rfl⟩
  case round =>
    rcases hrel with ⟨rfl, rfl, rfl⟩ | ⟨rfl, rfl, hl4, hb4⟩
    · have hne1 : ¬ b = w.heap.size := by omega
      go_upto_region 4 with fail
      generalize hW1 : w.alloc (.cells #[.int .i64 26, .int .i64 0, .int .i64 0, .int .i64 0, .int .u32 0, .int .i64 0] 76) = W1
      have BB : Hid (Below w.heap.size w W1) := by rw [← hW1]; exact (Below.refl _ _).alloc (Nat.le_refl _) _
      have hsz : W1.heap.size = w.heap.size + 1 := by rw [← hW1]; simp
      have HB : Hid (Cls W1 w.heap.size [.int .i64 26, .int .i64 0, .int .i64 0, .int .i64 0, .int .u32 0, .int .i64 0]) := by rw [← hW1]; exact Cls.made
      have H1 : Hid (LayAt 142 L b cb s g bv 0 0 W1) := H.out.below BB.out
      have d3 := H1.out.hl.at 3 (.slice (some ⟨s, 0, none⟩) 2 2) rfl
      have e0 := H1.out.hs.at 0 (.int .i64 0) rfl
      have f0 := H1.out.hs.at' 0 (.int .i64 0) rfl
      have x0 := HB.out.at 0 (.int .i64 26) rfl
      have hne2 : ¬ s = w.heap.size := by omega
      have H2 : Hid (LayAt 142 L b cb s g bv 0 0 (W1.setCell ⟨s, 0, none⟩ (.int .i64 0))) := H1.out.set0 0
      have HB2 : Hid (Cls (W1.setCell ⟨s, 0, none⟩ (.int .i64 0)) w.heap.size [.int .i64 26, .int .i64 0, .int .i64 0, .int .i64 0, .int .u32 0, .int .i64 0]) := HB.out.other (by omega) _
      have B2 : Hid (Below s w (W1.setCell ⟨s, 0, none⟩ (.int .i64 0))) := below_at (BB.out.mono (by omega)) (Nat.le_refl _) _ _
      have hsz2 : (W1.setCell ⟨s, 0, none⟩ (.int .i64 0)).heap.size = w.heap.size + 1 := by simp [hsz]
      have HSZ := Lib.hid hsz2
      clear hsz2 hsz
      go_wp2_with (go_at_call 49; with_reducible refine (C1.out _).mono ?_; rintro e w' ⟨rfl, rfl⟩)
      generalize W1.setCell ⟨s, 0, none⟩ (.int .i64 0) = W2 at *
      have t0 := H2.out.hl.at 0 (.iface 142 (.agg #[])) rfl
      have r0 : ∀ wk, Since W2 wk → wk.cell? ⟨L, 0, none⟩ = some (.iface 142 (.agg #[])) := fun wk h => h.cell t0
      have y0 := HB2.out.at 0 (.int .i64 26) rfl
      have y1 := HB2.out.at 1 (.int .i64 0) rfl
      have y2 := HB2.out.at 2 (.int .i64 0) rfl
      have y3 := HB2.out.at 3 (.int .i64 0) rfl
      have y4 := HB2.out.at 4 (.int .u32 0) rfl
      have y5 := HB2.out.at 5 (.int .i64 0) rfl
      have k0 : ∀ wk, Since W2 wk → wk.cell? ⟨w.heap.size, 0, none⟩ = some (.int .i64 26) := fun wk h => h.cell y0
      have k1 : ∀ wk, Since W2 wk → wk.cell? ⟨w.heap.size, 1, none⟩ = some (.int .i64 0) := fun wk h => h.cell y1
      have k2 : ∀ wk, Since W2 wk → wk.cell? ⟨w.heap.size, 2, none⟩ = some (.int .i64 0) := fun wk h => h.cell y2
      have k3 : ∀ wk, Since W2 wk → wk.cell? ⟨w.heap.size, 3, none⟩ = some (.int .i64 0) := fun wk h => h.cell y3
      have k4 : ∀ wk, Since W2 wk → wk.cell? ⟨w.heap.size, 4, none⟩ = some (.int .u32 0) := fun wk h => h.cell y4
      have k5 : ∀ wk, Since W2 wk → wk.cell? ⟨w.heap.size, 5, none⟩ = some (.int .i64 0) := fun wk h => h.cell y5
      have h00 := Since.refl W2
      have hlt := cell_lt y0
      clear t0 y0 y1 y2 y3 y4 y5 hW1 x0 d3 e0 f0 l1 c0 c1 c2 c3 c4 c5
      go_region_held3 (fun wk => Since W2 wk) (first | assumption | exact Since.drew (by assumption)) ((go_at_call 267; with_reducible refine (C2.out _).mono ?_; rintro e w3 ⟨v, rfl, hr3, hb3⟩; obtain ⟨va, vc, rfl⟩ := hr3.shape; have hs1 := Since.next (by assumption) hb3))
      all_goals
        have hS : Since W2 w3 := by assumption
        have hA : Hid (LayAt 142 L b cb s g bv 0 0 w3) := H2.out.below hS
        have hsl2 := H2.out.hs.lt (by simp)
        have hBf : Hid (Below s w w3) := below_next B2.out (by omega) hS
        clear hS
        rw [show IntKind.i64.wrap 4 = 4 from rfl]
        go_wp2_with fail
        go_roundw
        case rel => exact .inr ⟨rfl, rfl, hA.out, hBf.out⟩
        case measure => simp [intOf]
    · have H4 := Lib.hid hl4
      have HB4 := Lib.hid hb4
      have d1 := hl4.hl.at 1 (.slice (some ⟨b, 0, none⟩) 1 cb) rfl
      have d3 := hl4.hl.at 3 (.slice (some ⟨s, 0, none⟩) 2 2) rfl
      have e1 := hl4.hs.at 1 (.int .i64 0) rfl
      have f1 := hl4.hs.at' 1 (.int .i64 0) rfl
      clear hl4 hb4
      go_wp2_with fail
      go_region
      refine bodyPost_end (v := .tuple #[]) (by simp [results, Tryz.results70, go_sem]) rfl ⟨rfl, (H4.out.below (below_drewN (Below.refl _ _) 1)).set1 4, below_at (HB4.out.trans (below_drewN (Below.refl _ _) 1)) (Nat.le_refl _) _ _⟩
theorem info_code : (Tryz.prog.info? 76).map (fun i => (i.zero, i.size, i.bytes)) = some (some (.agg #[.int .i64 0, .int .i64 0, .int .i64 0, .int .i64 0, .int .u32 0, .int .i64 0]), 6, 48) := by kernel_rfl
theorem HaltAt.cells {w : World} {b1 b0 : Nat} (h : HaltAt w b1 b0) : ∀ j u, haltL[j]? = some u → w.cell? ((⟨b0, 0, none⟩ : Addr).add j) = some u := fun j u hj => by
  rw [addr_none, Nat.zero_add]
  match j, hj with
  | 0, hj => simp [haltL] at hj; rw [← hj]; exact h.o
  | 1, hj => simp [haltL] at hj; rw [← hj]; exact h.d
  | 2, hj => simp [haltL] at hj; rw [← hj]; exact h.a
  | 3, hj => simp [haltL] at hj; rw [← hj]; exact h.b
  | 4, hj => simp [haltL] at hj; rw [← hj]; exact h.i
  | 5, hj => simp [haltL] at hj; rw [← hj]; exact h.t
  | j + 6, hj => simp [haltL] at hj
theorem LayAt.made {T : TypeId} {L b cb : Nat} {bv : Value} {w W W' : World} {s g : Nat} (hL : Cls w L [.iface T (.agg #[]), .slice (some ⟨b, 0, none⟩) 1 cb, bv, .slice none 0 0, .slice none 0 0]) (hc : ∀ k v, haltL[k]? = some v → w.cell? ⟨b, k, none⟩ = some v) (hlb : L < b) (hs : w.heap.size ≤ s) (hg : w.heap.size ≤ g) (hsg : s ≠ g)
    (hW : W = (w.setCell ⟨L, 3, none⟩ (.slice (some ⟨s, 0, none⟩) 2 2)).setCell ⟨L, 4, none⟩ (.slice (some ⟨g, 0, none⟩) 1 1)) (hb : Below W.heap.size W W') (h1 : Cls W' s [.int .i64 0, .int .i64 0]) (h2 : W'.cell? ⟨g, 0, none⟩ = some (.bool false)) : LayAt T L b cb s g bv 0 0 W' := by
  have hbl := cell_lt (hc 0 _ rfl)
  have hz : W.heap.size = w.heap.size := by rw [hW]; simp
  have hLW : Cls W L [.iface T (.agg #[]), .slice (some ⟨b, 0, none⟩) 1 cb, bv, .slice (some ⟨s, 0, none⟩) 2 2, .slice (some ⟨g, 0, none⟩) 1 1] := by rw [hW]; exact (hL.set (k := 3) (by simp) _).set (k := 4) (by simp) _
  refine ⟨hLW.below (by omega) hb, fun k v hv => ?_, h1, h2, by omega, by omega, hsg⟩
  have hv0 := hc k v hv
  refine below_cell hb (by omega) ?_
  rw [hW, World.cell?_setCell_other _ _ _ _ (by intro hh; cases hh; omega), World.cell?_setCell_other _ _ _ _ (by intro hh; cases hh; omega)]
  exact hv0
theorem qtail0 {p : Prop} (h : p := by
  have C2 := Lib.hid (fun w' h => lay_0 w2.heap.size b cb sx gx bv w' h)
  clear l1 l3 g3 l4 g4 hm1 hm2
  go_wp2_with fail
  have hsw : w.heap.size ≤ sx := by have := HB2.out.size; omega
  clear hsx hgx
  go_loopw [11, 12, 13, 84] (fun ag _ _ _ wr => (ag = .bool true ∧ LayAt 142 w2.heap.size b cb sx gx bv 0 0 wr ∧ Below w.heap.size w wr) ∨ (ag = .bool false ∧ LayAt 142 w2.heap.size b cb sx gx bv 0 4 wr ∧ Below w.heap.size w wr)) (fun ag _ _ _ _ => match ag with | .bool true => 1 | _ => 0)
  case atStart => exact .inl ⟨rfl, HLay.out, HBz.out⟩
  case round =>
    rcases hrel with ⟨rfl, hA, hBq⟩ | ⟨rfl, hA, hBq⟩
    · have C3 := Lib.hid (C2.out _ hA)
      have HBq := Lib.hid hBq
      clear hA hBq
      go_wp2_with (go_at_call 70; with_reducible refine C3.out.mono ?_; rintro e w5 ⟨rfl, hA5, hb5⟩; have l15 := hA5.hl.at 1 (.slice (some ⟨b, 0, none⟩) 1 cb) rfl; have HA5 := Lib.hid hA5; have HB5 := Lib.hid (HBq.out.trans (hb5.mono hsw)); clear hA5 hb5)
      obtain ⟨wo, rfl⟩ : ∃ wo : World, wo = wr := ⟨_, rfl⟩
      have hBl := cell_lt l15
      have C1q := Lib.hid isBranch_halt
      go_loopw [11, 12, 13, 84] (fun ag _ _ i wr => (ag = .bool false ∧ i = .int .i64 0 ∧ w5 = wr) ∨ (ag = .bool false ∧ i = .int .i64 1 ∧ Below w5.heap.size w5 wr)) (fun _ _ _ i _ => 1 - (intOf i).toNat)
      case atStart => exact .inl ⟨rfl, rfl, rfl⟩
      case round =>
        rcases hrel with ⟨rfl, rfl, rfl⟩ | ⟨rfl, rfl, hb⟩
        · have c0 := HA5.out.hc 0 (.int .i64 26) rfl
          have c1 := HA5.out.hc 1 (.int .i64 0) rfl
          have c2 := HA5.out.hc 2 (.int .i64 0) rfl
          have c3 := HA5.out.hc 3 (.int .i64 0) rfl
          have c4 := HA5.out.hc 4 (.int .u32 0) rfl
          have c5 := HA5.out.hc 5 (.int .i64 0) rfl
          have hblt := cell_lt c0
          have hne : ¬ b = w5.heap.size := by omega
          go_upto_region 19 with fail
          generalize hW6 : w5.alloc (.cells #[.int .i64 26, .int .i64 0, .int .i64 0, .int .i64 0, .int .u32 0, .int .i64 0] 76) = W6
          have BB6 : Hid (Below w5.heap.size w5 W6) := by rw [← hW6]; exact (Below.refl _ _).alloc (Nat.le_refl _) _
          have k0 : W6.cell? ⟨w5.heap.size, 0, none⟩ = some (.int .i64 26) := by rw [← hW6]; simp [go_sem]
          clear hW6 c0 c1 c2 c3 c4 c5 l15
          go_quiet ((go_at_call 49; with_reducible exact quiet_same (C1q.out _)))
          go_wp2_with fail
          go_roundw
          case rel => exact .inr ⟨rfl, rfl, below_drewN BB6.out _⟩
          case measure => simp [intOf]
        · have HbN := Lib.hid hb
          clear hb
          go_wp2_with fail
          go_roundw
          case rel => exact .inr ⟨rfl, HA5.out.below HbN.out, HB5.out.trans (HbN.out.mono (by have := HB5.out.size; omega))⟩
          case measure => exact Nat.zero_lt_one
    · have HA := Lib.hid hA
      have HBq := Lib.hid hBq
      clear hA hBq
      go_wp2_with fail
      refine bodyPost_ret (v := .tuple #[.pointer (some ⟨w2.heap.size, 0, none⟩), .int .i64 0]) (by simp [results, Tryz.results48, go_sem]) rfl ⟨w2.heap.size, b, cb, sx, gx, bv, rfl, HA.out, HBq.out⟩
 ) : p := h
set_option maxHeartbeats 4000000 in
theorem layoutOf_0 (b1 b0 : Nat) (w : World) (h : HaltAt w b1 b0) : Calls Tryz.prog 48 #[.int .i64 0, .agg #[.int .i64 0, .slice (some ⟨b1, 0, none⟩) 1 1]] w fun e w' => ∃ L b cb s g bv, e = .returned (.tuple #[.pointer (some ⟨L, 0, none⟩), .int .i64 0]) ∧ LayAt 142 L b cb s g bv 0 4 w' ∧ Below w.heap.size w w' := by
  obtain ⟨W1, hW1⟩ : ∃ W, w.alloc (.cells #[.int .i64 0, .slice (some ⟨b1, 0, none⟩) 1 1] 46) = W := ⟨_, rfl⟩
  have BB : Hid (Below w.heap.size w W1) := by rw [← hW1]; exact (Below.refl _ _).alloc (Nat.le_refl _) _
  have hs : w.heap.size < W1.heap.size := by rw [← hW1]; simp
  have p0 : W1.cell? ⟨w.heap.size, 0, none⟩ = some (.int .i64 0) := by rw [← hW1]; simp [go_sem]
  have p1 : W1.cell? ⟨w.heap.size, 1, none⟩ = some (.slice (some ⟨b1, 0, none⟩) 1 1) := by rw [← hW1]; simp [go_sem]
  have P1 := Lib.hid p1
  have H1 : Hid (HaltAt W1 b1 b0) := h.below BB.out
  have C1 := Lib.hid (asked_0 b1 b0 W1 H1.out)
  clear h
  go_enter Tryz.func48, Tryz.ntmps48
  go_wp2_with (go_at_call 69; with_reducible refine C1.out.mono ?_; rintro e w2 ⟨rfl, hb2⟩; have p1b := below_cell hb2 hs P1.out; have hl2 := cell_lt p1b; have hne2 : ¬ w.heap.size = w2.heap.size := (by omega); have HB2 := Lib.hid hb2; clear hb2 p0 p1)
  generalize hW3 : w2.alloc (.cells #[.iface 142 (.agg #[]), .slice none 0 0, .slice none 0 0, .slice none 0 0, .slice none 0 0] 106) = W3
  have B3 : Hid (Below w2.heap.size w2 W3) := by rw [← hW3]; exact (Below.refl _ _).alloc (Nat.le_refl _) _
  have hs3 : W3.heap.size = w2.heap.size + 1 := by rw [← hW3]; simp
  have HL : Hid (Cls W3 w2.heap.size [.iface 142 (.agg #[]), .slice none 0 0, .slice none 0 0, .slice none 0 0, .slice none 0 0]) := by rw [← hW3]; exact Cls.made
  have H3 : Hid (HaltAt W3 b1 b0) := (H1.out.below HB2.out).below B3.out
  have p13 := below_cell B3.out hl2 p1b
  have P13 := Lib.hid p13
  clear hW3 p1b
  go_loopw [10, 29] (fun _ i wr => (i = .int .i64 0 ∧ W3 = wr) ∨ (i = .int .i64 1 ∧ ∃ b cb bv, Cls wr w2.heap.size [.iface 142 (.agg #[]), .slice (some ⟨b, 0, none⟩) 1 cb, bv, .slice none 0 0, .slice none 0 0] ∧ (∀ k v, haltL[k]? = some v → wr.cell? ⟨b, k, none⟩ = some v) ∧ w2.heap.size < b ∧ Below w2.heap.size w2 wr)) (fun _ i _ => 1 - (intOf i).toNat)
  case atStart => exact .inl ⟨rfl, rfl⟩
  case round =>
    rcases hrel with ⟨rfl, rfl⟩ | ⟨rfl, b, cb, bv, hL, hc, hlb, hb⟩
    · have s1 := H3.out.s
      have l1 := HL.out.at 1 (.slice none 0 0) rfl
      have l2 := HL.out.at 2 (.slice none 0 0) rfl
      have f2 := HL.out.at' 2 (.slice none 0 0) rfl
      obtain ⟨i0, hi0, hz0, hz1, hz2⟩ := info_parts info_int64
      have HS3 := Lib.hid hs3
      have hLW : w2.heap.size < W3.heap.size := by omega
      have hLne : ¬ w2.heap.size = W3.heap.size := by omega
      clear hs3
      go_wp2_with fail
      go_region_law ((refine step_append_lies _ (by rfl) _ _ _ (by rfl) (w2.heap.size + 1) 3 i0 (.int .i64 0) 1 8 Tryz.underlying69 hi0 hz0 hz1 hz2 rfl (by decide) (.slice none 0 0) 0 [] (by rfl) (World.ownsRow_nil _ _ _ _) ⟨W3.heap.size, 0, none⟩ 1 1 [.int .i64 0] (by rfl) (by rfl) (World.news_of_block (cs := #[.int .i64 0]) (t := 3) (fr := (0, 0)) (show _ from Array.getElem?_push_size)) (by simp [Value.oneCell']) (by decide) (by unfold maxLen; decide) (by decide) (by have := HS3.out; simp; omega) (W3.heap.size + 1) (by simp) ?_); intro gg cap w4 hown4 hgrow4 hat4 hlt4; have HC4 := Lib.hid (((HL.out.below (HL.out.lt (by simp)) ((Below.refl _ _).alloc (Nat.le_refl _) (.cells #[.int .i64 0] 3))).block (hgrow4.block w2.heap.size (by have := HS3.out; simp; omega) (by simp [Value.ownBlock]) : w4.heap[w2.heap.size]? = (W3.alloc (.cells #[.int .i64 0] 3)).heap[w2.heap.size]?))); have l24 := HC4.out.at 2 (.slice none 0 0) rfl; have f24 := HC4.out.at' 2 (.slice none 0 0) rfl)
      all_goals
        have hB4 : Hid (Below w2.heap.size w2 (w4.setCell ⟨w2.heap.size, 2, none⟩ (.slice (some ⟨gg, 0, none⟩) 1 cap))) := by
          have e3 := HS3.out
          refine below_at (Below.grown (B := w2.heap.size) (((B3.out.alloc (by omega) (.cells #[.int .i64 0] 3))).drew) hgrow4 (by show w2.heap.size ≤ (W3.alloc _).heap.size; simp; omega) (fun k hk => by cases hk)) (Nat.le_refl _) _ _
        have HC5 : Hid (Cls (w4.setCell ⟨w2.heap.size, 2, none⟩ (.slice (some ⟨gg, 0, none⟩) 1 cap)) w2.heap.size [.iface 142 (.agg #[]), .slice none 0 0, .slice (some ⟨gg, 0, none⟩) 1 cap, .slice none 0 0, .slice none 0 0]) := HC4.out.set (k := 2) (by simp) _
        have hH5 : Hid (HaltAt (w4.setCell ⟨w2.heap.size, 2, none⟩ (.slice (some ⟨gg, 0, none⟩) 1 cap)) b1 b0) := (H1.out.below HB2.out).below hB4.out
        have hl5 : w2.heap.size < (w4.setCell ⟨w2.heap.size, 2, none⟩ (.slice (some ⟨gg, 0, none⟩) 1 cap)).heap.size := HC5.out.lt (by simp)
        clear l24 f24 hown4 hgrow4 hat4 hlt4
        generalize w4.setCell ⟨w2.heap.size, 2, none⟩ (.slice (some ⟨gg, 0, none⟩) 1 cap) = W5 at *
        have l15 := HC5.out.at 1 (.slice none 0 0) rfl
        obtain ⟨ic, hic, hcz, hcs, hcb⟩ := info_parts info_code
        go_wp2_with (at_builtin; refine wpList_append_lies _ rfl _ _ _ rfl (w2.heap.size + 1) 76 ic _ 6 48 Tryz.underlying74 hic hcz hcs hcb rfl (by decide) (.slice none 0 0) 0 [] rfl (World.ownsRow_nil _ _ _ _) ⟨b0, 0, none⟩ 1 1 haltL rfl rfl hH5.out.cells (by simp [haltL, Value.oneCell']) (by decide) (by unfold maxLen; decide) (by decide) (by omega) W5.heap.size rfl (fun gc capc w6 ho6 hg6 hat6 hl6 => ?_); have HC6 := Lib.hid (HC5.out.block (hg6.block w2.heap.size hl5 (by simp [Value.ownBlock]))); have l16 := HC6.out.at 1 (.slice none 0 0) rfl; have f16 := HC6.out.at' 1 (.slice none 0 0) rfl)
        refine ⟨.inr ⟨rfl, gc, capc, .slice (some ⟨gg, 0, none⟩) 1 cap, HC6.out.set (k := 1) (by simp) _, fun k v hv => ?_, ?_, ?_⟩, by simp [intOf]⟩
        · have hg1 := (ho6.lt gc rfl).1
          rw [World.cell?_setCell_other _ _ _ _ (by intro hh; cases hh; omega)]
          have hk6 : k < 6 := by
            rcases Nat.lt_or_ge k 6 with h | h
            · exact h
            · rw [List.getElem?_eq_none (by simpa [haltL] using h)] at hv; cases hv
          rw [ho6.cellAt k (by omega)]
          exact hv
        · have hg1 := (ho6.lt gc rfl).1
          omega
        · exact below_at (Below.grown (B := w2.heap.size) hB4.out hg6 (by omega) (fun k hk => by cases hk)) (Nat.le_refl _) _ _
    · have HLx := Lib.hid hL
      have HCx := Lib.hid hc
      have HBx := Lib.hid hb
      have l1 := hL.at 1 (.slice (some ⟨b, 0, none⟩) 1 cb) rfl
      have l3 := hL.at 3 (.slice none 0 0) rfl
      have g3 := hL.at' 3 (.slice none 0 0) rfl
      have l4 := hL.at 4 (.slice none 0 0) rfl
      have g4 := hL.at' 4 (.slice none 0 0) rfl
      have hlL := cell_lt l1
      have hbs := hb.size
      have hm1 : ∀ w : World, (Instr.makeSlice 69 (.int .i64 2) (.int .i64 2)).run Tryz.prog w = .ok (.slice (some ⟨w.heap.size, 0, none⟩) 2 2) (w.alloc (.cells #[.int .i64 0, .int .i64 0] 3)) := fun _ => by kernel_rfl
      have hm2 : ∀ w : World, (Instr.makeSlice 104 (.int .i64 1) (.int .i64 1)).run Tryz.prog w = .ok (.slice (some ⟨w.heap.size, 0, none⟩) 1 1) (w.alloc (.cells #[.bool false] 4)) := fun _ => by kernel_rfl
      clear hL hc hb
      go_wp2_with fail
      go_region
      · generalize hst : (wr.setCell ⟨w2.heap.size, 3, none⟩ (.slice (some ⟨wr.heap.size, 0, none⟩) 2 2)).setCell ⟨w2.heap.size, 4, none⟩ (.slice (some ⟨wr.heap.size + 1, 0, none⟩) 1 1) = Wst
        have hsz : Wst.heap.size = wr.heap.size := by rw [← hst]; simp
        have HLay := Lib.hid (LayAt.made (T := 142) (s := wr.heap.size) (g := wr.heap.size + 1) (W' := ((Wst.alloc (.cells #[.int .i64 0, .int .i64 0] 3)).alloc (.cells #[.bool false] 4)).drew) HLx.out HCx.out hlb (by omega) (by omega) (by omega) hst.symm ((((Below.refl _ _).alloc (Nat.le_refl _) _).alloc (by simp) _).drew) (fun k v hv => by
          match k, hv with
          | 0, hv => simp at hv; rw [← hv]; simp [go_sem, hsz]
          | 1, hv => simp at hv; rw [← hv]; simp [go_sem, hsz]
          | k + 2, hv => simp at hv) (by simp [go_sem, hsz]))
        have HBz : Hid (Below w.heap.size w (((Wst.alloc (.cells #[.int .i64 0, .int .i64 0] 3)).alloc (.cells #[.bool false] 4)).drew)) := by
          have e2 := HB2.out.size
          have h2 : Below w2.heap.size w2 Wst := by rw [← hst]; exact below_at (below_at HBx.out (Nat.le_refl _) _ _) (Nat.le_refl _) _ _
          exact below_next (below_next BB.out (by omega) HB2.out) (by omega) (((h2.alloc (by omega) _).alloc (by simp; omega) _).drew)
        clear hst hsz
        generalize ((Wst.alloc (.cells #[.int .i64 0, .int .i64 0] 3)).alloc (.cells #[.bool false] 4)).drew = Wz at *
        generalize hgx : wr.heap.size + 1 = gx at HLay ⊢
        generalize hsx : wr.heap.size = sx at HLay ⊢
        exact qtail0
      · generalize hst : (wr.setCell ⟨w2.heap.size, 3, none⟩ (.slice (some ⟨wr.heap.size + 1, 0, none⟩) 2 2)).setCell ⟨w2.heap.size, 4, none⟩ (.slice (some ⟨wr.heap.size, 0, none⟩) 1 1) = Wst
        have hsz : Wst.heap.size = wr.heap.size := by rw [← hst]; simp
        have HLay := Lib.hid (LayAt.made (T := 142) (s := wr.heap.size + 1) (g := wr.heap.size) (W' := ((Wst.alloc (.cells #[.bool false] 4)).alloc (.cells #[.int .i64 0, .int .i64 0] 3)).drew) HLx.out HCx.out hlb (by omega) (by omega) (by omega) hst.symm ((((Below.refl _ _).alloc (Nat.le_refl _) _).alloc (by simp) _).drew) (fun k v hv => by
          match k, hv with
          | 0, hv => simp at hv; rw [← hv]; simp [go_sem, hsz]
          | 1, hv => simp at hv; rw [← hv]; simp [go_sem, hsz]
          | k + 2, hv => simp at hv) (by simp [go_sem, hsz]))
        have HBz : Hid (Below w.heap.size w (((Wst.alloc (.cells #[.bool false] 4)).alloc (.cells #[.int .i64 0, .int .i64 0] 3)).drew)) := by
          have e2 := HB2.out.size
          have h2 : Below w2.heap.size w2 Wst := by rw [← hst]; exact below_at (below_at HBx.out (Nat.le_refl _) _ _) (Nat.le_refl _) _ _
          exact below_next (below_next BB.out (by omega) HB2.out) (by omega) (((h2.alloc (by omega) _).alloc (by simp; omega) _).drew)
        clear hst hsz
        generalize ((Wst.alloc (.cells #[.bool false] 4)).alloc (.cells #[.int .i64 0, .int .i64 0] 3)).drew = Wz at *
        generalize hsx : wr.heap.size + 1 = sx at HLay ⊢
        generalize hgx : wr.heap.size = gx at HLay ⊢
        exact qtail0
end Go.Proofs.YtaegpeofecdhfaaGreat
namespace Go.Proofs.YtaegpeofecdhfaaGreat
open Go.RowKit
set_option linter.unusedVariables false
set_option linter.unusedSimpArgs false
theorem RowI.to {w : World} {base : Nat} {e : TypeId} {k : IntKind} {v : Value} {xs ys : List Int} (h : RowI w base e k v xs) (he : xs = ys) : RowI w base e k v ys := he ▸ h
theorem wr_single (o d s z i c n : Int) (b b2 : Nat) (w : World) (hc0 : w.cell? ⟨b, 0, none⟩ = some (.int .u8 c)) (hc1 : w.cell? ⟨b2, 0, none⟩ = some (.int .i64 n)) : Calls Tryz.prog 246 #[.agg #[.int .i64 o, .int .i64 d, .int .i64 s, .int .i64 z, .int .i64 i], .pointer (some ⟨b, 0, none⟩), .pointer (some ⟨b2, 0, none⟩)] w fun e w' => ∃ v, e = .returned v ∧ RowI w' w.heap.size 5 .u8 v [c, mrB n d] ∧ Below w.heap.size w w' := by
  have hl0 := cell_lt hc0
  have hn0 : ¬ b = w.heap.size := by omega
  have hl1 := cell_lt hc1
  have hn1 : ¬ b2 = w.heap.size := by omega
  have HB := Lib.hid ((Below.refl w.heap.size w).alloc (Nat.le_refl _) (.cells #[.int .i64 o, .int .i64 d, .int .i64 s, .int .i64 z, .int .i64 i] 157))
  obtain ⟨W0, hW0⟩ : ∃ W, w.alloc (.cells #[.int .i64 o, .int .i64 d, .int .i64 s, .int .i64 z, .int .i64 i] 157) = W := ⟨_, rfl⟩
  have p0 : ∀ wk, Since W0 wk → wk.cell? ⟨b, 0, none⟩ = some (.int .u8 c) := fun wk h => h.cell (by rw [← hW0]; exact cell_alloc hc0)
  have p1 : ∀ wk, Since W0 wk → wk.cell? ⟨b2, 0, none⟩ = some (.int .i64 n) := fun wk h => h.cell (by rw [← hW0]; exact cell_alloc hc1)
  have q1 : ∀ wk, Since W0 wk → wk.cell? ⟨w.heap.size, 1, none⟩ = some (.int .i64 d) := fun wk h => h.cell (by rw [← hW0]; simp [go_sem])
  have h00 := Since.refl W0
  rw [hW0] at HB
  have C0 := Lib.hid (fun w => mr_any n d w)
  generalize mrB n d = q at *
  clear hc0 hl0 hn0
  clear hc1 hl1 hn1
  go_enter Tryz.func246, Tryz.ntmps246
  go_wp2_with fail
  clear hW0
  go_region_held3 (fun wk => Since W0 wk) (first | assumption | exact Since.drew (by assumption) | exact Since.next (by assumption) ((Below.refl _ _).alloc (Nat.le_refl _) _)) (first | (go_at_call 216; with_reducible refine (C0.out _).mono ?_; rintro e w' ⟨rfl, rfl⟩))
  go_wp2_with fail
  go_ret
  exact ⟨_, rfl, RowI.to (RowI.lit W0 #[_, _] [_, _] .u8 5 w.heap.size 2 HB.out.size rfl rfl (by unfold maxLen; simp)) (rfl), below_drewN (HB.out.trans (((Below.refl _ W0).alloc (Nat.le_refl _) _).mono HB.out.size)) 1⟩
theorem wr_mul (o d s z i : Int) (w : World) : Calls Tryz.prog 215 #[.agg #[.int .i64 o, .int .i64 d, .int .i64 s, .int .i64 z, .int .i64 i]] w fun e w' => ∃ v, e = .returned v ∧ RowI w' w.heap.size 5 .u8 v [15, 175, mrB d s] ∧ Below w.heap.size w w' := by
  have HB := Lib.hid ((Below.refl w.heap.size w).alloc (Nat.le_refl _) (.cells #[.int .i64 o, .int .i64 d, .int .i64 s, .int .i64 z, .int .i64 i] 157))
  obtain ⟨W0, hW0⟩ : ∃ W, w.alloc (.cells #[.int .i64 o, .int .i64 d, .int .i64 s, .int .i64 z, .int .i64 i] 157) = W := ⟨_, rfl⟩
  have q1 : ∀ wk, Since W0 wk → wk.cell? ⟨w.heap.size, 1, none⟩ = some (.int .i64 d) := fun wk h => h.cell (by rw [← hW0]; simp [go_sem])
  have q2 : ∀ wk, Since W0 wk → wk.cell? ⟨w.heap.size, 2, none⟩ = some (.int .i64 s) := fun wk h => h.cell (by rw [← hW0]; simp [go_sem])
  have h00 := Since.refl W0
  rw [hW0] at HB
  have C0 := Lib.hid (fun w => mr_any d s w)
  generalize mrB d s = q at *
  go_enter Tryz.func215, Tryz.ntmps215
  go_wp2_with (go_at_call 216; with_reducible refine (C0.out _).mono ?_; rintro e w' ⟨rfl, rfl⟩)
  go_ret
  exact ⟨_, rfl, RowI.to (RowI.lit W0 #[_, _, _] [_, _, _] .u8 5 w.heap.size 3 HB.out.size rfl rfl (by unfold maxLen; simp)) (rfl), HB.out.trans (((Below.refl _ W0).alloc (Nat.le_refl _) _).mono HB.out.size)⟩
theorem wr_zero (o d s z i : Int) (w : World) : Calls Tryz.prog 223 #[.agg #[.int .i64 o, .int .i64 d, .int .i64 s, .int .i64 z, .int .i64 i]] w fun e w' => ∃ v, e = .returned v ∧ RowI w' w.heap.size 5 .u8 v [15, 182, mrB d s] ∧ Below w.heap.size w w' := by
  have HB := Lib.hid ((Below.refl w.heap.size w).alloc (Nat.le_refl _) (.cells #[.int .i64 o, .int .i64 d, .int .i64 s, .int .i64 z, .int .i64 i] 157))
  obtain ⟨W0, hW0⟩ : ∃ W, w.alloc (.cells #[.int .i64 o, .int .i64 d, .int .i64 s, .int .i64 z, .int .i64 i] 157) = W := ⟨_, rfl⟩
  have q1 : ∀ wk, Since W0 wk → wk.cell? ⟨w.heap.size, 1, none⟩ = some (.int .i64 d) := fun wk h => h.cell (by rw [← hW0]; simp [go_sem])
  have q2 : ∀ wk, Since W0 wk → wk.cell? ⟨w.heap.size, 2, none⟩ = some (.int .i64 s) := fun wk h => h.cell (by rw [← hW0]; simp [go_sem])
  have h00 := Since.refl W0
  rw [hW0] at HB
  have C0 := Lib.hid (fun w => mr_any d s w)
  generalize mrB d s = q at *
  go_enter Tryz.func223, Tryz.ntmps223
  go_wp2_with (go_at_call 216; with_reducible refine (C0.out _).mono ?_; rintro e w' ⟨rfl, rfl⟩)
  go_ret
  exact ⟨_, rfl, RowI.to (RowI.lit W0 #[_, _, _] [_, _, _] .u8 5 w.heap.size 3 HB.out.size rfl rfl (by unfold maxLen; simp)) (rfl), HB.out.trans (((Below.refl _ W0).alloc (Nat.le_refl _) _).mono HB.out.size)⟩
theorem wr_set (o d s z i : Int) (w : World) (h1 : 0 ≤ s) (h2 : s ≤ 15) : Calls Tryz.prog 221 #[.agg #[.int .i64 o, .int .i64 d, .int .i64 s, .int .i64 z, .int .i64 i]] w fun e w' => ∃ v, e = .returned v ∧ RowI w' w.heap.size 5 .u8 v [15, (144 + s) % 256, mrB 0 d] ∧ Below w.heap.size w w' := by
  have HB := Lib.hid ((Below.refl w.heap.size w).alloc (Nat.le_refl _) (.cells #[.int .i64 o, .int .i64 d, .int .i64 s, .int .i64 z, .int .i64 i] 157))
  obtain ⟨W0, hW0⟩ : ∃ W, w.alloc (.cells #[.int .i64 o, .int .i64 d, .int .i64 s, .int .i64 z, .int .i64 i] 157) = W := ⟨_, rfl⟩
  have q1 : ∀ wk, Since W0 wk → wk.cell? ⟨w.heap.size, 1, none⟩ = some (.int .i64 d) := fun wk h => h.cell (by rw [← hW0]; simp [go_sem])
  have q2 : ∀ wk, Since W0 wk → wk.cell? ⟨w.heap.size, 2, none⟩ = some (.int .i64 s) := fun wk h => h.cell (by rw [← hW0]; simp [go_sem])
  have h00 := Since.refl W0
  rw [hW0] at HB
  have C0 := Lib.hid (fun w => mr_any 0 d w)
  generalize mrB 0 d = q at *
  go_enter Tryz.func221, Tryz.ntmps221
  go_wp2_with fail
  clear hW0
  go_region_held3 (fun wk => Since W0 wk) (first | assumption | exact Since.drew (by assumption) | exact Since.next (by assumption) ((Below.refl _ _).alloc (Nat.le_refl _) _)) (first | (go_at_call 216; with_reducible refine (C0.out _).mono ?_; rintro e w' ⟨rfl, rfl⟩))
  go_wp2_with fail
  go_ret
  exact ⟨_, rfl, RowI.to (RowI.lit W0 #[_, _, _] [_, _, _] .u8 5 w.heap.size 3 HB.out.size rfl rfl (by unfold maxLen; simp)) (by first | rfl | ((try simp only [List.cons.injEq, and_true, true_and, IntKind.wrap_u8, IntKind.wrap_i64]); omega)), below_drewN (HB.out.trans (((Below.refl _ W0).alloc (Nat.le_refl _) _).mono HB.out.size)) 1⟩
theorem wr_cmov (o d s z i : Int) (w : World) (h1 : 0 ≤ i) (h2 : i ≤ 15) : Calls Tryz.prog 225 #[.agg #[.int .i64 o, .int .i64 d, .int .i64 s, .int .i64 z, .int .i64 i]] w fun e w' => ∃ v, e = .returned v ∧ RowI w' w.heap.size 5 .u8 v [15, (64 + i) % 256, mrB d s] ∧ Below w.heap.size w w' := by
  have HB := Lib.hid ((Below.refl w.heap.size w).alloc (Nat.le_refl _) (.cells #[.int .i64 o, .int .i64 d, .int .i64 s, .int .i64 z, .int .i64 i] 157))
  obtain ⟨W0, hW0⟩ : ∃ W, w.alloc (.cells #[.int .i64 o, .int .i64 d, .int .i64 s, .int .i64 z, .int .i64 i] 157) = W := ⟨_, rfl⟩
  have q1 : ∀ wk, Since W0 wk → wk.cell? ⟨w.heap.size, 1, none⟩ = some (.int .i64 d) := fun wk h => h.cell (by rw [← hW0]; simp [go_sem])
  have q2 : ∀ wk, Since W0 wk → wk.cell? ⟨w.heap.size, 2, none⟩ = some (.int .i64 s) := fun wk h => h.cell (by rw [← hW0]; simp [go_sem])
  have q4 : ∀ wk, Since W0 wk → wk.cell? ⟨w.heap.size, 4, none⟩ = some (.int .i64 i) := fun wk h => h.cell (by rw [← hW0]; simp [go_sem])
  have h00 := Since.refl W0
  rw [hW0] at HB
  have C0 := Lib.hid (fun w => mr_any d s w)
  generalize mrB d s = q at *
  go_enter Tryz.func225, Tryz.ntmps225
  go_wp2_with fail
  clear hW0
  go_region_held3 (fun wk => Since W0 wk) (first | assumption | exact Since.drew (by assumption) | exact Since.next (by assumption) ((Below.refl _ _).alloc (Nat.le_refl _) _)) (first | (go_at_call 216; with_reducible refine (C0.out _).mono ?_; rintro e w' ⟨rfl, rfl⟩))
  go_wp2_with fail
  go_ret
  exact ⟨_, rfl, RowI.to (RowI.lit W0 #[_, _, _] [_, _, _] .u8 5 w.heap.size 3 HB.out.size rfl rfl (by unfold maxLen; simp)) (by first | rfl | ((try simp only [List.cons.injEq, and_true, true_and, IntKind.wrap_u8, IntKind.wrap_i64]); omega)), below_drewN (HB.out.trans (((Below.refl _ W0).alloc (Nat.le_refl _) _).mono HB.out.size)) 1⟩
theorem wr_jccS (o d s z i : Int) (w : World) (h1 : 0 ≤ s) (h2 : s ≤ 15) : Calls Tryz.prog 227 #[.agg #[.int .i64 o, .int .i64 d, .int .i64 s, .int .i64 z, .int .i64 i]] w fun e w' => ∃ v, e = .returned v ∧ RowI w' w.heap.size 5 .u8 v [(112 + s) % 256] ∧ Below w.heap.size w w' := by
  have HB := Lib.hid ((Below.refl w.heap.size w).alloc (Nat.le_refl _) (.cells #[.int .i64 o, .int .i64 d, .int .i64 s, .int .i64 z, .int .i64 i] 157))
  obtain ⟨W0, hW0⟩ : ∃ W, w.alloc (.cells #[.int .i64 o, .int .i64 d, .int .i64 s, .int .i64 z, .int .i64 i] 157) = W := ⟨_, rfl⟩
  have q2 : ∀ wk, Since W0 wk → wk.cell? ⟨w.heap.size, 2, none⟩ = some (.int .i64 s) := fun wk h => h.cell (by rw [← hW0]; simp [go_sem])
  have h00 := Since.refl W0
  rw [hW0] at HB
  go_enter Tryz.func227, Tryz.ntmps227
  go_wp2_with fail
  go_ret
  exact ⟨_, rfl, RowI.to (RowI.lit W0 #[_] [_] .u8 5 w.heap.size 1 HB.out.size rfl rfl (by unfold maxLen; simp)) (by first | rfl | ((try simp only [List.cons.injEq, and_true, true_and, IntKind.wrap_u8, IntKind.wrap_i64]); omega)), HB.out.trans (((Below.refl _ W0).alloc (Nat.le_refl _) _).mono HB.out.size)⟩
theorem wr_jccL (o d s z i : Int) (w : World) (h1 : 0 ≤ s) (h2 : s ≤ 15) : Calls Tryz.prog 228 #[.agg #[.int .i64 o, .int .i64 d, .int .i64 s, .int .i64 z, .int .i64 i]] w fun e w' => ∃ v, e = .returned v ∧ RowI w' w.heap.size 5 .u8 v [15, (128 + s) % 256] ∧ Below w.heap.size w w' := by
  have HB := Lib.hid ((Below.refl w.heap.size w).alloc (Nat.le_refl _) (.cells #[.int .i64 o, .int .i64 d, .int .i64 s, .int .i64 z, .int .i64 i] 157))
  obtain ⟨W0, hW0⟩ : ∃ W, w.alloc (.cells #[.int .i64 o, .int .i64 d, .int .i64 s, .int .i64 z, .int .i64 i] 157) = W := ⟨_, rfl⟩
  have q2 : ∀ wk, Since W0 wk → wk.cell? ⟨w.heap.size, 2, none⟩ = some (.int .i64 s) := fun wk h => h.cell (by rw [← hW0]; simp [go_sem])
  have h00 := Since.refl W0
  rw [hW0] at HB
  go_enter Tryz.func228, Tryz.ntmps228
  go_wp2_with fail
  go_ret
  exact ⟨_, rfl, RowI.to (RowI.lit W0 #[_, _] [_, _] .u8 5 w.heap.size 2 HB.out.size rfl rfl (by unfold maxLen; simp)) (by first | rfl | ((try simp only [List.cons.injEq, and_true, true_and, IntKind.wrap_u8, IntKind.wrap_i64]); omega)), HB.out.trans (((Below.refl _ W0).alloc (Nat.le_refl _) _).mono HB.out.size)⟩
theorem wr_jmpS (o d s z i : Int) (w : World) : Calls Tryz.prog 230 #[.agg #[.int .i64 o, .int .i64 d, .int .i64 s, .int .i64 z, .int .i64 i]] w fun e w' => ∃ v, e = .returned v ∧ RowI w' w.heap.size 5 .u8 v [235] ∧ Below w.heap.size w w' := by
  have HB := Lib.hid ((Below.refl w.heap.size w).alloc (Nat.le_refl _) (.cells #[.int .i64 o, .int .i64 d, .int .i64 s, .int .i64 z, .int .i64 i] 157))
  obtain ⟨W0, hW0⟩ : ∃ W, w.alloc (.cells #[.int .i64 o, .int .i64 d, .int .i64 s, .int .i64 z, .int .i64 i] 157) = W := ⟨_, rfl⟩
  have q2 : ∀ wk, Since W0 wk → wk.cell? ⟨w.heap.size, 2, none⟩ = some (.int .i64 s) := fun wk h => h.cell (by rw [← hW0]; simp [go_sem])
  have h00 := Since.refl W0
  rw [hW0] at HB
  go_enter Tryz.func230, Tryz.ntmps230
  go_wp2_with fail
  go_ret
  exact ⟨_, rfl, RowI.to (RowI.lit W0 #[_] [_] .u8 5 w.heap.size 1 HB.out.size rfl rfl (by unfold maxLen; simp)) (rfl), HB.out.trans (((Below.refl _ W0).alloc (Nat.le_refl _) _).mono HB.out.size)⟩
theorem wr_jmpL (o d s z i : Int) (w : World) : Calls Tryz.prog 231 #[.agg #[.int .i64 o, .int .i64 d, .int .i64 s, .int .i64 z, .int .i64 i]] w fun e w' => ∃ v, e = .returned v ∧ RowI w' w.heap.size 5 .u8 v [233] ∧ Below w.heap.size w w' := by
  have HB := Lib.hid ((Below.refl w.heap.size w).alloc (Nat.le_refl _) (.cells #[.int .i64 o, .int .i64 d, .int .i64 s, .int .i64 z, .int .i64 i] 157))
  obtain ⟨W0, hW0⟩ : ∃ W, w.alloc (.cells #[.int .i64 o, .int .i64 d, .int .i64 s, .int .i64 z, .int .i64 i] 157) = W := ⟨_, rfl⟩
  have q2 : ∀ wk, Since W0 wk → wk.cell? ⟨w.heap.size, 2, none⟩ = some (.int .i64 s) := fun wk h => h.cell (by rw [← hW0]; simp [go_sem])
  have h00 := Since.refl W0
  rw [hW0] at HB
  go_enter Tryz.func231, Tryz.ntmps231
  go_wp2_with fail
  go_ret
  exact ⟨_, rfl, RowI.to (RowI.lit W0 #[_] [_] .u8 5 w.heap.size 1 HB.out.size rfl rfl (by unfold maxLen; simp)) (rfl), HB.out.trans (((Below.refl _ W0).alloc (Nat.le_refl _) _).mono HB.out.size)⟩
end Go.Proofs.YtaegpeofecdhfaaGreat
