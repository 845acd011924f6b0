/- -/
import Derived.Deep.MidRow
import Derived.Laws.ResultCell
import Derived.Laws.IdiomCopy
import Derived.Laws.OwnMore
import Derived.BigRegion
import Derived.BigQuiet
import Derived.Deep.Onto
import Derived.Test.YtaegpeofecdhfaaGreatB1
set_option maxRecDepth 100000
namespace Go.Proofs.YtaegpeofecdhfaaGreat
open Go.RowKit Go.Maps
set_option linter.unusedVariables false
set_option linter.unusedSimpArgs false
theorem Cls.three {w : World} {b : Nat} {x y z : Value} (h : Cls w b [x, y, z]) : (w.cell? ⟨b, 0, none⟩ = some x ∧ w.frozen? ⟨b, 0, none⟩ = false) ∧ (w.cell? ⟨b, 1, none⟩ = some y ∧ w.frozen? ⟨b, 1, none⟩ = false) ∧ (w.cell? ⟨b, 2, none⟩ = some z ∧ w.frozen? ⟨b, 2, none⟩ = false) := ⟨h 0 _ rfl, h 1 _ rfl, h 2 _ rfl⟩
theorem Cls.res2 {P : Program} {fn : Func} {p u : Tmp} {ty : TypeId} {tmps : Array Value} {w : World} {b : Nat} {cs : List Value} {d : TypeDesc} {v : Value} (h : Cls w b cs) (hf : fn.results = #[.cell p ty, .tmp u]) (hp : tmps.getD p undef = .pointer (some ⟨b, 0, none⟩)) (hv : tmps.getD u undef = v) (hu : P.underlying ty = some d) (hd : d.isRow = true) (hi : (P.info? ty).map (·.size) = some cs.length) :
    (results fn tmps).run P w = .ok (.tuple #[.agg cs.toArray, v]) w := by
  have hr : w.rangeAt b 0 cs := fun j v hj => by rw [Nat.zero_add]; exact (h j v hj).1
  rw [results_cell_tmp hf, hp, hv]
  simp [asAddr, run_loadVar_mid w b 0 ty cs d hr hu hd hi, Result.andThen]
theorem Obs.shape {w : World} {v : Value} {l : List Ob} (h : Obs w v l) : ∃ a c, v = .slice a l.length c ∧ l.length ≤ c ∧ l.length ≤ 140737488351232 ∧ ∀ i, i < l.length → ∃ b o, a = some ⟨b, o, none⟩ ∧ b < w.heap.size ∧ ObAt w b (o + i * 3) (l.getD i default) := by
  obtain ⟨a, c, rfl, h1, h2, _, h3⟩ := h
  exact ⟨a, c, rfl, h1, h2.1, h3⟩
theorem oRows {w w' : World} {a : Option Addr} {l : List Ob} (h : ∀ i, i < l.length → ∃ b o, a = some ⟨b, o, none⟩ ∧ b < w.heap.size ∧ ObAt w b (o + i * 3) (l.getD i default)) (hb : Below w.heap.size w w') : ∀ i, i < l.length → ∃ b o, a = some ⟨b, o, none⟩ ∧ b < w'.heap.size ∧ ObAt w' b (o + i * 3) (l.getD i default) := fun i hi => by
  obtain ⟨b, o, e, h1, h2⟩ := h i hi
  exact ⟨b, o, e, Nat.lt_of_lt_of_le h1 hb.size, h2.stays h1 hb⟩
def ArrP (base : Int) (l : List Ob) (w : World) (e : Ending) (w' : World) : Prop :=
  Below w.heap.size w w' ∧
  ((arrE base l ≠ 0 ∧ e = .returned (.tuple #[.agg #[.slice none 0 0, .int .i64 0, .map none], .int .i64 (arrE base l)])) ∨
   (arrE base l = 0 ∧ ∃ st v M, arrL base l = some st ∧ e = .returned (.tuple #[.agg #[v, .int .i64 st.z, .map (some M)], .int .i64 0]) ∧ Ints .i64 w' v st.p ∧ MapIs Tryz.prog 3 w' M (symE st.m)))
theorem arrE_3 {base : Int} {l : List Ob} (h : 4 < l.length) : arrE base l = 3 := if_pos h
theorem arrE_v {base : Int} {l : List Ob} {j : Nat} (h : ¬ 4 < l.length) (h0 : ∀ i, i < j → valO (l.getD i default) = 0) (hj : j < l.length) (h1 : valO (l.getD j default) ≠ 0) : arrE base l = valO (l.getD j default) := by
  unfold arrE
  rw [if_neg h, firstE_hit h0 hj h1, if_pos h1]
theorem arrE_1 {base : Int} {l : List Ob} (h : ¬ 4 < l.length) (h0 : ∀ i, i < l.length → valO (l.getD i default) = 0) (h1 : base < 0 ∨ 32768 < base ∨ base.tmod 4 ≠ 0) : arrE base l = 1 := by
  unfold arrE
  rw [if_neg h, firstE_none h0, if_neg (by simp), if_pos h1]
theorem arrE_7 {base : Int} {l : List Ob} (h : ¬ 4 < l.length) (h0 : ∀ i, i < l.length → valO (l.getD i default) = 0) (h1 : ¬ (base < 0 ∨ 32768 < base ∨ base.tmod 4 ≠ 0)) (h2 : arrL base l = none) : arrE base l = 7 := by
  unfold arrE
  rw [if_neg h, firstE_none h0, if_neg (by simp), if_neg h1, h2]; rfl
theorem arrE_0 {base : Int} {l : List Ob} {st : Im} (h : ¬ 4 < l.length) (h0 : ∀ i, i < l.length → valO (l.getD i default) = 0) (h1 : ¬ (base < 0 ∨ 32768 < base ∨ base.tmod 4 ≠ 0)) (h2 : arrL base l = some st) : arrE base l = 0 := by
  unfold arrE
  rw [if_neg h, firstE_none h0, if_neg (by simp), if_neg h1, h2]; rfl
theorem sym_ok {o : Ob} (h : valO o = 0) : ∀ s ∈ o.s, (-2147483648 ≤ s.n ∧ s.n ≤ 2147483647) ∧ 0 ≤ s.a ∧ s.a ≤ o.b.length := by
  intro s hs
  by_cases g : 8192 < o.b.length ∨ 64 < o.s.length ∨ 64 < o.t.length
  · rw [valO_3 g] at h; omega
  · cases g2 : o.s.any (symX o.b.length) with
    | true => rw [valO_1s g g2] at h; omega
    | false =>
      have := List.any_eq_false.1 g2 s hs
      unfold symX num32 at this
      simp at this
      omega
theorem mem_getD' {α : Type} [Inhabited α] {l : List α} {k : Nat} (h : k < l.length) : l.getD k default ∈ l := by
  rw [List.getD_eq_getElem?_getD, List.getElem?_eq_getElem h]; exact List.getElem_mem h
theorem symE_hit {m : List (Int × Int)} {n : Int} (h : m.any (fun q => q.1 == n) = true) : ∃ a, (Value.int .i64 n, Value.int .i64 a) ∈ symE m := by
  obtain ⟨q, hq, h1⟩ := List.any_eq_true.1 h
  refine ⟨q.2, List.mem_map.2 ⟨q, hq, ?_⟩⟩
  have : q.1 = n := by simpa using h1
  rw [this]
theorem map_law : Keyed Tryz.prog 3 := int_keyed Tryz.underlying3
theorem isz : (Tryz.prog.info? 90).map (·.size) = some 3 := by kernel_rfl
set_option maxHeartbeats 4000000 in
theorem arranged_any (l : List Ob) (lv : Value) (base : Int) (w : World) (h : Obs w lv l) (hwf : ∀ o ∈ l, ObF o) : Calls Tryz.prog 44 #[lv, .int .i64 base] w fun e w' => ArrP base l w e w' := by
  obtain ⟨a, c, rfl, hc1, hc2, hrow⟩ := h.shape
  clear h
  have HR := Lib.hid hrow
  have B0 := Lib.hid ((Below.refl _ w).alloc (Nat.le_refl _) (.cells #[.slice none 0 0, .int .i64 0, .map none] 90))
  clear hrow
  by_cases h4 : 4 < l.length
  · have HV := Lib.hid (arrE_3 (base := base) h4)
    have g1 : decide ((4 : Int) < (l.length : Int)) = true := decide_eq_true (by omega)
    go_enter Tryz.func44, Tryz.ntmps44
    go_wp2_with fail
    refine bodyPost_ret (v := .tuple #[.agg #[.slice none 0 0, .int .i64 0, .map none], .int .i64 3]) (Cls.res2 (cs := [.slice none 0 0, .int .i64 0, .map none]) Cls.made rfl rfl rfl Tryz.underlying90 rfl isz) rfl ⟨B0.out, .inl ⟨by rw [HV.out]; decide, by rw [HV.out]⟩⟩
  · have g1 : decide ((4 : Int) < (l.length : Int)) = false := decide_eq_false (by omega)
    have H4 := Lib.hid h4
    obtain ⟨W1, hW1⟩ : ∃ W, w.alloc (.cells #[.slice none 0 0, .int .i64 0, .map none] 90) = W := ⟨_, rfl⟩
    have CR : Hid (Cls W1 w.heap.size [.slice none 0 0, .int .i64 0, .map none]) := by rw [← hW1]; exact Cls.made
    have hs1 : W1.heap.size = w.heap.size + 1 := by rw [← hW1]; simp
    rw [hW1] at B0
    clear h4
    go_enter Tryz.func44, Tryz.ntmps44
    go_wp2_with fail
    clear hW1
    go_loopw [23] (fun i wr => ∃ j : Nat, j ≤ l.length ∧ i = .int .i64 j ∧ Hid (∀ i, i < j → valO (l.getD i default) = 0) ∧ Below W1.heap.size W1 wr) (fun i _ => l.length - (intOf i).toNat)
    case atStart => exact ⟨0, Nat.zero_le _, rfl, (fun i hi => absurd hi (by omega)), Below.refl _ _⟩
    case round =>
      obtain ⟨j, hj, rfl, hno, hb⟩ := hrel
      have HB := Lib.hid hb
      have hbs := hb.size
      have CR1 : Hid (Cls wr w.heap.size [.slice none 0 0, .int .i64 0, .map none]) := CR.out.below (by omega) hb
      have HW : Hid (Below w.heap.size w wr) := below_next B0.out (by omega) hb
      by_cases hjl : j < l.length
      · obtain ⟨b, q, ea, hbl, vb, vs, vt, x0, x1, x2, hx⟩ := oRows HR.out HW.out j hjl
        subst ea
        obtain ⟨ba, cb, rfl, _, _⟩ := hx.1.shape2
        obtain ⟨sa, cs, rfl, _⟩ := hx.2.1.shape
        obtain ⟨ta, ct, rfl, _⟩ := hx.2.2.shape
        generalize hlo : l.getD j default = oj at *
        have HLO := Lib.hid hlo
        clear hlo
        have hv := pVal_any oj _ _ _ (wr.alloc (.cells #[.slice ba oj.b.length cb, .slice sa oj.s.length cs, .slice ta oj.t.length ct] 26)) (hx.stays ((Below.refl _ _).alloc (Nat.le_refl _) _))
        have BX : Hid (Below wr.heap.size wr (wr.alloc (.cells #[.slice ba oj.b.length cb, .slice sa oj.s.length cs, .slice ta oj.t.length ct] 26))) := (Below.refl _ _).alloc (Nat.le_refl _) _
        have C1 := Lib.hid hv
        have hne : ¬ b = wr.heap.size := by omega
        have hlr : w.heap.size < wr.heap.size := by omega
        clear hb hv hx
        cases hz : (valO oj == 0)
        · have hz' : valO oj ≠ 0 := by simpa using hz
          have HV : Hid (arrE base l = valO oj) := by have := arrE_v (base := base) H4.out hno.out hjl (by rw [HLO.out]; exact hz'); rw [HLO.out] at this; exact this
          have HNZ := Lib.hid hz'
          have hbne : (valO oj != 0) = true := by simp [bne, hz]
          clear hz' hz
          generalize valO oj = ev at *
          have BX2 : Hid (∀ w', Below (wr.heap.size + 1) (wr.alloc (.cells #[.slice ba oj.b.length cb, .slice sa oj.s.length cs, .slice ta oj.t.length ct] 26)) w' → Cls w' w.heap.size [.slice none 0 0, .int .i64 0, .map none] ∧ Below w.heap.size w w') := fun w' h' =>
            ⟨(CR1.out.below (by omega) BX.out).below (by omega) h', below_next (below_next HW.out (by omega) BX.out) (by simp; omega) (by rw [World.size_alloc]; exact h')⟩
          clear BX HB HR HW CR1 hwf
          go_wp2_with (go_at_call 13; with_reducible refine C1.out.mono ?_; rintro e w3 ⟨rfl, hb3⟩; obtain ⟨hc3, hw3⟩ := BX2.out w3 (by rw [World.size_alloc] at hb3; exact hb3); obtain ⟨⟨r0, f0⟩, ⟨r1, f1⟩, ⟨r2, f2⟩⟩ := hc3.three; have HC3 := Lib.hid hc3; have HW3 := Lib.hid hw3; clear hc3 hw3 hb3)
          refine bodyPost_ret (v := .tuple #[.agg #[.slice none 0 0, .int .i64 0, .map none], .int .i64 ev]) (Cls.res2 (cs := [.slice none 0 0, .int .i64 0, .map none]) (((HC3.out.set (k := 0) (by simp) _).set (k := 1) (by simp) _).set (k := 2) (by simp) _) rfl rfl rfl Tryz.underlying90 rfl isz) rfl ⟨below_at (below_at (below_at HW3.out (Nat.le_refl _) _ _) (Nat.le_refl _) _ _) (Nat.le_refl _) _ _, .inl ⟨by rw [HV.out]; exact HNZ.out, by rw [HV.out]⟩⟩
        · have hz' : valO oj = 0 := by simpa using hz
          have HN : Hid (∀ i, i < j + 1 → valO (l.getD i default) = 0) := fun i hi => by
            rcases Nat.lt_or_ge i j with h | h
            · exact hno.out i h
            · obtain rfl : i = j := by omega
              rw [HLO.out]; exact hz'
          rw [hz'] at C1
          clear hz hz'
          go_wp2_with (go_at_call 13; with_reducible refine C1.out.mono ?_; rintro e w3 ⟨rfl, hb3⟩)
          go_roundw
          case rel => exact ⟨j + 1, by omega, by go_num, HN.out, below_next (below_next HB.out (by omega) BX.out) (by simp; omega) hb3⟩
          case measure => simp [intOf]; omega
      · obtain rfl : j = l.length := by omega
        have HV0 := Lib.hid hno.out
        obtain ⟨wo, rfl⟩ : ∃ wo : World, wo = wr := ⟨_, rfl⟩
        have hlr : w.heap.size < wo.heap.size := by omega
        obtain ⟨⟨r0, f0⟩, ⟨r1, f1⟩, ⟨r2, f2⟩⟩ := CR1.out.three
        clear hb hbs HB hno CR B0
        by_cases hbad : base < 0 ∨ 32768 < base ∨ base.tmod 4 ≠ 0
        · have HV := Lib.hid (arrE_1 H4.out HV0.out hbad)
          cases d1 : decide (base < 0)
          case true =>
            clear hbad
            go_wp2_with fail
            refine bodyPost_ret (v := .tuple #[.agg #[.slice none 0 0, .int .i64 0, .map none], .int .i64 1]) (Cls.res2 (cs := [.slice none 0 0, .int .i64 0, .map none]) (((CR1.out.set (k := 0) (by simp) _).set (k := 1) (by simp) _).set (k := 2) (by simp) _) rfl rfl rfl Tryz.underlying90 rfl isz) rfl ⟨below_at (below_at (below_at HW.out (Nat.le_refl _) _ _) (Nat.le_refl _) _ _) (Nat.le_refl _) _ _, .inl ⟨by rw [HV.out]; decide, by rw [HV.out]⟩⟩
          cases d2 : decide (32768 < base)
          case true =>
            clear hbad
            go_wp2_with fail
            refine bodyPost_ret (v := .tuple #[.agg #[.slice none 0 0, .int .i64 0, .map none], .int .i64 1]) (Cls.res2 (cs := [.slice none 0 0, .int .i64 0, .map none]) (((CR1.out.set (k := 0) (by simp) _).set (k := 1) (by simp) _).set (k := 2) (by simp) _) rfl rfl rfl Tryz.underlying90 rfl isz) rfl ⟨below_at (below_at (below_at HW.out (Nat.le_refl _) _ _) (Nat.le_refl _) _ _) (Nat.le_refl _) _ _, .inl ⟨by rw [HV.out]; decide, by rw [HV.out]⟩⟩
          have b0 : 0 ≤ base := by have := of_decide_eq_false d1; omega
          have b1 : base ≤ 32768 := by have := of_decide_eq_false d2; omega
          have d3 : (base % 4 != 0) = true := by
            rw [Int.tmod_eq_emod_of_nonneg b0] at hbad
            rcases hbad with h | h | h
            · omega
            · omega
            · simpa using h
          clear hbad
          go_wp2_with fail
          refine bodyPost_ret (v := .tuple #[.agg #[.slice none 0 0, .int .i64 0, .map none], .int .i64 1]) (Cls.res2 (cs := [.slice none 0 0, .int .i64 0, .map none]) (((CR1.out.set (k := 0) (by simp) _).set (k := 1) (by simp) _).set (k := 2) (by simp) _) rfl rfl rfl Tryz.underlying90 rfl isz) rfl ⟨below_at (below_at (below_at HW.out (Nat.le_refl _) _ _) (Nat.le_refl _) _ _) (Nat.le_refl _) _ _, .inl ⟨by rw [HV.out]; decide, by rw [HV.out]⟩⟩
        · have HG := Lib.hid hbad
          have b0 : 0 ≤ base := by omega
          have b1 : base ≤ 32768 := by omega
          have hm4 : base.tmod 4 = 0 := by
            by_cases h : base.tmod 4 = 0
            · exact h
            · exact absurd (.inr (.inr h)) hbad
          have HM4 := Lib.hid hm4
          have d1 : decide (base < 0) = false := decide_eq_false (by omega)
          have d2 : decide (32768 < base) = false := decide_eq_false (by omega)
          have d3 : (base % 4 != 0) = false := by rw [← Int.tmod_eq_emod_of_nonneg b0, hm4]; rfl
          obtain ⟨hmk⟩ : Nonempty (∀ w : World, (Instr.makeMap 88 none).run Tryz.prog w = .ok (.map (some w.heap.size)) (w.alloc (.map #[] 0))) := ⟨fun _ => by kernel_rfl⟩
          clear hbad hm4
          have A0 : Hid (ArS w w.heap.size wo.heap.size (wo.heap.size + 1) ⟨[], 0, []⟩ ((wo.alloc (.map #[] 0)).alloc (.cells #[.slice none 0 0, .int .i64 0, .map (some wo.heap.size)] 90))) := by
            have e1 : (wo.alloc (.map #[] 0)).heap.size = wo.heap.size + 1 := by simp
            refine ⟨(HW.out.alloc (by omega) _).alloc (by simp; omega) _, ⟨rfl, hlr, by omega, by simp⟩, ?_, ⟨.slice none 0 0, ?_, RowI.nil _ _ _ _⟩, ?_⟩
            · exact (CR1.out.below (by omega) ((Below.refl wo.heap.size wo).alloc (Nat.le_refl _) _)).below (B := wo.heap.size + 1) (by omega) ((Below.refl _ _).alloc (by simp) _)
            · have := Cls.made (w := wo.alloc (.map #[] 0)) (cs := [.slice none 0 0, .int .i64 0, .map (some wo.heap.size)]) (t := 90)
              rw [e1] at this
              exact this
            · exact (MapIs.made (P := Tryz.prog) (K := 3) (w := wo)).below ((Below.refl _ _).alloc (Nat.le_refl _) _)
          go_wp2_with fail
          clear hmk r0 r1 r2 f0 f1 f2
          generalize hM : wo.heap.size = M at *
          go_loopw [50] (fun i wr => ∃ (j : Nat) (st : Im), j ≤ l.length ∧ i = .int .i64 j ∧ Hid (arrL base (l.take j) = some st) ∧ ArS w w.heap.size M (M + 1) st wr) (fun i _ => l.length - (intOf i).toNat)
          case atStart => exact ⟨0, ⟨[], 0, []⟩, Nat.zero_le _, rfl, rfl, A0.out⟩
          case round =>
            obtain ⟨j, st, hj, rfl, hst, hA⟩ := hrel
            have HA := Lib.hid hA
            by_cases hjl : j < l.length
            · obtain ⟨b, q, ea, hbl, hxo⟩ := HR.out j hjl
              subst ea
              obtain ⟨vb, vs, vt, y0, y1, y2, hx⟩ := hxo
              obtain ⟨ba, cb, rfl, _, _⟩ := hx.1.shape2
              obtain ⟨sa, cs, rfl, hs1, hs2, hs3⟩ := hx.2.1.shape
              obtain ⟨ta, ct, rfl, _⟩ := hx.2.2.shape
              have x0 := below_cell hA.keep hbl y0
              have x1 := below_cell hA.keep hbl y1
              have x2 := below_cell hA.keep hbl y2
              clear y0 y1 y2
              have hstep := arrL_step (base := base) hjl hst.out
              have hov := HV0.out j hjl
              generalize hlo : l.getD j default = oj at *
              have hbz : oj.b.length ≤ 8192 ∧ oj.s.length ≤ 64 := by
                by_cases g : 8192 < oj.b.length ∨ 64 < oj.s.length ∨ 64 < oj.t.length
                · rw [valO_3 g] at hov; omega
                · omega
              have hsz := arrL_size (base := base) (l := l) (j := j) (st := st) (fun o ho => by
                obtain ⟨i, hi, rfl⟩ := List.getElem_of_mem ho
                have h0 := HV0.out i hi
                rw [List.getD_eq_getElem?_getD, List.getElem?_eq_getElem hi] at h0
                by_cases g : 8192 < l[i].b.length ∨ 64 < l[i].s.length ∨ 64 < l[i].t.length
                · have : valO l[i] = 3 := valO_3 g
                  simp at h0; omega
                · omega) hj hst.out
              obtain ⟨z0, z1, hpl⟩ := hsz
              have h4' := H4.out
              have z2 : st.z ≤ 40000 := by omega
              have hz3 : Hid (nextAt st.z = (st.z + 3) / 4 * 4) := rfl
              have hat : 0 ≤ (st.z + 3) / 4 * 4 ∧ (st.z + 3) / 4 * 4 ≤ 50000 := by omega
              obtain ⟨o1, o2, o3, o4⟩ := hA.o
              obtain ⟨v, hi, hrow⟩ := hA.i
              obtain ⟨⟨i0, j0⟩, ⟨i1, j1⟩, ⟨i2, j2⟩⟩ := hi.three
              have hlt := hrow.shape
              have hne : ¬ M + 1 = wr.heap.size := by omega
              have hne2 : ¬ b = wr.heap.size := by omega
              have hnb : ¬ b = M + 1 := by omega
              have hwr : w.heap.size ≤ wr.heap.size := hA.keep.size
              obtain ⟨Wb, hWb⟩ : ∃ W, wr.alloc (.cells #[.slice ba oj.b.length cb, .slice sa oj.s.length cs, .slice ta oj.t.length ct] 26) = W := ⟨_, rfl⟩
              have BB : Hid (Below wr.heap.size wr Wb) := by rw [← hWb]; exact (Below.refl _ _).alloc (Nat.le_refl _) _
              have c0 : Wb.cell? ⟨wr.heap.size, 0, none⟩ = some (.slice ba oj.b.length cb) := by rw [← hWb]; simp [go_sem]
              have c1 : Wb.cell? ⟨wr.heap.size, 1, none⟩ = some (.slice sa oj.s.length cs) := by rw [← hWb]; simp [go_sem]
              have hsb : Wb.heap.size = wr.heap.size + 1 := by rw [← hWb]; simp
              have HAB : Hid (ArS w w.heap.size M (M + 1) st Wb) := hA.below BB.out
              have HRB : Hid (RowI Wb (M + 1 + 1) 3 .i64 v st.p) := hrow.below BB.out
              have hown : Hid (∀ k, v.ownBlock = some k → k < wr.heap.size) := fun k hk => (World.ownsRow.lt hrow k hk).2
              obtain ⟨va, vc, rfl⟩ := hlt
              have i0b := below_cell BB.out (by omega) i0
              have i1b := below_cell BB.out (by omega) i1
              have HS3 := Lib.hid hs3
              have HOV := Lib.hid hov
              have HST := Lib.hid hstep
              clear hA hi hrow hx hs3 hov hstep
              go_upto_region 17 with fail
              generalize hAT : (st.z + 3) / 4 * 4 = AT at *
              have hpl2 : st.p.length ≤ 1000 := by omega
              have HPL := Lib.hid hpl
              have hlWb : wr.heap.size < Wb.heap.size := by omega
              have HSB := Lib.hid hsb
              clear hpl hsb
              have hgc : (Wb.alloc (.cells #[.int .i64 AT] 3)).cell? ⟨Wb.heap.size, 0, none⟩ = some (.int .i64 AT) := by simp [go_sem]
              have HRB2 : Hid (RowI (Wb.alloc (.cells #[.int .i64 AT] 3)) (M + 1 + 1) 3 .i64 (.slice va st.p.length vc) st.p) := HRB.out.below ((Below.refl _ _).alloc (Nat.le_refl _) _)
              have HK : Hid (∀ v' w4, RowI w4 (M + 1 + 1) 3 .i64 v' (st.p ++ [AT]) → Below (M + 1 + 1) (Wb.alloc (.cells #[.int .i64 AT] 3)) w4 → (Wb.alloc (.cells #[.int .i64 AT] 3)).grownBy w4 (Value.slice va st.p.length vc).ownBlock →
                  ArS w w.heap.size M (M + 1) ⟨st.p ++ [AT], st.z, st.m⟩ (w4.setCell ⟨M + 1, 0, none⟩ v') ∧ (w4.cell? ⟨M + 1, 0, none⟩ = some (.slice va st.p.length vc) ∧ w4.frozen? ⟨M + 1, 0, none⟩ = false) ∧ (w4.cell? ⟨M + 1, 1, none⟩ = some (.int .i64 st.z) ∧ w4.frozen? ⟨M + 1, 1, none⟩ = false) ∧
                  w4.cell? ⟨wr.heap.size, 0, none⟩ = some (.slice ba oj.b.length cb) ∧ w4.cell? ⟨wr.heap.size, 1, none⟩ = some (.slice sa oj.s.length cs) ∧ wr.heap.size < w4.heap.size) := fun v' w4 hr4 hb4 hg4 => by
                have hA2 := HAB.out.below ((Below.refl Wb.heap.size Wb).alloc (Nat.le_refl _) (.cells #[.int .i64 AT] 3))
                obtain ⟨v3, hi3, _⟩ := hA2.i
                have hsb := HSB.out
                have hno : some wr.heap.size ≠ (Value.slice va st.p.length vc).ownBlock := fun e => by have := hown.out _ e.symm; omega
                have hlt : wr.heap.size < Wb.heap.size := by omega
                have hBe := (Below.refl Wb.heap.size Wb).alloc (Nat.le_refl _) (.cells #[.int .i64 AT] 3)
                have e0 : (Wb.alloc (.cells #[.int .i64 AT] 3)).cell? ⟨M + 1, 0, none⟩ = some (.slice va st.p.length vc) := below_cell hBe (by omega) i0b
                have hi4 := hi3.below (B := M + 1 + 1) (by omega) hb4
                have e1 := (hi3.three).1.1
                rw [e0] at e1
                cases e1
                have hs4 := hb4.size
                exact ⟨hA2.app hb4 hr4, hi4.three.1, hi4.three.2.1, hg4.cell (below_cell hBe hlt c0) hno, hg4.cell (below_cell hBe hlt c1) hno, by have := hg4.size; simp at this; omega⟩
              clear i0 i1 i2 j0 j1 j2 i1b c0 c1 HAB HRB BB hown
              have hbl2 : oj.b.length ≤ 8192 := hbz.1
              go_wp2_with (at_builtin; refine app_int rfl _ _ rfl (M + 1 + 1) _ st.p rfl HRB2.out Wb.heap.size _ AT rfl hgc (by omega) (by simp; omega) (fun v' w4 hr4 hb4 hg4 => ?_); obtain ⟨va4, vc4, rfl⟩ := hr4.shape; obtain ⟨A5, ⟨k0, g0⟩, ⟨k1, g1⟩, d0, d1, hl4⟩ := HK.out _ w4 hr4 hb4 hg4; simp only [List.length_append, List.length_cons, List.length_nil, Nat.zero_add] at A5; have A6 := Lib.hid A5; clear A5 hr4 hb4 hg4 HRB2 hgc)
              have hA7 := A6.out.size (AT + oj.b.length)
              clear A6 k0 g0 k1 g1 d0 d1 i0b HK
              generalize (w4.setCell ⟨M + 1, 0, none⟩ (.slice va4 (st.p.length + 1) vc4)).setCell ⟨M + 1, 1, none⟩ (.int .i64 (AT + oj.b.length)) = W7 at *
              obtain ⟨wz, rfl⟩ : ∃ wz : World, wz = wr := ⟨_, rfl⟩
              go_loopw [74] (fun i wr => ∃ (k : Nat) (ms : List (Int × Int)), k ≤ oj.s.length ∧ i = .int .i64 k ∧ Hid (addS (base + AT) (oj.s.take k) st.m = some ms) ∧ ArS w w.heap.size M (M + 1) ⟨st.p ++ [AT], AT + oj.b.length, ms⟩ wr) (fun i _ => oj.s.length - (intOf i).toNat)
              case atStart => exact ⟨0, st.m, Nat.zero_le _, rfl, rfl, hA7⟩
              case round =>
                obtain ⟨k, ms, hk, rfl, hms, hA⟩ := hrel
                have HAk := Lib.hid hA
                by_cases hkl : k < oj.s.length
                · obtain ⟨b', q', ea, hbl', u0, u1⟩ := sRows HS3.out hA.keep k hkl
                  subst ea
                  have hyb := sym_ok HOV.out _ (mem_getD' hkl)
                  generalize hy : oj.s.getD k default = y at *
                  have HY := Lib.hid hy
                  clear hy
                  obtain ⟨yn, ya⟩ := y
                  simp only at u0 u1 hyb
                  obtain ⟨⟨hn1, hn2⟩, ha1, ha2⟩ := hyb
                  have hne3 : ¬ b' = wr.heap.size := by omega
                  obtain ⟨Wb, hWb⟩ : ∃ W, wr.alloc (.cells #[.int .i64 yn, .int .i64 ya] 41) = W := ⟨_, rfl⟩
                  have BB : Hid (Below wr.heap.size wr Wb) := by rw [← hWb]; exact (Below.refl _ _).alloc (Nat.le_refl _) _
                  have v0 : Wb.cell? ⟨wr.heap.size, 0, none⟩ = some (.int .i64 yn) := by rw [← hWb]; simp [go_sem]
                  have v1 : Wb.cell? ⟨wr.heap.size, 1, none⟩ = some (.int .i64 ya) := by rw [← hWb]; simp [go_sem]
                  have hAb := hA.below BB.out
                  have HAB : Hid (ArS w w.heap.size M (M + 1) ⟨st.p ++ [AT], AT + oj.b.length, ms⟩ Wb) := hAb
                  obtain ⟨vv, hi, -⟩ := hAb.i
                  have i2 := hi.three.2.2.1
                  obtain ⟨⟨r0, f0⟩, ⟨r1, f1⟩, ⟨r2, f2⟩⟩ := hAb.r.three
                  have hMl := hAb.m.1
                  obtain ⟨o1', o2', o3', o4'⟩ := hAb.o
                  have hkey := key_int (n := yn) ⟨by omega, by omega⟩
                  cases hf : ms.any (fun q => q.1 == yn)
                  · have hlk := lookup_miss map_law Tryz.underlying88 (z := .int .i64 0) (fun w => by kernel_rfl) hAb.m hkey (symE_new hf)
                    have hup := update_new map_law Tryz.underlying88 hAb.m (v := .int .i64 (base + AT + ya)) hkey (symE_new hf)
                    have HPUT := Lib.hid (HAB.out.put yn (base + AT + ya) ⟨by omega, by omega⟩ hf)
                    have HN : Hid (addS (base + AT) (oj.s.take (k + 1)) st.m = some (ms ++ [(yn, base + AT + ya)])) := by
                      have e1 := addS_step hkl hms.out
                      rw [HY.out] at e1
                      simp only [hf] at e1
                      exact e1
                    clear hf hA hAb hi hkey
                    go_wp2_with fail
                    go_roundw
                    case rel => exact ⟨k + 1, ms ++ [(yn, base + AT + ya)], by omega, by go_num, HN.out, HPUT.out⟩
                    case measure => simp [intOf]; omega
                  · obtain ⟨a', hm'⟩ := symE_hit hf
                    have hlk := lookup_hit map_law Tryz.underlying88 hAb.m hkey hm'
                    have HV : Hid (arrE base l = 7) := by
                      have e1 := addS_step hkl hms.out
                      rw [HY.out] at e1
                      simp only [hf, if_true] at e1
                      have e2 := addS_none e1
                      have e3 := HST.out
                      unfold putO at e3
                      rw [hz3.out, e2] at e3
                      exact arrE_7 H4.out HV0.out HG.out (arrL_none e3)
                    clear hf hA hAb hi hkey
                    go_wp2_with fail
                    refine bodyPost_ret (v := .tuple #[.agg #[.slice none 0 0, .int .i64 0, .map none], .int .i64 7]) (Cls.res2 (cs := [.slice none 0 0, .int .i64 0, .map none]) (((HAB.out.r.set (k := 0) (by simp) _).set (k := 1) (by simp) _).set (k := 2) (by simp) _) rfl rfl rfl Tryz.underlying90 rfl isz) rfl ⟨below_at (below_at (below_at HAB.out.keep (Nat.le_refl _) _ _) (Nat.le_refl _) _ _) (Nat.le_refl _) _ _, .inl ⟨by rw [HV.out]; decide, by rw [HV.out]⟩⟩
                · obtain rfl : k = oj.s.length := by omega
                  have HN : Hid (arrL base (l.take (j + 1)) = some ⟨st.p ++ [AT], AT + oj.b.length, ms⟩) := by
                    have e1 := hms.out
                    rw [List.take_length] at e1
                    have e3 := HST.out
                    unfold putO at e3
                    rw [hz3.out, e1] at e3
                    exact e3
                  clear hA
                  go_wp2_with fail
                  go_roundw
                  case rel => exact ⟨j + 1, ⟨st.p ++ [AT], AT + oj.b.length, ms⟩, by omega, by go_num, HN.out, HAk.out⟩
                  case measure => simp [intOf]; omega
            · obtain rfl : j = l.length := by omega
              have HST : Hid (arrL base l = some st) := by have := hst.out; rwa [List.take_length] at this
              have HV : Hid (arrE base l = 0) := arrE_0 H4.out HV0.out HG.out HST.out
              obtain ⟨o1, o2, o3, o4⟩ := hA.o
              obtain ⟨v, hi, hrow⟩ := hA.i
              obtain ⟨⟨i0, j0⟩, ⟨i1, j1⟩, ⟨i2, j2⟩⟩ := hi.three
              obtain ⟨⟨r0, f0⟩, ⟨r1, f1⟩, ⟨r2, f2⟩⟩ := hA.r.three
              have HRow := Lib.hid hrow
              obtain ⟨va, vc, rfl⟩ := hrow.shape
              have hpl : Hid (st.p.length ≤ 140737488351232) := by
                have := (arrL_size (base := base) (l := l) (j := l.length) (st := st) (fun o ho => by
                  obtain ⟨i, hi, rfl⟩ := List.getElem_of_mem ho
                  have h0 := HV0.out i hi
                  rw [List.getD_eq_getElem?_getD, List.getElem?_eq_getElem hi] at h0
                  by_cases g : 8192 < l[i].b.length ∨ 64 < l[i].s.length ∨ 64 < l[i].t.length
                  · have : valO l[i] = 3 := valO_3 g
                    simp at h0; omega
                  · omega) (Nat.le_refl _) (by rw [List.take_length]; exact HST.out)).2.2
                show _ ≤ _
                omega
              have hRM : ¬ w.heap.size = M + 1 := by omega
              clear hA hi hrow
              go_wp2_with fail
              refine bodyPost_ret (v := .tuple #[.agg #[.slice va st.p.length vc, .int .i64 st.z, .map (some M)], .int .i64 0]) (Cls.res2 (cs := [.slice va st.p.length vc, .int .i64 st.z, .map (some M)]) (((HA.out.r.set (k := 0) (by simp) _).set (k := 1) (by simp) _).set (k := 2) (by simp) _) rfl rfl rfl Tryz.underlying90 rfl isz) rfl ⟨below_at (below_at (below_at HA.out.keep (Nat.le_refl _) _ _) (Nat.le_refl _) _ _) (Nat.le_refl _) _ _, .inr ⟨HV.out, st, .slice va st.p.length vc, M, HST.out, rfl, ?_, ?_⟩⟩
              · refine RowI.ints (base := M + 1 + 1) (e := 3) ?_ hpl.out
                refine ownsRow_block HRow.out fun k hk => ?_
                rw [Below.heap_setCell _ ⟨w.heap.size, 2, none⟩ _ k (by show k ≠ w.heap.size; omega), Below.heap_setCell _ ⟨w.heap.size, 1, none⟩ _ k (by show k ≠ w.heap.size; omega), Below.heap_setCell _ ⟨w.heap.size, 0, none⟩ _ k (by show k ≠ w.heap.size; omega)]
              · exact ((HA.out.m.set (by omega)).set (by omega)).set (by omega)
theorem by_contra_tm {base : Int} (h : ¬ (base < 0 ∨ 32768 < base ∨ base.tmod 4 ≠ 0)) : base.tmod 4 = 0 := by
  by_cases e : base.tmod 4 = 0
  · exact e
  · exact absurd (.inr (.inr e)) h
theorem arrE_zero {base : Int} {l : List Ob} (h : arrE base l = 0) : ∃ st, arrL base l = some st ∧ l.length ≤ 4 ∧ (∀ o ∈ l, valO o = 0) ∧ 0 ≤ base ∧ base ≤ 32768 ∧ base.tmod 4 = 0 := by
  unfold arrE at h
  by_cases h1 : 4 < l.length
  · rw [if_pos h1] at h; cases h
  · rw [if_neg h1] at h
    by_cases h2 : firstE l ≠ 0
    · rw [if_pos h2] at h; exact absurd h h2
    · rw [if_neg h2] at h
      by_cases h3 : base < 0 ∨ 32768 < base ∨ base.tmod 4 ≠ 0
      · rw [if_pos h3] at h; cases h
      · rw [if_neg h3] at h
        cases h4 : arrL base l with
        | none => rw [h4] at h; cases h
        | some st => exact ⟨st, rfl, by omega, firstE_zero (by omega), by omega, by omega, by_contra_tm h3⟩
theorem val_len {o : Ob} (h : valO o = 0) : o.b.length ≤ 8192 ∧ o.s.length ≤ 64 ∧ o.t.length ≤ 64 := by
  by_cases g : 8192 < o.b.length ∨ 64 < o.s.length ∨ 64 < o.t.length
  · rw [valO_3 g] at h; omega
  · omega
theorem arrL_bd {base : Int} {l : List Ob} {st : Im} (hl : l.length ≤ 4) (hv : ∀ o ∈ l, valO o = 0) (h : arrL base l = some st) : 0 ≤ st.z ∧ st.z ≤ 32784 ∧ st.p.length = l.length := by
  have := arrL_size (base := base) (l := l) (j := l.length) (st := st) (fun o ho => (val_len (hv o ho)).1) (Nat.le_refl _) (by rw [List.take_length]; exact h)
  omega
theorem arranged_ok {l : List Ob} {lv : Value} {base : Int} {w : World} {st : Im} (h : Obs w lv l) (hwf : ∀ o ∈ l, ObF o) (hE : arrE base l = 0) (hst : arrL base l = some st) : Calls Tryz.prog 44 #[lv, .int .i64 base] w fun e w' =>
    ∃ va vc M, e = .returned (.tuple #[.agg #[.slice va st.p.length vc, .int .i64 st.z, .map (some M)], .int .i64 0]) ∧ Ints .i64 w' (.slice va st.p.length vc) st.p ∧ MapIs Tryz.prog 3 w' M (symE st.m) ∧ Below w.heap.size w w' := by
  refine (arranged_any l lv base w h hwf).mono fun e w' ⟨hb, hc⟩ => ?_
  rcases hc with ⟨h1, _⟩ | ⟨_, st', v, M, h1, rfl, h2, h3⟩
  · exact absurd hE h1
  · rw [hst] at h1
    cases h1
    obtain ⟨va, vc, rfl, _⟩ := h2.shape2
    exact ⟨va, vc, M, rfl, h2, h3, hb⟩
theorem arranged_no {l : List Ob} {lv : Value} {base : Int} {w : World} (h : Obs w lv l) (hwf : ∀ o ∈ l, ObF o) (hE : arrE base l ≠ 0) : Calls Tryz.prog 44 #[lv, .int .i64 base] w fun e w' =>
    e = .returned (.tuple #[.agg #[.slice none 0 0, .int .i64 0, .map none], .int .i64 (arrE base l)]) ∧ Below w.heap.size w w' := by
  refine (arranged_any l lv base w h hwf).mono fun e w' ⟨hb, hc⟩ => ?_
  rcases hc with ⟨_, h1⟩ | ⟨h1, _⟩
  · exact ⟨h1, hb⟩
  · exact absurd h1 hE
def lookM (m : List (Int × Int)) (n : Int) : Option Int := (m.find? fun q => q.1 == n).map (·.2)
def findP (base : Int) (l : List Ob) (n : Int) : Int × Bool × Int :=
  if arrE base l ≠ 0 then (0, false, arrE base l)
  else match arrL base l with
    | none => (0, false, 0)
    | some st => if 32768 < base + st.z then (0, false, 3) else match lookM st.m n with | some a => (a, true, (0 : Int)) | none => (0, false, (0 : Int))
theorem lookM_some {m : List (Int × Int)} {n a : Int} (h : lookM m n = some a) : (Value.int .i64 n, Value.int .i64 a) ∈ symE m := by
  unfold lookM at h
  cases hf : m.find? (fun q => q.1 == n) with
  | none => rw [hf] at h; cases h
  | some q =>
    rw [hf] at h
    cases h
    have h1 := List.find?_some hf
    have h2 := List.mem_of_find?_eq_some hf
    refine List.mem_map.2 ⟨q, h2, ?_⟩
    have : q.1 = n := by simpa using h1
    rw [this]
theorem lookM_none {m : List (Int × Int)} {n : Int} (h : lookM m n = none) : m.any (fun q => q.1 == n) = false := by
  unfold lookM at h
  cases hf : m.find? (fun q => q.1 == n) with
  | some q => rw [hf] at h; cases h
  | none =>
    rw [List.find?_eq_none] at hf
    exact List.any_eq_false.2 fun q hq => by simpa using hf q hq
set_option maxHeartbeats 2000000 in
theorem pFind_any (l : List Ob) (lv : Value) (base n : Int) (w : World) (h : Obs w lv l) (hwf : ∀ o ∈ l, ObF o) (hn : I64n n) : Calls Tryz.prog 18 #[lv, .int .i64 base, .int .i64 n] w fun e w' =>
    e = .returned (.tuple #[.int .i64 (findP base l n).1, .bool (findP base l n).2.1, .int .i64 (findP base l n).2.2]) ∧ Below w.heap.size w w' := by
  by_cases hE : arrE base l = 0
  · obtain ⟨st, hst, hl4, hv, hb0, hb1, hb4⟩ := arrE_zero hE
    obtain ⟨z0, z1, -⟩ := arrL_bd hl4 hv hst
    have C := Lib.hid (arranged_ok h hwf hE hst)
    have HP : Hid (findP base l n = if 32768 < base + st.z then ((0 : Int), false, (3 : Int)) else match lookM st.m n with | some a => (a, true, (0 : Int)) | none => (0, false, (0 : Int))) := by
      show _ = _
      unfold findP
      rw [if_neg (by simpa using hE), hst]
    have hkey := key_int hn
    clear h hwf hE hst hv
    cases g : decide (32768 < base + st.z)
    case true =>
      have g' := of_decide_eq_true g
      have HQ : Hid (findP base l n = (0, false, 3)) := by show _ = _; rw [HP.out, if_pos g']
      go_enter Tryz.func18, Tryz.ntmps18
      go_wp2_with (go_at_call 44; with_reducible refine C.out.mono ?_; rintro e w1 ⟨va, vc, M, rfl, hi, hm, hb⟩; have HB := Lib.hid (hb.alloc hb.size (.cells #[.slice va st.p.length vc, .int .i64 st.z, .map (some M)] 90)); clear hi hm hb)
      refine bodyPost_ret (v := .tuple #[.int .i64 0, .bool false, .int .i64 3]) (by simp [results, Tryz.results18, go_sem]) rfl ⟨by rw [HQ.out], HB.out⟩
    case false =>
      have g' := of_decide_eq_false g
      cases hk : lookM st.m n with
      | none =>
        have HQ : Hid (findP base l n = (0, false, 0)) := by show _ = _; rw [HP.out, if_neg g', hk]
        have hmiss := symE_new (lookM_none hk)
        clear hk
        go_enter Tryz.func18, Tryz.ntmps18
        go_wp2_with (go_at_call 44; with_reducible refine C.out.mono ?_; rintro e w1 ⟨va, vc, M, rfl, hi, hm, hb⟩; have HB := Lib.hid (hb.alloc hb.size (.cells #[.slice va st.p.length vc, .int .i64 st.z, .map (some M)] 90)); have hlk := lookup_miss map_law Tryz.underlying88 (z := .int .i64 0) (fun w => by kernel_rfl) (hm.below ((Below.refl _ _).alloc (Nat.le_refl _) (.cells #[.slice va st.p.length vc, .int .i64 st.z, .map (some M)] 90))) hkey hmiss; clear hi hm hb hmiss)
        refine bodyPost_ret (v := .tuple #[.int .i64 0, .bool false, .int .i64 0]) (by simp [results, Tryz.results18, go_sem]) rfl ⟨by rw [HQ.out], HB.out⟩
      | some a =>
        have HQ : Hid (findP base l n = (a, true, 0)) := by show _ = _; rw [HP.out, if_neg g', hk]
        have hhit := lookM_some hk
        clear hk
        go_enter Tryz.func18, Tryz.ntmps18
        go_wp2_with (go_at_call 44; with_reducible refine C.out.mono ?_; rintro e w1 ⟨va, vc, M, rfl, hi, hm, hb⟩; have HB := Lib.hid (hb.alloc hb.size (.cells #[.slice va st.p.length vc, .int .i64 st.z, .map (some M)] 90)); have hlk := lookup_hit map_law Tryz.underlying88 (hm.below ((Below.refl _ _).alloc (Nat.le_refl _) (.cells #[.slice va st.p.length vc, .int .i64 st.z, .map (some M)] 90))) hkey hhit; clear hi hm hb hhit)
        refine bodyPost_ret (v := .tuple #[.int .i64 a, .bool true, .int .i64 0]) (by simp [results, Tryz.results18, go_sem]) rfl ⟨by rw [HQ.out], HB.out⟩
  · have C := Lib.hid (arranged_no h hwf hE)
    have HQ : Hid (findP base l n = (0, false, arrE base l)) := if_pos hE
    have hne : (arrE base l != 0) = true := by simpa [bne] using hE
    clear h hwf hE
    generalize arrE base l = ev at *
    go_enter Tryz.func18, Tryz.ntmps18
    go_wp2_with (go_at_call 44; with_reducible refine C.out.mono ?_; rintro e w1 ⟨rfl, hb⟩; have HB := Lib.hid (hb.alloc hb.size (.cells #[.slice none 0 0, .int .i64 0, .map none] 90)); clear hb)
    refine bodyPost_ret (v := .tuple #[.int .i64 0, .bool false, .int .i64 ev]) (by simp [results, Tryz.results18, go_sem]) rfl ⟨by rw [HQ.out], HB.out⟩
def setL (out : List Int) (q : Nat) : List Int → List Int
  | [] => out
  | b :: l => setL (out.set q b) (q + 1) l
theorem setL_length : ∀ (l out : List Int) (q : Nat), (setL out q l).length = out.length
  | [], _, _ => rfl
  | b :: l, out, q => by rw [setL, setL_length l]; simp
theorem setL_snoc : ∀ (l out : List Int) (q : Nat) (b : Int), setL out q (l ++ [b]) = (setL out q l).set (q + l.length) b
  | [], out, q, b => rfl
  | x :: l, out, q, b => by
    rw [List.cons_append, setL, setL_snoc l, setL, List.length_cons]
    congr 1
    omega
def by4 (n : Int) (k : Nat) : Int := n / 2 ^ (8 * k) % 256
def setK (out : List Int) (q : Nat) (n : Int) : Nat → List Int
  | 0 => out
  | c + 1 => (setK out q n c).set (q + c) (by4 n c)
theorem setK_length (out : List Int) (q : Nat) (n : Int) : ∀ c, (setK out q n c).length = out.length
  | 0 => rfl
  | c + 1 => by rw [setK, List.length_set, setK_length out q n c]
def set4 (out : List Int) (q : Nat) (n : Int) : List Int := setK out q n 4
theorem set4_length (out : List Int) (q : Nat) (n : Int) : (set4 out q n).length = out.length := setK_length out q n 4
def wantN (base : Int) (m : List (Int × Int)) (p : Int) (x : Wn) : Int := if x.k = 1 then (lookM m x.n).getD 0 + x.p - (base + (p + x.a) + 4) else (lookM m x.n).getD 0 + x.p
def wantsL (base : Int) (m : List (Int × Int)) (p : Int) (out : List Int) (t : List Wn) : List Int := t.foldl (fun out x => set4 out (p + x.a).toNat (wantN base m p x)) out
theorem wantsL_length (base : Int) (m : List (Int × Int)) (p : Int) : ∀ (t : List Wn) (out : List Int), (wantsL base m p out t).length = out.length
  | [], _ => rfl
  | x :: t, out => by
    have := wantsL_length base m p t (set4 out (p + x.a).toNat (wantN base m p x))
    unfold wantsL at this ⊢
    rw [List.foldl_cons, this, set4_length]
theorem wantsL_step {base : Int} {m : List (Int × Int)} {p : Int} {out : List Int} {t : List Wn} {k : Nat} (hk : k < t.length) : wantsL base m p out (t.take (k + 1)) = set4 (wantsL base m p out (t.take k)) (p + (t.getD k default).a).toNat (wantN base m p (t.getD k default)) := by
  unfold wantsL
  rw [List.take_succ_eq_append_getElem hk, List.foldl_append, List.getD_eq_getElem?_getD, List.getElem?_eq_getElem hk]; rfl
def objL (base : Int) (m : List (Int × Int)) (p : Int) (out : List Int) (o : Ob) : List Int := wantsL base m p (setL out p.toNat o.b) o.t
def linkJ (base : Int) (l : List Ob) (st : Im) (j : Nat) : List Int := (List.range j).foldl (fun out i => objL base st.m (st.p.getD i 0) out (l.getD i default)) (List.replicate st.z.toNat 0)
theorem linkJ_step (base : Int) (l : List Ob) (st : Im) (j : Nat) : linkJ base l st (j + 1) = objL base st.m (st.p.getD j 0) (linkJ base l st j) (l.getD j default) := by
  unfold linkJ
  rw [List.range_succ, List.foldl_append]; rfl
theorem linkJ_length (base : Int) (l : List Ob) (st : Im) : ∀ j, (linkJ base l st j).length = st.z.toNat
  | 0 => by simp [linkJ]
  | j + 1 => by rw [linkJ_step, objL, wantsL_length, setL_length, linkJ_length base l st j]
def missB (l : List Ob) (m : List (Int × Int)) (j : Nat) : Bool := (l.take j).any fun o => o.t.any fun x => (lookM m x.n).isNone
def linkE (base : Int) (l : List Ob) : Int :=
  if arrE base l ≠ 0 then arrE base l
  else match arrL base l with
    | none => 0
    | some st => if missB l st.m l.length then 4 else if 32768 < base + st.z then 3 else 0
theorem missB_some {l : List Ob} {m : List (Int × Int)} (h : missB l m l.length = false) {j k : Nat} (hj : j < l.length) (hk : k < (l.getD j default).t.length) : ∃ a, lookM m ((l.getD j default).t.getD k default).n = some a := by
  unfold missB at h
  rw [List.take_length] at h
  have h1 := List.any_eq_false.1 h _ (mem_getD' hj)
  have h2 := List.any_eq_false.1 (Bool.not_eq_true _ ▸ h1 : (l.getD j default).t.any (fun x => (lookM m x.n).isNone) = false) _ (mem_getD' hk)
  cases e : lookM m ((l.getD j default).t.getD k default).n with
  | some a => exact ⟨a, rfl⟩
  | none => rw [e] at h2; simp at h2
theorem addS_vals {c z : Int} : ∀ {s : List Sy} {m0 m : List (Int × Int)}, (∀ y ∈ s, 0 ≤ y.a ∧ y.a ≤ z) → addS c s m0 = some m → ∀ q ∈ m, q ∈ m0 ∨ c ≤ q.2 ∧ q.2 ≤ c + z
  | [], m0, m, _, h, q, hq => by simp [addS] at h; subst h; exact .inl hq
  | y :: s, m0, m, hy, h, q, hq => by
    unfold addS at h
    rw [List.foldlM_cons] at h
    by_cases e : m0.any (fun q => q.1 == y.n) = true
    · rw [if_pos e] at h; cases h
    · rw [if_neg e] at h
      have := addS_vals (c := c) (z := z) (s := s) (m0 := m0 ++ [(y.n, c + y.a)]) (m := m) (fun x hx => hy x (List.mem_cons_of_mem _ hx)) h q hq
      rcases this with h1 | h1
      · rcases List.mem_append.1 h1 with h2 | h2
        · exact .inl h2
        · simp at h2
          subst h2
          have := hy y (List.mem_cons_self ..)
          right; simp; omega
      · exact .inr h1
theorem arrL_vals {base : Int} : ∀ {l : List Ob} {j : Nat} {st : Im}, (∀ o ∈ l, valO o = 0) → j ≤ l.length → arrL base (l.take j) = some st → 0 ≤ st.z ∧ ∀ q ∈ st.m, base ≤ q.2 ∧ q.2 ≤ base + st.z
  | l, 0, st, _, _, h => by simp [arrL] at h; subst h; simp
  | l, j + 1, st, hl, hj, h => by
    cases hp : arrL base (l.take j) with
    | none => rw [arrL_none (l := l.take (j + 1)) (j := j) (by rw [List.take_take, Nat.min_eq_left (by omega)]; exact hp)] at h; cases h
    | some s =>
      obtain ⟨z0, ih⟩ := arrL_vals hl (by omega) hp
      rw [arrL_step (by omega) hp] at h
      unfold putO at h
      cases ha : addS (base + nextAt s.z) (l.getD j default).s s.m with
      | none => rw [ha] at h; cases h
      | some m =>
        rw [ha] at h
        simp only [Option.map_some, Option.some.injEq] at h
        subst h
        have hn : s.z ≤ nextAt s.z := by unfold nextAt; omega
        have hok := sym_ok (hl _ (mem_getD' (l := l) (k := j) (by omega)))
        refine ⟨by show 0 ≤ nextAt s.z + _; omega, fun q hq => ?_⟩
        have hq' : q ∈ m := hq
        show base ≤ q.2 ∧ q.2 ≤ base + (nextAt s.z + ((l.getD j default).b.length : Int))
        rcases addS_vals (z := ((l.getD j default).b.length : Int)) (fun y hy => (hok y hy).2) ha q hq' with h1 | h1
        · have := ih q h1
          omega
        · omega
theorem arrL_places {base : Int} : ∀ {l : List Ob} {j : Nat} {st : Im}, j ≤ l.length → arrL base (l.take j) = some st → 0 ≤ st.z ∧ st.p.length = j ∧ ∀ i, i < j → 0 ≤ st.p.getD i 0 ∧ st.p.getD i 0 + (l.getD i default).b.length ≤ st.z
  | l, 0, st, _, h => by simp [arrL] at h; subst h; simp
  | l, j + 1, st, hj, h => by
    cases hp : arrL base (l.take j) with
    | none => rw [arrL_none (l := l.take (j + 1)) (j := j) (by rw [List.take_take, Nat.min_eq_left (by omega)]; exact hp)] at h; cases h
    | some s =>
      obtain ⟨z0, pl, ih⟩ := arrL_places (by omega) hp
      rw [arrL_step (by omega) hp] at h
      unfold putO at h
      cases ha : addS (base + nextAt s.z) (l.getD j default).s s.m with
      | none => rw [ha] at h; cases h
      | some m =>
        rw [ha] at h
        simp only [Option.map_some, Option.some.injEq] at h
        subst h
        have hn : s.z ≤ nextAt s.z := by unfold nextAt; omega
        refine ⟨by show 0 ≤ nextAt s.z + _; omega, by simp [pl], fun i hi => ?_⟩
        simp only
        rw [List.getD_eq_getElem?_getD, List.getElem?_append]
        by_cases e : i < s.p.length
        · rw [if_pos e, ← List.getD_eq_getElem?_getD]
          have := ih i (by omega)
          omega
        · obtain rfl : i = j := by omega
          rw [if_neg e, pl, Nat.sub_self]
          simp
          omega
theorem OInts.made {w : World} {base g n : Nat} {e : TypeId} {k : IntKind} (h : w.ownsRow base e 1 (.slice (some ⟨g, 0, none⟩) n n) n (madeCells #[Value.int k 0] n).toList) : OInts k w g (List.replicate n 0) := by
  refine ⟨(h.lt g rfl).2, fun i hi => ?_⟩
  rw [List.length_replicate] at hi
  refine ⟨?_, h.frozenAt i⟩
  rw [h.cellAt i (by omega)]
  rw [toList_madeCells_one, List.getElem?_replicate, if_pos hi, List.getD_eq_getElem?_getD, List.getElem?_replicate, if_pos hi]; rfl
theorem below_made {w w' : World} (h : w.grownBy w' none) : Below w.heap.size w w' := (Below.refl _ _).grown h (Nat.le_refl _) (fun k hk => by cases hk)
theorem OInts.setCells {k : IntKind} {B : Nat} : ∀ {bs : List Int} {w : World} {xs : List Int} {q : Nat}, OInts k w B xs → q + bs.length ≤ xs.length → OInts k (w.setCells B q (bs.map (Value.int k))) B (setL xs q bs)
  | [], _, _, _, h, _ => h
  | b :: bs, w, xs, q, h, hl => by
    rw [List.map_cons]
    rw [List.length_cons] at hl
    exact OInts.setCells (h.set (i := q) (by omega) b) (by simp; omega)
theorem below_cells {B b : Nat} {a : World} (hb : B ≤ b) : ∀ (vs : List Value) (o : Nat) (w : World), Below B a w → Below B a (w.setCells b o vs)
  | [], _, _, h => h
  | v :: vs, o, w, h => below_cells hb vs (o + 1) _ (below_at h hb o v)
theorem setCells_block {D k : Nat} (h : k ≠ D) : ∀ (vs : List Value) (o : Nat) (w : World), (w.setCells D o vs).heap[k]? = w.heap[k]?
  | [], _, _ => rfl
  | v :: vs, o, w => by
    rw [World.setCells, setCells_block h vs (o + 1)]
    exact Below.heap_setCell w ⟨D, o, none⟩ v k h
theorem setCells_cell {D k : Nat} (h : k ≠ D) (vs : List Value) (o : Nat) (w : World) (i : Nat) : (w.setCells D o vs).cell? ⟨k, i, none⟩ = w.cell? ⟨k, i, none⟩ := by
  unfold World.cell?
  simp only [setCells_block h vs o w]
theorem addr_none (b o j : Nat) : (⟨b, o, none⟩ : Addr).add j = ⟨b, o + j, none⟩ := by by_cases hj : j = 0 <;> simp [Addr.add, hj]
theorem copy_in {w : World} {D q n cap : Nat} {v : Value} {bs xs : List Int} {ty : TypeId} (hv : Ints .u8 w v bs) (ho : OInts .u8 w D xs) (hq : q + bs.length ≤ xs.length) (hn : bs.length ≤ n) :
    (Builtin.copy_ #[22, 22] ty #[.slice (some ⟨D, q, none⟩) n cap, v]).run Tryz.prog w = .ok (goInt bs.length) (w.setCells D q (bs.map (Value.int .u8))) := by
  obtain ⟨a, c', rfl, h1, h2, h3, h4⟩ := hv
  by_cases h0 : bs.length = 0
  · have e : bs = [] := List.length_eq_zero_iff.1 h0
    subst e
    exact run_copy_none w 22 22 ty 5 _ _ _ _ _ _ (by kernel_rfl) (by kernel_rfl) (by simp)
  · obtain ⟨b, o, e, hb, hc⟩ := h4 0 (by omega)
    subst e
    have := run_copy_cells (P := Tryz.prog) w 22 22 ty 5 D q n cap ⟨b, o, none⟩ bs.length c' (bs.map (Value.int .u8)) (by kernel_rfl) (by kernel_rfl) (by rw [List.length_map]; exact (Nat.min_eq_left hn).symm) (fun j v hj => by
      rw [List.getElem?_map] at hj
      cases hx : bs[j]? with
      | none => rw [hx] at hj; cases hj
      | some y =>
        rw [hx] at hj
        cases hj
        have hjl := (List.getElem?_eq_some_iff.1 hx).1
        obtain ⟨b2, o2, e2, hb2, hc2⟩ := h4 j hjl
        cases e2
        rw [Nat.mul_one] at hc2
        rw [addr_none, hc2, List.getD_eq_getElem?_getD, hx]; rfl) (fun j hj => by rw [ho.cell (by simp at hj; omega)]; rfl) (fun j hj => ho.free (by simp at hj; omega)) (fun v hv => by
      obtain ⟨y, _, rfl⟩ := List.mem_map.1 hv
      rfl)
    rw [List.length_map] at this
    exact this
section
variable {P : Program} {t K E : TypeId} {w : World} {r : Nat} {l : List (Value × Value)}
theorem lookup_hit1 (law : Keyed P K) (ht : P.underlying t = some (.map K E)) (h : MapIs P K w r l) {k v : Value} {q : Lit} (hk : keyOf P K k = some q) (hm : (k, v) ∈ l) :
    (Instr.lookup t (.map (some r)) k false).run P w = .ok v w := by
  have h2 := lookup_hit law ht h hk hm
  have hb := mapAt_some h.2.1
  rcases law.find w hk (ents l).toList (fun e he => h.2.2.1 _ (mem_ents he)) with ⟨hrun, hno⟩ | ⟨j, e, hrun, hj, hek⟩
  · exfalso
    obtain ⟨i, hi, e1⟩ := List.getElem_of_mem hm
    refine hno ⟨k, v, i⟩ ?_ rfl
    unfold ents
    simp only [List.mem_mapIdx]
    exact ⟨i, hi, by rw [e1]⟩
  · simp [Instr.lookup, run_underlying ht, MapKept.run_getObj_map hb, law.check w _ hk, hrun, Result.andThen] at h2 ⊢
    exact h2
end
end Go.Proofs.YtaegpeofecdhfaaGreat
namespace Go.Proofs.YtaegpeofecdhfaaGreat
open Go.RowKit Go.Maps
set_option linter.unusedVariables false
set_option linter.unusedSimpArgs false
theorem info_u8b : (Tryz.prog.info? 5).map (fun i => (i.zero, i.size, i.bytes)) = some (some (.int .u8 0), 1, 1) := by kernel_rfl
theorem linkE_v {base : Int} {l : List Ob} (h : arrE base l ≠ 0) : linkE base l = arrE base l := if_pos h
theorem linkE_4 {base : Int} {l : List Ob} {st : Im} (h : arrE base l = 0) (hs : arrL base l = some st) (hm : missB l st.m l.length = true) : linkE base l = 4 := by
  unfold linkE
  rw [if_neg (by simpa using h), hs]
  simp only
  rw [if_pos hm]
theorem linkE_3 {base : Int} {l : List Ob} {st : Im} (h : arrE base l = 0) (hs : arrL base l = some st) (hm : missB l st.m l.length = false) (hz : 32768 < base + st.z) : linkE base l = 3 := by
  unfold linkE
  rw [if_neg (by simpa using h), hs]
  simp only
  rw [hm, if_neg (by simp), if_pos hz]
theorem linkE_0 {base : Int} {l : List Ob} {st : Im} (h : arrE base l = 0) (hs : arrL base l = some st) (hm : missB l st.m l.length = false) (hz : ¬ 32768 < base + st.z) : linkE base l = 0 := by
  unfold linkE
  rw [if_neg (by simpa using h), hs]
  simp only
  rw [hm, if_neg (by simp), if_neg hz]
theorem missB_hit {l : List Ob} {m : List (Int × Int)} {j k : Nat} (hj : j < l.length) (hk : k < (l.getD j default).t.length) (h : lookM m ((l.getD j default).t.getD k default).n = none) : missB l m l.length = true := by
  unfold missB
  refine any_take_hit hj hj ?_
  refine List.any_eq_true.2 ⟨_, mem_getD' hk, ?_⟩
  rw [h]; rfl
theorem missB_step {l : List Ob} {m : List (Int × Int)} {j : Nat} (hj : j < l.length) (h0 : missB l m j = false) (h : (l.getD j default).t.any (fun x => (lookM m x.n).isNone) = false) : missB l m (j + 1) = false := any_take_step hj h0 h
theorem want_ok {o : Ob} (h : valO o = 0) : ∀ x ∈ o.t, (0 ≤ x.a ∧ x.a ≤ o.b.length - 4) ∧ (x.k = 0 ∨ x.k = 1) ∧ (-2147483648 ≤ x.n ∧ x.n ≤ 2147483647) ∧ -2147483648 ≤ x.p ∧ x.p ≤ 2147483647 := by
  intro x hx
  by_cases g : 8192 < o.b.length ∨ 64 < o.s.length ∨ 64 < o.t.length
  · rw [valO_3 g] at h; omega
  · cases g2 : o.s.any (symX o.b.length) with
    | true => rw [valO_1s g g2] at h; omega
    | false =>
      cases g3 : wantsX nearP o.b.length o.t o.t.length with
      | true => rw [valO_1w g g2 g3] at h; omega
      | false =>
        have := wantsX_ok g3 (Nat.le_refl _) x (by rw [List.take_length]; exact hx)
        obtain ⟨h1, h2, h3, h4, h5⟩ := wantB_bd this
        exact ⟨⟨h1, h2⟩, h3, h4, h5⟩
theorem lookM_bd {m : List (Int × Int)} {n a lo hi : Int} (h : ∀ q ∈ m, lo ≤ q.2 ∧ q.2 ≤ hi) (h1 : lookM m n = some a) : lo ≤ a ∧ a ≤ hi := by
  unfold lookM at h1
  cases hf : m.find? (fun q => q.1 == n) with
  | none => rw [hf] at h1; cases h1
  | some q =>
    rw [hf] at h1
    cases h1
    exact h q (List.mem_of_find?_eq_some hf)
def LinkP (base : Int) (l : List Ob) (w : World) (e : Ending) (w' : World) : Prop :=
  ∃ v, e = .returned (.tuple #[v, .int .i64 (linkE base l)]) ∧ (linkE base l ≠ 0 → v = .slice none 0 0) ∧ (linkE base l = 0 → ∀ st, arrL base l = some st → Ints .u8 w' v (linkJ base l st l.length)) ∧ Below w.heap.size w w'
theorem LinkP.no {base : Int} {l : List Ob} {w w' : World} {n : Int} (h : linkE base l = n) (hn : n ≠ 0) (hb : Below w.heap.size w w') : LinkP base l w (.returned (.tuple #[.slice none 0 0, .int .i64 n])) w' :=
  ⟨_, by rw [h], fun _ => rfl, fun h0 => absurd (h.symm.trans h0) hn, hb⟩
theorem qlink5 {p : Prop} (h : p := by
  have hNb : -200000000000 ≤ N ∧ N ≤ 200000000000 := by omega
  clear hN hk1
  go_loopw [113] (fun i wr => ∃ c : Nat, c ≤ 4 ∧ i = .int .i64 c ∧ OInts .u8 wr D (setK out (pn + yan) N c) ∧ Below W2.heap.size W2 wr) (fun i _ => 4 - (intOf i).toNat)
  case atStart => exact ⟨0, by omega, rfl, HOq.out, HBq.out⟩
  case round =>
    obtain ⟨c5, hc5, rfl, ho5, hb5⟩ := hrel
    have HO5 := Lib.hid ho5
    have HB5 := Lib.hid hb5
    by_cases hcl : c5 < 4
    · have hlen5 : (setK out (pn + yan) N c5).length = zn := by rw [setK_length, hL1.out]
      have d1 := ho5.cell (i := pn + yan + c5) (by rw [hlen5]; omega)
      have f1 := ho5.free (i := pn + yan + c5) (by rw [hlen5]; omega)
      have HS5 : Hid (OInts .u8 (wr.setCell ⟨D, pn + yan + c5, none⟩ (.int .u8 (by4 N c5))) D (setK out (pn + yan) N (c5 + 1))) := ho5.set (i := pn + yan + c5) (by rw [hlen5]; omega) (by4 N c5)
      have hDW : W2.heap.size ≤ D := by omega
      have hi0 : (0 : Int) ≤ (pn : Int) + yan := by omega
      have hi1 : (pn : Int) + yan + 3 < (zn : Int) := by omega
      clear ho5 hb5 hlen5
      have hcc : c5 = 0 ∨ c5 = 1 ∨ c5 = 2 ∨ c5 = 3 := by omega
      generalize hgd : (setK out (pn + yan) N c5).getD (pn + yan + c5) 0 = gd at d1
      clear hgd
      rcases hcc with rfl | rfl | rfl | rfl
      · simp only [Nat.add_zero] at d1 f1 HS5
        have hv : by4 N 0 = N % 256 := by unfold by4; simp
        rw [hv] at HS5
        go_wp2_with fail
        go_roundw
        case rel => exact ⟨1, by omega, by go_num, HS5.out, below_at HB5.out hDW _ _⟩
        case measure => simp [intOf]
      · have hv : by4 N 1 = N % 4294967296 / 256 % 256 := by
          unfold by4
          rw [show (2 : Int) ^ (8 * 1) = 256 from rfl]
          omega
        rw [hv] at HS5
        go_wp2_with fail
        go_roundw
        case rel => exact ⟨2, by omega, by go_num, HS5.out, below_at HB5.out hDW _ _⟩
        case measure => simp [intOf]
      · have hv : by4 N 2 = N % 4294967296 / 65536 % 256 := by
          unfold by4
          rw [show (2 : Int) ^ (8 * 2) = 65536 from rfl]
          omega
        rw [hv] at HS5
        go_wp2_with fail
        go_roundw
        case rel => exact ⟨3, by omega, by go_num, HS5.out, below_at HB5.out hDW _ _⟩
        case measure => simp [intOf]
      · have hv : by4 N 3 = N % 4294967296 / 16777216 := by
          unfold by4
          rw [show (2 : Int) ^ (8 * 3) = 16777216 from rfl]
          omega
        rw [hv] at HS5
        go_wp2_with fail
        go_roundw
        case rel => exact ⟨4, by omega, by go_num, HS5.out, below_at HB5.out hDW _ _⟩
        case measure => simp [intOf]
    · obtain rfl : c5 = 4 := by omega
      have HF : Hid (OInts .u8 wr D (wantsL base sm pn (setL (linkJ base l ⟨sp, zn, sm⟩ j) pn oj.b) (oj.t.take (k + 1)))) := by
        show OInts .u8 wr D _
        rw [hS.out, hw.out]
        exact ho5
      clear ho5 hb5
      go_wp2_with fail
      go_roundw
      case rel => exact ⟨k + 1, by omega, by go_num, HF.out, HB5.out⟩
      case measure => simp [intOf]; omega
 ) : p := h
set_option maxHeartbeats 8000000 in
theorem pLink_any (l : List Ob) (lv : Value) (base : Int) (w : World) (h : Obs w lv l) (hwf : ∀ o ∈ l, ObF o) : Calls Tryz.prog 15 #[lv, .int .i64 base] w fun e w' => LinkP base l w e w' := by
  by_cases hE : arrE base l = 0
  rotate_left
  · have C := Lib.hid (arranged_no h hwf hE)
    have HQ := Lib.hid (linkE_v hE)
    have HN := Lib.hid hE
    have hne : (arrE base l != 0) = true := by simpa [bne] using hE
    clear h hwf hE
    generalize arrE base l = ev at *
    go_enter Tryz.func15, Tryz.ntmps15
    go_wp2_with (go_at_call 44; with_reducible refine C.out.mono ?_; rintro e w1 ⟨rfl, hb⟩; have HB := Lib.hid (hb.alloc hb.size (.cells #[.slice none 0 0, .int .i64 0, .map none] 90)); clear hb)
    refine bodyPost_ret (v := .tuple #[.slice none 0 0, .int .i64 ev]) (by simp [results, Tryz.results15, go_sem]) rfl (LinkP.no HQ.out HN.out HB.out)
  · obtain ⟨st, hst, hl4, hv, hb0, hb1, hb4⟩ := arrE_zero hE
    obtain ⟨z0, z1, hpl⟩ := arrL_bd hl4 hv hst
    have C := Lib.hid (arranged_ok h hwf hE hst)
    have HE := Lib.hid hE
    have HST := Lib.hid hst
    have HV := Lib.hid hv
    have HVS := Lib.hid (arrL_vals (base := base) (l := l) (j := l.length) (st := st) hv (Nat.le_refl _) (by rw [List.take_length]; exact hst)).2
    have HP := Lib.hid (arrL_places (base := base) (l := l) (j := l.length) (st := st) (Nat.le_refl _) (by rw [List.take_length]; exact hst)).2.2
    obtain ⟨a, c, rfl, hc1, hc2, hrow⟩ := h.shape
    have HR := Lib.hid hrow
    clear h hwf hE hst hv hrow
    obtain ⟨sp, sz, sm⟩ := st
    simp only at z0 z1 hpl
    obtain ⟨zn, rfl⟩ := Int.eq_ofNat_of_zero_le z0
    have HPL := Lib.hid hpl
    clear hpl
    go_enter Tryz.func15, Tryz.ntmps15
    go_wp2_with (go_at_call 44; with_reducible refine C.out.mono ?_; rintro e w1 ⟨va, vc, M, rfl, hi, hm, hb⟩; have HI1 := Lib.hid hi; have HM1 := Lib.hid hm; have HB1 := Lib.hid hb; clear hi hm hb)
    generalize hW2 : w1.alloc (.cells #[.slice va sp.length vc, .int .i64 zn, .map (some M)] 90) = W2 at *
    have B2 : Hid (Below w1.heap.size w1 W2) := by rw [← hW2]; exact (Below.refl _ _).alloc (Nat.le_refl _) _
    have i0 : W2.cell? ⟨w1.heap.size, 0, none⟩ = some (.slice va sp.length vc) := by rw [← hW2]; simp [go_sem]
    have i1 : W2.cell? ⟨w1.heap.size, 1, none⟩ = some (.int .i64 zn) := by rw [← hW2]; simp [go_sem]
    have i2 : W2.cell? ⟨w1.heap.size, 2, none⟩ = some (.map (some M)) := by rw [← hW2]; simp [go_sem]
    have hs2 : w1.heap.size < W2.heap.size := by rw [← hW2]; simp
    have hs1 := HB1.out.size
    have HW2 : Hid (Below w.heap.size w W2) := below_next HB1.out hs1 B2.out
    have HI2 : Hid (Ints .i64 W2 (.slice va sp.length vc) sp) := HI1.out.stays B2.out
    have HM2 : Hid (MapIs Tryz.prog 3 W2 M (symE sm)) := HM1.out.below B2.out
    have I0 := Lib.hid i0
    have I1 := Lib.hid i1
    have I2 := Lib.hid i2
    clear hW2 HI1 HM1 i0 i1 i2
    go_loopw [33] (fun i wr => ∃ j : Nat, j ≤ l.length ∧ i = .int .i64 j ∧ Hid (missB l sm j = false) ∧ Below W2.heap.size W2 wr) (fun i _ => l.length - (intOf i).toNat)
    case atStart => exact ⟨0, Nat.zero_le _, rfl, rfl, Below.refl _ _⟩
    case round =>
      obtain ⟨j, hj, rfl, hno, hb⟩ := hrel
      have HB := Lib.hid hb
      have hbs := hb.size
      by_cases hjl : j < l.length
      · obtain ⟨b, q, ea, hbl, vb, vs, vt, y0, y1, y2, hx⟩ := HR.out j hjl
        subst ea
        obtain ⟨ba, cb, rfl, _, _⟩ := hx.1.shape2
        obtain ⟨sa, cs, rfl, _⟩ := hx.2.1.shape
        obtain ⟨ta, ct, rfl, ht1, ht2, ht3⟩ := hx.2.2.shape
        have hwr : Below w.heap.size w wr := below_next HW2.out (by omega) hb
        have x0 := below_cell hwr hbl y0
        have x1 := below_cell hwr hbl y1
        have x2 := below_cell hwr hbl y2
        have HT3 := Lib.hid ht3
        have HOV := Lib.hid (HV.out _ (mem_getD' hjl))
        generalize hlo : l.getD j default = oj at *
        have HLO := Lib.hid hlo
        have hne : ¬ b = wr.heap.size := by omega
        have hnM : ¬ M = wr.heap.size := by have := HM2.out.1; omega
        obtain ⟨Wb, hWb⟩ : ∃ W, wr.alloc (.cells #[.slice ba oj.b.length cb, .slice sa oj.s.length cs, .slice ta oj.t.length ct] 26) = W := ⟨_, rfl⟩
        have BB : Hid (Below wr.heap.size wr Wb) := by rw [← hWb]; exact (Below.refl _ _).alloc (Nat.le_refl _) _
        have c2 : Wb.cell? ⟨wr.heap.size, 2, none⟩ = some (.slice ta oj.t.length ct) := by rw [← hWb]; simp [go_sem]
        have hsb : wr.heap.size < Wb.heap.size := by rw [← hWb]; simp
        have HBb : Hid (Below W2.heap.size W2 Wb) := below_next hb hbs BB.out
        clear hlo hx y0 y1 y2 ht3 hb hwr
        go_wp2_with fail
        clear x0 x1 x2 c2 hWb
        obtain ⟨wz, rfl⟩ : ∃ wz : World, wz = wr := ⟨_, rfl⟩
        go_loopw [40] (fun i wr => ∃ k : Nat, k ≤ oj.t.length ∧ i = .int .i64 k ∧ Hid ((oj.t.take k).any (fun x => (lookM sm x.n).isNone) = false) ∧ Below W2.heap.size W2 wr) (fun i _ => oj.t.length - (intOf i).toNat)
        case atStart => exact ⟨0, Nat.zero_le _, rfl, rfl, HBb.out⟩
        case round =>
          obtain ⟨k, hk, rfl, hnk, hb⟩ := hrel
          have HBk := Lib.hid hb
          have hks := hb.size
          by_cases hkl : k < oj.t.length
          · obtain ⟨b', q', ea, hbl', u0, u1, u2, u3⟩ := wRows HT3.out (below_next HW2.out (by omega) hb) k hkl
            subst ea
            have hyb := want_ok HOV.out _ (mem_getD' hkl)
            generalize hy : oj.t.getD k default = y at *
            have HY := Lib.hid hy
            clear hy
            obtain ⟨ya, yk, yn, yp⟩ := y
            simp only at u0 u1 u2 u3 hyb
            have hne3 : ¬ b' = wr.heap.size := by omega
            obtain ⟨Wc, hWc⟩ : ∃ W, wr.alloc (.cells #[.int .i64 ya, .int .i64 yk, .int .i64 yn, .int .i64 yp] 43) = W := ⟨_, rfl⟩
            have BC : Hid (Below wr.heap.size wr Wc) := by rw [← hWc]; exact (Below.refl _ _).alloc (Nat.le_refl _) _
            have v2 : Wc.cell? ⟨wr.heap.size, 2, none⟩ = some (.int .i64 yn) := by rw [← hWc]; simp [go_sem]
            have HBc : Hid (Below W2.heap.size W2 Wc) := below_next hb hks BC.out
            have m2 := below_cell HBc.out hs2 I2.out
            have hkey := key_int (n := yn) ⟨by omega, by omega⟩
            clear hb
            cases hlm : lookM sm yn with
            | none =>
              have hlk := lookup_miss map_law Tryz.underlying88 (z := .int .i64 0) (fun w => by kernel_rfl) (HM2.out.below HBc.out) hkey (symE_new (lookM_none hlm))
              have HQ := Lib.hid (linkE_4 HE.out HST.out (missB_hit (m := sm) hjl (by rw [HLO.out]; exact hkl) (by rw [HLO.out, HY.out]; exact hlm)))
              clear hlm hkey
              go_wp2_with fail
              refine bodyPost_ret (v := .tuple #[.slice none 0 0, .int .i64 4]) (by simp [results, Tryz.results15, go_sem]) rfl (LinkP.no HQ.out (by decide) (below_next HW2.out (by omega) HBc.out))
            | some av =>
              have hlk := lookup_hit map_law Tryz.underlying88 (HM2.out.below HBc.out) hkey (lookM_some hlm)
              have HN : Hid ((oj.t.take (k + 1)).any (fun x => (lookM sm x.n).isNone) = false) := any_take_step hkl hnk.out (by rw [HY.out]; simp only [hlm]; rfl)
              clear hlm hkey
              go_wp2_with fail
              go_roundw
              case rel => exact ⟨k + 1, by omega, by go_num, HN.out, HBc.out⟩
              case measure => simp [intOf]; omega
          · obtain rfl : k = oj.t.length := by omega
            have HN : Hid (missB l sm (j + 1) = false) := missB_step hjl hno.out (by rw [HLO.out]; have := hnk.out; rwa [List.take_length] at this)
            clear hb
            go_wp2_with fail
            go_roundw
            case rel => exact ⟨j + 1, by omega, by go_num, HN.out, HBk.out⟩
            case measure => simp [intOf]; omega
      · obtain rfl : j = l.length := by omega
        have HMS := Lib.hid hno.out
        have j1 := below_cell hb hs2 I1.out
        obtain ⟨wo, rfl⟩ : ∃ wo : World, wo = wr := ⟨_, rfl⟩
        have HWo : Hid (Below w.heap.size w wo) := below_next HW2.out (by omega) hb
        cases g : decide (32768 < base + (zn : Int))
        case true =>
          have HQ := Lib.hid (linkE_3 HE.out HST.out HMS.out (of_decide_eq_true g))
          clear hb
          go_wp2_with fail
          refine bodyPost_ret (v := .tuple #[.slice none 0 0, .int .i64 3]) (by simp [results, Tryz.results15, go_sem]) rfl (LinkP.no HQ.out (by decide) HWo.out)
        case false =>
          have HQ := Lib.hid (linkE_0 HE.out HST.out HMS.out (of_decide_eq_false g))
          have g' := of_decide_eq_false g
          have hzn : zn ≤ 32768 := by omega
          obtain ⟨ii0, hii0, hzz0, hzz1, hzz2⟩ := info_parts info_u8b
          clear hb
          go_wp2_with (at_make; refine wpList_make_full _ rfl _ _ 22 rfl (wo.heap.size) 5 ii0 (.int .u8 0) 1 Tryz.underlying22 hii0 hzz0 hzz1 .i64 .i64 _ _ zn rfl rfl rfl rfl ?d1 ?d2 ?d3 ?_)
          case d1 => first | omega | (rw [hzz2]; omega)
          case d2 => first | omega | exact Nat.le_refl _ | (unfold maxLen; omega)
          intro w3 hown hgr
          have hO : OInts .u8 w3 wo.heap.size (linkJ base l ⟨sp, zn, sm⟩ 0) := (OInts.made hown : OInts .u8 w3 wo.heap.size (List.replicate zn 0))
          have hb3 := below_made hgr
          have HO3 := Lib.hid hO
          have HB3 : Hid (Below W2.heap.size W2 w3) := below_next HB.out hbs hb3
          clear hown hgr hO hb3
          generalize hD : wo.heap.size = D at *
          go_wp2_with fail
          go_loopw [66] (fun i wr => ∃ j : Nat, j ≤ l.length ∧ i = .int .i64 j ∧ OInts .u8 wr D (linkJ base l ⟨sp, zn, sm⟩ j) ∧ Below W2.heap.size W2 wr) (fun i _ => l.length - (intOf i).toNat)
          case atStart => exact ⟨0, Nat.zero_le _, rfl, HO3.out, HB3.out⟩
          case round =>
            obtain ⟨j, hj, rfl, ho, hb⟩ := hrel
            have HO := Lib.hid ho
            have HB' := Lib.hid hb
            have hbs' := hb.size
            by_cases hjl' : j < l.length
            · obtain ⟨b, q, ea, hbl, vb, vs, vt, y0, y1, y2, hx⟩ := HR.out j hjl'
              subst ea
              obtain ⟨ba, cb, rfl, _, _⟩ := hx.1.shape2
              obtain ⟨sa, cs, rfl, _⟩ := hx.2.1.shape
              obtain ⟨ta, ct, rfl, ht1, ht2, ht3⟩ := hx.2.2.shape
              have hwr : Below w.heap.size w wr := below_next HW2.out (by omega) hb
              have x0 := below_cell hwr hbl y0
              have x1 := below_cell hwr hbl y1
              have x2 := below_cell hwr hbl y2
              have HT3 := Lib.hid ht3
              have HBY := Lib.hid (hx.1.stays hwr)
              have HOV := Lib.hid (HV.out _ (mem_getD' hjl'))
              have hpj := HP.out j hjl'
              generalize hlo : l.getD j default = oj at *
              have HLO := Lib.hid hlo
              obtain ⟨vap, cp, ep, hp1, _, _, hp4⟩ := HI2.out
              cases ep
              obtain ⟨bp, op, rfl, hbp, hcp0⟩ := hp4 j (by have := HPL.out; omega)
              rw [Nat.mul_one] at hcp0
              have hcp := below_cell hb hbp hcp0
              generalize hpp : sp.getD j 0 = pj at *
              obtain ⟨pn, rfl⟩ := Int.eq_ofNat_of_zero_le hpj.1
              have HPP := Lib.hid hpp
              have k0 := below_cell hb hs2 I0.out
              have hj1 : (j : Int) < (sp.length : Int) := by have := HPL.out; omega
              have hj0 : (0 : Int) ≤ (j : Int) := by omega
              have hne : ¬ b = wr.heap.size := by omega
              have hlD : D < wr.heap.size := ho.1
              have hbpw : bp < wr.heap.size := by omega
              have hpz : pn + oj.b.length ≤ zn := by omega
              obtain ⟨Wb, hWb⟩ : ∃ W, wr.alloc (.cells #[.slice ba oj.b.length cb, .slice sa oj.s.length cs, .slice ta oj.t.length ct] 26) = W := ⟨_, rfl⟩
              have BB : Hid (Below wr.heap.size wr Wb) := by rw [← hWb]; exact (Below.refl _ _).alloc (Nat.le_refl _) _
              have c0 : Wb.cell? ⟨wr.heap.size, 0, none⟩ = some (.slice ba oj.b.length cb) := by rw [← hWb]; simp [go_sem]
              have c2 : Wb.cell? ⟨wr.heap.size, 2, none⟩ = some (.slice ta oj.t.length ct) := by rw [← hWb]; simp [go_sem]
              have hsb : wr.heap.size < Wb.heap.size := by rw [← hWb]; simp
              have HOb := Lib.hid (HO.out.below BB.out)
              have HBb : Hid (Below W2.heap.size W2 Wb) := below_next hb hbs' BB.out
              have k0b := below_cell BB.out (by omega) k0
              have hcpb := below_cell BB.out hbpw hcp
              have hll := linkJ_length base l ⟨sp, zn, sm⟩ j
              have hcpy : ∀ ty, (Builtin.copy_ #[22, 22] ty #[.slice (if zn = pn then some ⟨D, 0, none⟩ else some ⟨D, pn, none⟩) (zn - pn) (zn - pn), .slice ba oj.b.length cb]).run Tryz.prog Wb.drew = .ok (goInt oj.b.length) (Wb.drew.setCells D pn (oj.b.map (Value.int .u8))) := fun ty => by
                by_cases hz : zn = pn
                · have e : oj.b = [] := List.length_eq_zero_iff.1 (by omega)
                  rw [if_pos hz, e]
                  exact run_copy_none Wb.drew 22 22 ty 5 _ _ _ _ _ _ (by kernel_rfl) (by kernel_rfl) (by simp)
                · rw [if_neg hz]
                  exact copy_in (w := Wb.drew) ((HBY.out.stays BB.out).stays (below_drewN (Below.refl _ _) 1)) (HOb.out.drewN 1) (by rw [hll]; simp; omega) (by omega)
              have hpn0 : (0 : Int) ≤ (pn : Int) := by omega
              have hpn1 : (pn : Int) ≤ (zn : Int) := by omega
              have HCP := Lib.hid hcp0
              clear hlo hx y0 y1 y2 ht3 hb ho hwr hp4 hcp0 hpp hpj hll
              go_wp2_with fail
              clear hWb x0 x1 x2
              go_region
              clear hcpy
              generalize (if zn = pn then (some ⟨D, 0, none⟩ : Option Addr) else some ⟨D, pn, none⟩) = a77
              generalize hWe : Wb.drew.setCells D pn (oj.b.map (Value.int .u8)) = We
              have hdb : Below Wb.heap.size Wb Wb.drew := below_drewN (Below.refl _ _) 1
              have hLL : Hid ((linkJ base l ⟨sp, zn, sm⟩ j).length = zn) := by
                show _ = _
                have := linkJ_length base l ⟨sp, zn, sm⟩ j
                simpa using this
              have HOe : Hid (OInts .u8 We D (setL (linkJ base l ⟨sp, zn, sm⟩ j) pn oj.b)) := by
                rw [← hWe]
                exact OInts.setCells (HOb.out.drewN 1) (by rw [hLL.out]; omega)
              have HBe : Hid (Below W2.heap.size W2 We) := by
                rw [← hWe]
                exact below_cells (by omega) _ _ _ (below_next HBb.out (by omega) hdb)
              have c2e : We.cell? ⟨wr.heap.size, 2, none⟩ = some (.slice ta oj.t.length ct) := by
                rw [← hWe, setCells_cell (by omega)]
                exact below_cell hdb (by omega) c2
              clear hWe c0 c2 k0 hcp k0b hcpb hdb
              go_wp2_with fail
              clear c2e
              obtain ⟨wz, rfl⟩ : ∃ wz : World, wz = wr := ⟨_, rfl⟩
              go_loopw [84] (fun i wr => ∃ k : Nat, k ≤ oj.t.length ∧ i = .int .i64 k ∧ OInts .u8 wr D (wantsL base sm pn (setL (linkJ base l ⟨sp, zn, sm⟩ j) pn oj.b) (oj.t.take k)) ∧ Below W2.heap.size W2 wr) (fun i _ => oj.t.length - (intOf i).toNat)
              case atStart => exact ⟨0, Nat.zero_le _, rfl, HOe.out, HBe.out⟩
              case round =>
                obtain ⟨k, hk, rfl, ho, hb⟩ := hrel
                have HOk := Lib.hid ho
                have HBk := Lib.hid hb
                have hks := hb.size
                by_cases hkl : k < oj.t.length
                · obtain ⟨b', q', ea, hbl', u0, u1, u2, u3⟩ := wRows HT3.out (below_next HW2.out (by omega) hb) k hkl
                  subst ea
                  have hyb := want_ok HOV.out _ (mem_getD' hkl)
                  obtain ⟨av, hav⟩ := missB_some HMS.out hjl' (k := k) (by rw [HLO.out]; exact hkl)
                  rw [HLO.out] at hav
                  have hstep := wantsL_step (base := base) (m := sm) (p := (pn : Int)) (out := setL (linkJ base l ⟨sp, zn, sm⟩ j) pn oj.b) hkl
                  generalize hy : oj.t.getD k default = y at *
                  clear hy
                  obtain ⟨ya, yk, yn, yp⟩ := y
                  simp only at u0 u1 u2 u3 hyb hav
                  obtain ⟨⟨ha0, ha1⟩, hk01, ⟨hn0, hn1⟩, hp0, hp1'⟩ := hyb
                  obtain ⟨yan, rfl⟩ := Int.eq_ofNat_of_zero_le ha0
                  have hvb := lookM_bd (HVS.out) hav
                  have hkey := key_int (n := yn) ⟨by omega, by omega⟩
                  have hhit := lookM_some hav
                  have hne3 : ¬ b' = wr.heap.size := by omega
                  obtain ⟨Wc, hWc⟩ : ∃ W, wr.alloc (.cells #[.int .i64 yan, .int .i64 yk, .int .i64 yn, .int .i64 yp] 43) = W := ⟨_, rfl⟩
                  have BC : Hid (Below wr.heap.size wr Wc) := by rw [← hWc]; exact (Below.refl _ _).alloc (Nat.le_refl _) _
                  have t0 : Wc.cell? ⟨wr.heap.size, 0, none⟩ = some (.int .i64 yan) := by rw [← hWc]; simp [go_sem]
                  have t1 : Wc.cell? ⟨wr.heap.size, 1, none⟩ = some (.int .i64 yk) := by rw [← hWc]; simp [go_sem]
                  have t2 : Wc.cell? ⟨wr.heap.size, 2, none⟩ = some (.int .i64 yn) := by rw [← hWc]; simp [go_sem]
                  have t3 : Wc.cell? ⟨wr.heap.size, 3, none⟩ = some (.int .i64 yp) := by rw [← hWc]; simp [go_sem]
                  have hlc : wr.heap.size < Wc.heap.size := by rw [← hWc]; simp
                  have HBc : Hid (Below W2.heap.size W2 Wc) := below_next hb hks BC.out
                  have HOc := Lib.hid (ho.below BC.out)
                  have k0c := below_cell HBc.out hs2 I0.out
                  have k2c := below_cell HBc.out hs2 I2.out
                  have hcpc := below_cell HBc.out hbp HCP.out
                  have hgI : w1.heap.size < Wc.heap.size := by omega
                  have hgP : bp < Wc.heap.size := by omega
                  have HST4 := Lib.hid hstep
                  have HAV := Lib.hid hav
                  clear hstep hav ho hb
                  go_wp2_with fail
                  clear hWc u0 u1 u2 u3
                  go_quiet (fail)
                  have hdq : Below Wc.heap.size Wc (Wc.drewN nq) := below_drewN (Below.refl _ _) nq
                  have t1q := below_cell hdq hlc t1
                  have t2q := below_cell hdq hlc t2
                  have t3q := below_cell hdq hlc t3
                  have k2q := below_cell hdq hgI k2c
                  have HOq : Hid (OInts .u8 (Wc.drewN nq) D (wantsL base sm pn (setL (linkJ base l ⟨sp, zn, sm⟩ j) pn oj.b) (oj.t.take k))) := HOc.out.drewN nq
                  have HBq : Hid (Below W2.heap.size W2 (Wc.drewN nq)) := below_next HBc.out (by omega) hdq
                  have hlk1 := lookup_hit1 map_law Tryz.underlying88 (HM2.out.below HBq.out) hkey hhit
                  have hWq : Wc.heap.size ≤ (Wc.drewN nq).heap.size := hdq.size
                  have hL1 : Hid ((wantsL base sm pn (setL (linkJ base l ⟨sp, zn, sm⟩ j) pn oj.b) (oj.t.take k)).length = zn) := by
                    show _ = _
                    rw [wantsL_length, setL_length, hLL.out]
                  generalize hout : wantsL base sm pn (setL (linkJ base l ⟨sp, zn, sm⟩ j) pn oj.b) (oj.t.take k) = out at *
                  generalize Wc.drewN nq = Wq at *
                  clear hdq t0 t1 t2 t3 k0c k2c hcpc hout hhit hkey
                  have hS : Hid (wantsL base sm pn (setL (linkJ base l ⟨sp, zn, sm⟩ j) pn oj.b) (oj.t.take (k + 1)) = set4 out (pn + yan) (wantN base sm pn ⟨yan, yk, yn, yp⟩)) := by
                    have e := HST4.out
                    rw [show ((pn : Int) + (⟨yan, yk, yn, yp⟩ : Wn).a).toNat = pn + yan from by simp only; omega] at e
                    exact e
                  obtain ⟨wy, rfl⟩ : ∃ wy : World, wy = wr := ⟨_, rfl⟩
                  cases hk1 : (yk == 1)
                  · have hw : Hid (wantN base sm pn ⟨yan, yk, yn, yp⟩ = av + yp) := by
                      show _ = _
                      unfold wantN
                      rw [if_neg (by simpa using hk1), HAV.out]; rfl
                    go_wp2_with fail
                    generalize hN : av + yp = N at *
                    exact qlink5
                  · have hw : Hid (wantN base sm pn ⟨yan, yk, yn, yp⟩ = av + yp - (base + ((pn : Int) + yan) + 4)) := by
                      show _ = _
                      unfold wantN
                      rw [if_pos (by simpa using hk1), HAV.out]; rfl
                    go_wp2_with fail
                    generalize hN : av + yp - (base + ((pn : Int) + yan) + 4) = N at *
                    exact qlink5
                · obtain rfl : k = oj.t.length := by omega
                  have HN : Hid (OInts .u8 wr D (linkJ base l ⟨sp, zn, sm⟩ (j + 1))) := by
                    have e1 := linkJ_step base l ⟨sp, zn, sm⟩ j
                    have e2 := HPP.out
                    simp only at e1
                    rw [HLO.out, e2] at e1
                    rw [e1]
                    unfold objL
                    rw [List.take_length] at ho
                    exact ho
                  clear ho hb
                  go_wp2_with fail
                  go_roundw
                  case rel => exact ⟨j + 1, by omega, by go_num, HN.out, HBk.out⟩
                  case measure => simp [intOf]; omega
            · obtain rfl : j = l.length := by omega
              have hll := linkJ_length base l ⟨sp, zn, sm⟩ l.length
              have HI : Hid (Ints .u8 wr (.slice (some ⟨D, 0, none⟩) zn zn) (linkJ base l ⟨sp, zn, sm⟩ l.length)) := by
                have := ho.ints (by rw [hll]; simp; omega)
                rw [hll] at this
                exact this
              clear ho hb hll
              go_wp2_with fail
              refine bodyPost_ret (v := .tuple #[.slice (some ⟨D, 0, none⟩) zn zn, .int .i64 0]) (by simp [results, Tryz.results15, go_sem]) rfl ⟨_, by rw [HQ.out], fun h => absurd HQ.out h, fun _ st hst => ?_, below_next HW2.out (by omega) HB'.out⟩
              rw [HST.out] at hst
              cases hst
              exact HI.out
theorem Cls.at {w : World} {b : Nat} {cs : List Value} (h : Cls w b cs) (k : Nat) (v : Value) (hk : cs[k]? = some v) : w.cell? ⟨b, k, none⟩ = some v := (h k v hk).1
def haltC : Value := .agg #[.int .i64 26, .int .i64 0, .int .i64 0, .int .i64 0, .int .u32 0, .int .i64 0]
theorem pwithin_no (lo hi : Int) (w : World) : Calls Tryz.prog 158 #[.int .i64 0, .bool false, .int .i64 lo, .int .i64 hi] w fun e w' => e = .returned (.bool true) ∧ w = w' := by
  go_enter Tryz.func158, Tryz.ntmps158
  go_wp2_with fail
  go_ret
  exact ⟨rfl, rfl⟩
theorem isLast_halt (w : World) : Calls Tryz.prog 112 #[.int .i64 26] w fun e w' => e = .returned (.bool true) ∧ w = w' := by
  go_enter Tryz.func112, Tryz.ntmps112
  go_wp2_with fail
  go_ret
  exact ⟨rfl, rfl⟩
theorem isBranch_halt (w : World) : Calls Tryz.prog 49 #[.int .i64 26] w fun e w' => e = .returned (.bool false) ∧ w = w' := by
  go_enter Tryz.func49, Tryz.ntmps49
  go_wp2_with fail
  go_ret
  exact ⟨rfl, rfl⟩
theorem regs_first (w : World) : Calls Tryz.prog 269 #[.agg #[]] w fun e w' => e = .returned (.int .i64 10) ∧ Below w.heap.size w w' := by
  have HB := Lib.hid ((Below.refl w.heap.size w).alloc (Nat.le_refl _) (.cells #[] 142))
  go_enter Tryz.func269, Tryz.ntmps269
  go_wp2_with fail
  go_ret
  exact ⟨rfl, HB.out⟩
theorem regs_second (w : World) : Calls Tryz.prog 283 #[.agg #[]] w fun e w' => e = .returned (.int .i64 4) ∧ Below w.heap.size w w' := by
  have HB := Lib.hid ((Below.refl w.heap.size w).alloc (Nat.le_refl _) (.cells #[] 143))
  go_enter Tryz.func283, Tryz.ntmps283
  go_wp2_with fail
  go_ret
  exact ⟨rfl, HB.out⟩
theorem fieldsOf_halt (w : World) : Calls Tryz.prog 157 #[.int .i64 26] w fun e w' => e = .returned (.tuple #[.agg #[.bool false, .bool false, .bool false, .bool false, .bool false, .bool false], .bool true]) ∧ Below w.heap.size w w' := by
  go_enter Tryz.func157, Tryz.ntmps157
  go_wp2_with fail
  refine bodyPost_ret (v := .tuple #[.agg #[.bool false, .bool false, .bool false, .bool false, .bool false, .bool false], .bool true]) (Cls.res2 (cs := [.bool false, .bool false, .bool false, .bool false, .bool false, .bool false]) Cls.made rfl rfl rfl Tryz.underlying215 rfl (by kernel_rfl)) rfl ⟨rfl, (Below.refl _ w).alloc (Nat.le_refl _) _⟩
set_option maxHeartbeats 2000000 in
theorem isCode_halt (w : World) : Calls Tryz.prog 111 #[haltC, .int .i64 0, .int .i64 1] w fun e w' => e = .returned (.bool true) ∧ Below w.heap.size w w' := by
  unfold haltC
  have C1 := Lib.hid fieldsOf_halt
  have C2 := Lib.hid pwithin_no
  obtain ⟨W1, hW1⟩ : ∃ W, w.alloc (.cells #[.int .i64 26, .int .i64 0, .int .i64 0, .int .i64 0, .int .u32 0, .int .i64 0] 76) = W := ⟨_, rfl⟩
  have BB : Hid (Below w.heap.size w W1) := by rw [← hW1]; exact (Below.refl _ _).alloc (Nat.le_refl _) _
  have hs : w.heap.size < W1.heap.size := by rw [← hW1]; simp
  have HC : Hid (Cls W1 w.heap.size [.int .i64 26, .int .i64 0, .int .i64 0, .int .i64 0, .int .u32 0, .int .i64 0]) := by rw [← hW1]; exact Cls.made
  have x0 := HC.out.at 0 (.int .i64 26) rfl
  go_enter Tryz.func111, Tryz.ntmps111
  go_wp2_with (first | (go_at_call 157; with_reducible refine (C1.out _).mono ?_; rintro e w2 ⟨rfl, hb2⟩; have HC2 := HC.out.below hs hb2; have x1 := HC2.at 1 (.int .i64 0) rfl; have x2 := HC2.at 2 (.int .i64 0) rfl; have x3 := HC2.at 3 (.int .i64 0) rfl; have x4 := HC2.at 4 (.int .u32 0) rfl; have x5 := HC2.at 5 (.int .i64 0) rfl; have hl2 : w.heap.size < w2.heap.size := Nat.lt_of_lt_of_le hs hb2.size; have hne : ¬ w.heap.size = w2.heap.size := (by omega); have HB2 := Lib.hid ((below_next BB.out (by omega) hb2).alloc (by omega) (.cells #[.bool false, .bool false, .bool false, .bool false, .bool false, .bool false] 215)); clear HC2 hb2 x0) | (go_at_call 158; with_reducible refine (C2.out _ _ _).mono ?_; rintro e w' ⟨rfl, rfl⟩))
  go_ret
  exact ⟨rfl, HB2.out⟩
end Go.Proofs.YtaegpeofecdhfaaGreat
namespace Go.Proofs
open Go.Shelf Go.RowKit Go.Lib
def Tryz.contC_ren : Go.Shelf.Ren := ⟨fun | 8 => 109 | 6 => 156 | n => n, fun | 22 => 74 | 23 => 76 | 25 => 176 | 4 => 4 | 3 => 3 | 0 => 0 | n => n, fun | n => n⟩
theorem Tryz.contC : Go.Proofs.SlLaysH0.n8 Tryz.prog Tryz.contC_ren := {
  mixed := by kernel_rfl
  f6 := ⟨Tryz.f156.name, by decide, Tryz.func156.trans (congrArg some (by kernel_rfl))⟩
  f8 := ⟨Tryz.f109.name, by decide, Tryz.func109.trans (congrArg some (by kernel_rfl))⟩
  t0 := Tryz.underlying0
  a0 := Tryz.isAgg0
  z0 := Tryz.sizeOf0
  v0 := Tryz.zeroValue0
  t3 := Tryz.underlying3
  a3 := Tryz.isAgg3
  z3 := Tryz.sizeOf3
  v3 := Tryz.zeroValue3
  t4 := Tryz.underlying4
  a4 := Tryz.isAgg4
  z4 := Tryz.sizeOf4
  v4 := Tryz.zeroValue4
  t22 := Tryz.underlying74
  a22 := Tryz.isAgg74
  z22 := Tryz.sizeOf74
  v22 := Tryz.zeroValue74
  t25 := Tryz.underlying176
  a25 := Tryz.isAgg176
  z25 := Tryz.sizeOf176
  v25 := Tryz.zeroValue176 }
end Go.Proofs
namespace Go.Proofs.YtaegpeofecdhfaaGreat
open Go.RowKit Go.Maps
set_option linter.unusedVariables false
set_option linter.unusedSimpArgs false
def haltL : List Value := [.int .i64 26, .int .i64 0, .int .i64 0, .int .i64 0, .int .u32 0, .int .i64 0]
structure HaltAt (w : World) (b1 b0 : Nat) : Prop where
  s : w.cell? ⟨b1, 0, none⟩ = some (.slice (some ⟨b0, 0, none⟩) 1 1)
  o : w.cell? ⟨b0, 0, none⟩ = some (.int .i64 26)
  d : w.cell? ⟨b0, 1, none⟩ = some (.int .i64 0)
  a : w.cell? ⟨b0, 2, none⟩ = some (.int .i64 0)
  b : w.cell? ⟨b0, 3, none⟩ = some (.int .i64 0)
  i : w.cell? ⟨b0, 4, none⟩ = some (.int .u32 0)
  t : w.cell? ⟨b0, 5, none⟩ = some (.int .i64 0)
theorem HaltAt.below {w w' : World} {b1 b0 : Nat} (h : HaltAt w b1 b0) (hb : Below w.heap.size w w') : HaltAt w' b1 b0 := by
  have h1 := cell_lt h.s
  have h0 := cell_lt h.o
  exact ⟨below_cell hb h1 h.s, below_cell hb h0 h.o, below_cell hb h0 h.d, below_cell hb h0 h.a, below_cell hb h0 h.b, below_cell hb h0 h.i, below_cell hb h0 h.t⟩
theorem HaltAt.lt1 {w : World} {b1 b0 : Nat} (h : HaltAt w b1 b0) : b1 < w.heap.size := cell_lt h.s
theorem HaltAt.lt0 {w : World} {b1 b0 : Nat} (h : HaltAt w b1 b0) : b0 < w.heap.size := cell_lt h.o
theorem pv1_halt (B b1 : Nat) (w : World) (p0 : w.cell? ⟨B, 0, none⟩ = some (.int .i64 0)) (p1 : w.cell? ⟨B, 1, none⟩ = some (.slice (some ⟨b1, 0, none⟩) 1 1)) :
    Calls Tryz.prog 110 #[haltC, .pointer (some ⟨B, 0, none⟩)] w fun e w' => e = .returned (.bool false) ∧ Below w.heap.size w w' := by
  unfold haltC
  have C := Lib.hid isCode_halt
  unfold haltC at C
  have hl := cell_lt p0
  have hne : ¬ B = w.heap.size := by omega
  have HB := Lib.hid ((Below.refl w.heap.size w).alloc (Nat.le_refl _) (.cells #[.int .i64 26, .int .i64 0, .int .i64 0, .int .i64 0, .int .u32 0, .int .i64 0] 76))
  go_enter Tryz.func110, Tryz.ntmps110
  go_wp2_with (go_at_call 111; with_reducible refine (C.out _).mono ?_; rintro e w2 ⟨rfl, hb2⟩)
  go_ret
  exact ⟨rfl, below_next HB.out (by simp) hb2⟩
theorem egv1 : ∀ args w, (callFunc 110 args).run Tryz.prog w = .ok (.enter 110 args) w := enters_of Tryz.func110 (by kernel_rfl) rfl
theorem contC_halt (B b1 b0 : Nat) (w : World) (h : HaltAt w b1 b0) (p0 : w.cell? ⟨B, 0, none⟩ = some (.int .i64 0)) (p1 : w.cell? ⟨B, 1, none⟩ = some (.slice (some ⟨b1, 0, none⟩) 1 1)) :
    Calls Tryz.prog 109 #[.slice (some ⟨b0, 0, none⟩) 1 1, .func (.func 110) #[] #[.pointer (some ⟨B, 0, none⟩)]] w fun e w' => e = .returned (.bool false) ∧ Below w.heap.size w w' := by
  have hl := cell_lt p0
  refine (AnyQ.slices_ContainsFunc Tryz.contC (α := Unit) 6 Tryz.isAgg76 Tryz.sizeOf76 (fun _ => haltL) (fun _ => rfl) (fun _ => false) 110 #[.pointer (some ⟨B, 0, none⟩)] egv1 b0 0 1 1 [()] w (fun W x hb => ?_) (by simp) (by decide) h.lt0 (fun j hj i v hi => ?_)).mono fun e w' ⟨he, hb⟩ => ⟨he, hb⟩
  · exact (pv1_halt B b1 W (below_cell hb hl p0) (below_cell hb hl p1)).mono fun e w' ⟨he, h'⟩ => ⟨he, hb.trans (h'.mono hb.size)⟩
  · obtain rfl : j = 0 := by simp at hj; omega
    match i, hi with
    | 0, hi => simp [haltL] at hi; rw [← hi]; exact h.o
    | 1, hi => simp [haltL] at hi; rw [← hi]; exact h.d
    | 2, hi => simp [haltL] at hi; rw [← hi]; exact h.a
    | 3, hi => simp [haltL] at hi; rw [← hi]; exact h.b
    | 4, hi => simp [haltL] at hi; rw [← hi]; exact h.i
    | 5, hi => simp [haltL] at hi; rw [← hi]; exact h.t
    | i + 6, hi => simp [haltL] at hi
theorem psize_halt (b1 b0 : Nat) (w : World) (h : HaltAt w b1 b0) : Calls Tryz.prog 108 #[.agg #[.int .i64 0, .slice (some ⟨b1, 0, none⟩) 1 1]] w fun e w' => e = .returned (.int .i64 1) ∧ Below w.heap.size w w' := by
  have HB := Lib.hid ((Below.refl w.heap.size w).alloc (Nat.le_refl _) (.cells #[.int .i64 0, .slice (some ⟨b1, 0, none⟩) 1 1] 46))
  have h1 := h.lt1
  have hne : ¬ b1 = w.heap.size := by omega
  have s := h.s
  clear h
  go_enter Tryz.func108, Tryz.ntmps108
  go_wp2_with fail
  go_loopw [3, 9] (fun s i wr => ∃ j : Nat, j ≤ 1 ∧ s = .int .i64 j ∧ i = .int .i64 j ∧ wr = w.alloc (.cells #[.int .i64 0, .slice (some ⟨b1, 0, none⟩) 1 1] 46)) (fun _ i _ => 1 - (intOf i).toNat)
  case atStart => exact ⟨0, by omega, rfl, rfl, rfl⟩
  case round =>
    obtain ⟨j, hj, rfl, rfl, rfl⟩ := hrel
    rcases (show j = 0 ∨ j = 1 by omega) with rfl | rfl
    · go_wp2_with fail
      go_roundw
      case rel => exact ⟨1, by omega, by simp⟩
      case measure => simp [intOf]
    · go_wp2_with fail
      go_ret
      exact ⟨rfl, HB.out⟩
set_option maxHeartbeats 2000000 in
theorem pValidate_halt (b1 b0 : Nat) (w : World) (h : HaltAt w b1 b0) : Calls Tryz.prog 84 #[.agg #[.int .i64 0, .slice (some ⟨b1, 0, none⟩) 1 1]] w fun e w' => e = .returned (.int .i64 0) ∧ Below w.heap.size w w' := by
  obtain ⟨W1, hW1⟩ : ∃ W, w.alloc (.cells #[.int .i64 0, .slice (some ⟨b1, 0, none⟩) 1 1] 46) = W := ⟨_, rfl⟩
  have BB : Hid (Below w.heap.size w W1) := by rw [← hW1]; exact (Below.refl _ _).alloc (Nat.le_refl _) _
  have hs : w.heap.size < W1.heap.size := by rw [← hW1]; simp
  have p0 : W1.cell? ⟨w.heap.size, 0, none⟩ = some (.int .i64 0) := by rw [← hW1]; simp [go_sem]
  have p1 : W1.cell? ⟨w.heap.size, 1, none⟩ = some (.slice (some ⟨b1, 0, none⟩) 1 1) := by rw [← hW1]; simp [go_sem]
  have H1 : Hid (HaltAt W1 b1 b0) := h.below BB.out
  have P1 := Lib.hid p1
  have P0 := Lib.hid p0
  have C1 := Lib.hid (psize_halt b1 b0 W1 H1.out)
  have C2 := Lib.hid isLast_halt
  clear h
  go_enter Tryz.func84, Tryz.ntmps84
  go_wp2_with (go_at_call 108; with_reducible refine C1.out.mono ?_; rintro e w2 ⟨rfl, hb2⟩; have p1b := below_cell hb2 hs P1.out; have HB2 := Lib.hid hb2; clear hb2 p0 p1)
  go_loopw [36] (fun i wr => ∃ j : Int, (j = 0 ∨ j = 1) ∧ i = .int .i64 j ∧ Below W1.heap.size W1 wr) (fun i _ => 1 - (intOf i).toNat)
  case atStart => exact ⟨0, .inl rfl, rfl, HB2.out⟩
  case round =>
    obtain ⟨j, hj, rfl, hb⟩ := hrel
    have HB := Lib.hid hb
    have hbs := hb.size
    have q1 := below_cell hb hs P1.out
    have q0 := below_cell hb hs P0.out
    have HH := Lib.hid (H1.out.below hb)
    have s1 := HH.out.s
    rcases (show j = 0 ∨ j = 1 by omega) with rfl | rfl
    · have C3 := Lib.hid (contC_halt w.heap.size b1 b0 wr HH.out q0 q1)
      clear hb q0 q1
      go_wp2_with (go_at_call 109; with_reducible refine C3.out.mono ?_; rintro e w3 ⟨rfl, hb3⟩)
      go_roundw
      case rel => exact ⟨1, .inr rfl, rfl, below_next HB.out hbs hb3⟩
      case measure => simp [intOf]
    · clear hb
      obtain ⟨wo, rfl⟩ : ∃ wo : World, wo = wr := ⟨_, rfl⟩
      have o1 := HH.out.o
      go_wp2_with fail
      go_loopw [6, 7, 47, 53] (fun _ _ i _ wr => ∃ j : Int, (j = 0 ∨ j = 1) ∧ i = .int .i64 j ∧ Below wo.heap.size wo wr) (fun _ _ i _ _ => 1 - (intOf i).toNat)
      case atStart => exact ⟨0, .inl rfl, rfl, Below.refl _ _⟩
      case round =>
        obtain ⟨j, hj, rfl, hb⟩ := hrel
        have HB' := Lib.hid hb
        have hbs' := hb.size
        have HHr := Lib.hid (HH.out.below hb)
        have s1 := HHr.out.s
        rcases (show j = 0 ∨ j = 1 by omega) with rfl | rfl
        · clear hb
          go_wp2_with fail
          obtain ⟨wz, rfl⟩ : ∃ wz : World, wz = wr := ⟨_, rfl⟩
          go_loopw [7, 53] (fun _ i wr => ∃ j : Int, (j = 0 ∨ j = 1) ∧ i = .int .i64 j ∧ Below wz.heap.size wz wr) (fun _ i _ => 1 - (intOf i).toNat)
          case atStart => exact ⟨0, .inl rfl, rfl, Below.refl _ _⟩
          case round =>
            obtain ⟨j, hj, rfl, hb⟩ := hrel
            have HBk := Lib.hid hb
            have o2 := (HHr.out.below hb).o
            rcases (show j = 0 ∨ j = 1 by omega) with rfl | rfl
            · clear hb
              go_wp2_with (go_at_call 112; with_reducible refine (C2.out _).mono ?_; rintro e w' ⟨rfl, rfl⟩)
              go_roundw
              case rel => exact ⟨1, .inr rfl, rfl, HBk.out⟩
              case measure => simp [intOf]
            · clear hb
              go_wp2_with fail
              go_roundw
              case rel => exact ⟨1, .inr rfl, rfl, below_next HB'.out hbs' HBk.out⟩
              case measure => simp [intOf]
        · clear hb
          go_wp2_with fail
          go_ret
          exact ⟨rfl, below_next (below_next BB.out (by omega) HB.out) (by omega) HB'.out⟩
theorem meth_regs0 (n : Nat) (w : World) : Sem.run Tryz.prog (Go.method (n + 1) 142 (.agg #[]) ("backstay".push (Char.ofNat 47) ++ "place.registers")) w = .ok (269, .agg #[]) w := by kernel_rfl
theorem meth_regs1 (n : Nat) (w : World) : Sem.run Tryz.prog (Go.method (n + 1) 143 (.agg #[]) ("backstay".push (Char.ofNat 47) ++ "place.registers")) w = .ok (283, .agg #[]) w := by kernel_rfl
set_option maxHeartbeats 2000000 in
theorem asked_0 (b1 b0 : Nat) (w : World) (h : HaltAt w b1 b0) : Calls Tryz.prog 69 #[.int .i64 0, .agg #[.int .i64 0, .slice (some ⟨b1, 0, none⟩) 1 1]] w fun e w' => e = .returned (.tuple #[.iface 142 (.agg #[]), .int .i64 0]) ∧ Below w.heap.size w w' := by
  obtain ⟨W1, hW1⟩ : ∃ W, w.alloc (.cells #[.int .i64 0, .slice (some ⟨b1, 0, none⟩) 1 1] 46) = W := ⟨_, rfl⟩
  have BB : Hid (Below w.heap.size w W1) := by rw [← hW1]; exact (Below.refl _ _).alloc (Nat.le_refl _) _
  have hs : w.heap.size < W1.heap.size := by rw [← hW1]; simp
  have p0 : W1.cell? ⟨w.heap.size, 0, none⟩ = some (.int .i64 0) := by rw [← hW1]; simp [go_sem]
  have p1 : W1.cell? ⟨w.heap.size, 1, none⟩ = some (.slice (some ⟨b1, 0, none⟩) 1 1) := by rw [← hW1]; simp [go_sem]
  have P0 := Lib.hid p0
  have C1 := Lib.hid (pValidate_halt b1 b0 W1 (h.below BB.out))
  have C2 := Lib.hid regs_first
  clear h
  go_enter Tryz.func69, Tryz.ntmps69
  go_wp2_with (go_at_call 84; with_reducible refine C1.out.mono ?_; rintro e w2 ⟨rfl, hb2⟩; have p0b := below_cell hb2 hs P0.out; have HB2 := Lib.hid hb2; clear hb2 p0 p1)
  have hl2 : w.heap.size < w2.heap.size := cell_lt p0b
  generalize hW3 : w2.alloc (.cells #[.iface 142 (.agg #[]), .iface 143 (.agg #[])] 103) = W3
  have B3 : Hid (Below w2.heap.size w2 W3) := by rw [← hW3]; exact (Below.refl _ _).alloc (Nat.le_refl _) _
  have HW3 : Hid (Below w.heap.size w W3) := below_next (below_next BB.out (by omega) HB2.out) (by omega) B3.out
  have p03 := below_cell B3.out hl2 p0b
  have r0 : ∀ wk, Since W3 wk → wk.cell? ⟨w.heap.size, 0, none⟩ = some (.int .i64 0) := fun wk h => h.cell p03
  have h00 := Since.refl W3
  have hl3 : w.heap.size < W3.heap.size := cell_lt p03
  clear hW3 p0b p03
  have hm := meth_regs0 386
  simp only [String.reducePush, String.reduceAppend, Nat.reduceAdd] at hm
  go_region_held3 (fun wk => Since W3 wk) (first | assumption | exact Since.drew (by assumption)) ((go_at_call 269; with_reducible refine (C2.out _).mono ?_; rintro e w1 ⟨rfl, hb1⟩; have hs1 := Since.next (by assumption) hb1))
  all_goals go_wp2_with fail
  all_goals refine bodyPost_ret (v := .tuple #[.iface 142 (.agg #[]), .int .i64 0]) (by simp [results, Tryz.results69, go_sem]) rfl ⟨rfl, ?_⟩
  all_goals exact below_next HW3.out (by omega) (by assumption)
set_option maxHeartbeats 2000000 in
theorem asked_1 (b1 b0 : Nat) (w : World) (h : HaltAt w b1 b0) : Calls Tryz.prog 69 #[.int .i64 1, .agg #[.int .i64 0, .slice (some ⟨b1, 0, none⟩) 1 1]] w fun e w' => e = .returned (.tuple #[.iface 143 (.agg #[]), .int .i64 0]) ∧ Below w.heap.size w w' := by
  obtain ⟨W1, hW1⟩ : ∃ W, w.alloc (.cells #[.int .i64 0, .slice (some ⟨b1, 0, none⟩) 1 1] 46) = W := ⟨_, rfl⟩
  have BB : Hid (Below w.heap.size w W1) := by rw [← hW1]; exact (Below.refl _ _).alloc (Nat.le_refl _) _
  have hs : w.heap.size < W1.heap.size := by rw [← hW1]; simp
  have p0 : W1.cell? ⟨w.heap.size, 0, none⟩ = some (.int .i64 0) := by rw [← hW1]; simp [go_sem]
  have p1 : W1.cell? ⟨w.heap.size, 1, none⟩ = some (.slice (some ⟨b1, 0, none⟩) 1 1) := by rw [← hW1]; simp [go_sem]
  have P0 := Lib.hid p0
  have C1 := Lib.hid (pValidate_halt b1 b0 W1 (h.below BB.out))
  have C2 := Lib.hid regs_second
  clear h
  go_enter Tryz.func69, Tryz.ntmps69
  go_wp2_with (go_at_call 84; with_reducible refine C1.out.mono ?_; rintro e w2 ⟨rfl, hb2⟩; have p0b := below_cell hb2 hs P0.out; have HB2 := Lib.hid hb2; clear hb2 p0 p1)
  have hl2 : w.heap.size < w2.heap.size := cell_lt p0b
  generalize hW3 : w2.alloc (.cells #[.iface 142 (.agg #[]), .iface 143 (.agg #[])] 103) = W3
  have B3 : Hid (Below w2.heap.size w2 W3) := by rw [← hW3]; exact (Below.refl _ _).alloc (Nat.le_refl _) _
  have HW3 : Hid (Below w.heap.size w W3) := below_next (below_next BB.out (by omega) HB2.out) (by omega) B3.out
  have p03 := below_cell B3.out hl2 p0b
  have r0 : ∀ wk, Since W3 wk → wk.cell? ⟨w.heap.size, 0, none⟩ = some (.int .i64 0) := fun wk h => h.cell p03
  have h00 := Since.refl W3
  have hl3 : w.heap.size < W3.heap.size := cell_lt p03
  clear hW3 p0b p03
  have hm := meth_regs1 386
  simp only [String.reducePush, String.reduceAppend, Nat.reduceAdd] at hm
  go_region_held3 (fun wk => Since W3 wk) (first | assumption | exact Since.drew (by assumption)) ((go_at_call 283; with_reducible refine (C2.out _).mono ?_; rintro e w1 ⟨rfl, hb1⟩; have hs1 := Since.next (by assumption) hb1))
  all_goals go_wp2_with fail
  all_goals refine bodyPost_ret (v := .tuple #[.iface 143 (.agg #[]), .int .i64 0]) (by simp [results, Tryz.results69, go_sem]) rfl ⟨rfl, ?_⟩
  all_goals exact below_next HW3.out (by omega) (by assumption)
theorem Cls.res1 {P : Program} {fn : Func} {p : Tmp} {ty : TypeId} {tmps : Array Value} {w : World} {b : Nat} {cs : List Value} {d : TypeDesc} (h : Cls w b cs) (hf : fn.results = #[.cell p ty]) (hp : tmps.getD p undef = .pointer (some ⟨b, 0, none⟩)) (hu : P.underlying ty = some d) (hd : d.isRow = true) (hi : (P.info? ty).map (·.size) = some cs.length) :
    (results fn tmps).run P w = .ok (.agg cs.toArray) w := by
  have hr : w.rangeAt b 0 cs := fun j v hj => by rw [Nat.zero_add]; exact (h j v hj).1
  have hp' : tmps[p]?.getD undef = .pointer (some ⟨b, 0, none⟩) := by simpa using hp
  simp [results, hf, hp', asAddr, run_loadVar_mid w b 0 ty cs d hr hu hd hi]
theorem formOf_40 (w : World) : Calls Tryz.prog 99 #[.int .i64 40] w fun e w' => e = .returned (.int .i64 9) ∧ w = w' := by
  go_enter Tryz.func99, Tryz.ntmps99
  go_wp2_with fail
  go_ret
  exact ⟨rfl, rfl⟩
theorem fits_9 (w : World) : Calls Tryz.prog 279 #[.int .i64 9, .int .i64 0] w fun e w' => e = .returned (.bool true) ∧ w = w' := by
  go_enter Tryz.func279, Tryz.ntmps279
  go_wp2_with fail
  go_ret
  exact ⟨rfl, rfl⟩
theorem code_9 (w : World) : Calls Tryz.prog 129 #[.int .i64 9] w fun e w' => e = .returned (.int .u32 115) ∧ w = w' := by
  go_enter Tryz.func129, Tryz.ntmps129
  go_wp2_with fail
  go_ret
  exact ⟨rfl, rfl⟩
theorem third_40 (w : World) : Calls Tryz.prog 130 #[.int .i64 40] w fun e w' => e = .returned (.int .u32 0) ∧ w = w' := by
  go_enter Tryz.func130, Tryz.ntmps130
  go_wp2_with fail
  go_ret
  exact ⟨rfl, rfl⟩
theorem has_9 (w : World) : Calls Tryz.prog 134 #[.int .i64 9] w fun e w' => e = .returned (.agg #[.bool false, .bool false, .bool false, .bool false]) ∧ Below w.heap.size w w' := by
  go_enter Tryz.func134, Tryz.ntmps134
  go_wp2_with fail
  refine bodyPost_ret (v := .agg #[.bool false, .bool false, .bool false, .bool false]) (Cls.res1 (cs := [.bool false, .bool false, .bool false, .bool false]) Cls.made rfl rfl Tryz.underlying199 rfl (by kernel_rfl)) rfl ⟨rfl, (Below.refl _ w).alloc (Nat.le_refl _) _⟩
set_option maxHeartbeats 2000000 in
theorem rvValidate_40 (w : World) : Calls Tryz.prog 278 #[.agg #[.int .i64 40, .int .i64 0, .int .i64 0, .int .i64 0, .int .i64 0]] w fun e w' => e = .returned (.int .i64 0) ∧ Below w.heap.size w w' := by
  have C1 := Lib.hid formOf_40
  have C2 := Lib.hid has_9
  have C3 := Lib.hid fits_9
  obtain ⟨W1, hW1⟩ : ∃ W, w.alloc (.cells #[.int .i64 40, .int .i64 0, .int .i64 0, .int .i64 0, .int .i64 0] 149) = W := ⟨_, rfl⟩
  have BB : Hid (Below w.heap.size w W1) := by rw [← hW1]; exact (Below.refl _ _).alloc (Nat.le_refl _) _
  have hs : w.heap.size < W1.heap.size := by rw [← hW1]; simp
  have HC : Hid (Cls W1 w.heap.size [.int .i64 40, .int .i64 0, .int .i64 0, .int .i64 0, .int .i64 0]) := by rw [← hW1]; exact Cls.made
  have x0 := HC.out.at 0 (.int .i64 40) rfl
  go_enter Tryz.func278, Tryz.ntmps278
  go_wp2_with (first | (go_at_call 99; with_reducible refine (C1.out _).mono ?_; rintro e w' ⟨rfl, rfl⟩) | (go_at_call 134; with_reducible refine (C2.out _).mono ?_; rintro e w2 ⟨rfl, hb2⟩; have HC2 := HC.out.below hs hb2; have x1 := HC2.at 1 (.int .i64 0) rfl; have x2 := HC2.at 2 (.int .i64 0) rfl; have x3 := HC2.at 3 (.int .i64 0) rfl; have x4 := HC2.at 4 (.int .i64 0) rfl; have hl2 : w.heap.size < w2.heap.size := Nat.lt_of_lt_of_le hs hb2.size; have hne : ¬ w.heap.size = w2.heap.size := (by omega); have HB2 := Lib.hid (below_next BB.out (by omega) hb2); clear HC2 hb2 x0))
  generalize hW4 : (w2.alloc (.cells #[.bool false, .bool false, .bool false, .bool false] 199)).alloc (.cells #[.int .i64 0, .int .i64 0, .int .i64 0] 3) = W4
  have hB4 : Below w2.heap.size w2 W4 := by rw [← hW4]; exact ((Below.refl _ _).alloc (Nat.le_refl _) _).alloc (by simp) _
  have HW4 : Hid (Below w.heap.size w W4) := below_next HB2.out (by omega) hB4
  have y4 := below_cell hB4 hl2 x4
  have h0 : W4.cell? ⟨w2.heap.size, 0, none⟩ = some (.bool false) := by rw [← hW4]; simp [go_sem]
  have h1 : W4.cell? ⟨w2.heap.size, 1, none⟩ = some (.bool false) := by rw [← hW4]; simp [go_sem]
  have h2 : W4.cell? ⟨w2.heap.size, 2, none⟩ = some (.bool false) := by rw [← hW4]; simp [go_sem]
  have i0 : W4.cell? ⟨w2.heap.size + 1, 0, none⟩ = some (.int .i64 0) := by rw [← hW4]; simp [go_sem]
  have i1 : W4.cell? ⟨w2.heap.size + 1, 1, none⟩ = some (.int .i64 0) := by rw [← hW4]; simp [go_sem]
  have i2 : W4.cell? ⟨w2.heap.size + 1, 2, none⟩ = some (.int .i64 0) := by rw [← hW4]; simp [go_sem]
  clear hW4 hB4 x1 x2 x3 x4
  go_loopw [5, 6, 20] (fun _ _ i wr => ∃ j : Int, (j = 0 ∨ j = 1 ∨ j = 2 ∨ j = 3) ∧ i = .int .i64 j ∧ W4 = wr) (fun _ _ i _ => 3 - (intOf i).toNat)
  case atStart => exact ⟨0, .inl rfl, rfl, rfl⟩
  case round =>
    obtain ⟨j, hj, rfl, rfl⟩ := hrel
    rcases hj with rfl | rfl | rfl | rfl
    · go_wp2_with fail
      go_roundw
      case rel => exact ⟨1, by simp, rfl, trivial⟩
      case measure => simp [intOf]
    · go_wp2_with fail
      go_roundw
      case rel => exact ⟨2, by simp, rfl, trivial⟩
      case measure => simp [intOf]
    · go_wp2_with fail
      go_roundw
      case rel => exact ⟨3, by simp, rfl, trivial⟩
      case measure => simp [intOf]
    · go_wp2_with (go_at_call 279; with_reducible refine (C3.out _).mono ?_; rintro e w' ⟨rfl, rfl⟩)
      go_ret
      exact ⟨rfl, HW4.out⟩
set_option maxHeartbeats 2000000 in
theorem rvencode_40 (w : World) : Calls Tryz.prog 137 #[.agg #[.int .i64 40, .int .i64 0, .int .i64 0, .int .i64 0, .int .i64 0]] w fun e w' => e = .returned (.int .u32 1048691) ∧ Below w.heap.size w w' := by
  have C1 := Lib.hid formOf_40
  have C2 := Lib.hid code_9
  have C3 := Lib.hid third_40
  obtain ⟨W1, hW1⟩ : ∃ W, w.alloc (.cells #[.int .i64 40, .int .i64 0, .int .i64 0, .int .i64 0, .int .i64 0] 149) = W := ⟨_, rfl⟩
  have BB : Hid (Below w.heap.size w W1) := by rw [← hW1]; exact (Below.refl _ _).alloc (Nat.le_refl _) _
  have hs : w.heap.size < W1.heap.size := by rw [← hW1]; simp
  have HC : Hid (Cls W1 w.heap.size [.int .i64 40, .int .i64 0, .int .i64 0, .int .i64 0, .int .i64 0]) := by rw [← hW1]; exact Cls.made
  have x0 := HC.out.at 0 (.int .i64 40) rfl
  have x1 := HC.out.at 1 (.int .i64 0) rfl
  have x2 := HC.out.at 2 (.int .i64 0) rfl
  have x3 := HC.out.at 3 (.int .i64 0) rfl
  have x4 := HC.out.at 4 (.int .i64 0) rfl
  go_enter Tryz.func137, Tryz.ntmps137
  go_wp2_with (go_at_call 99; with_reducible refine (C1.out _).mono ?_; rintro e w' ⟨rfl, rfl⟩)
  clear hW1
  go_quiet (first | (go_at_call 129; with_reducible exact quiet_same (C2.out _)) | (go_at_call 130; with_reducible exact quiet_same (C3.out _)))
  go_wp2_with fail
  go_ret
  exact ⟨rfl, below_drewN BB.out _⟩
theorem rvEncode_40 (w : World) : Calls Tryz.prog 277 #[.agg #[.int .i64 40, .int .i64 0, .int .i64 0, .int .i64 0, .int .i64 0]] w fun e w' => e = .returned (.tuple #[.int .u32 1048691, .int .i64 0]) ∧ Below w.heap.size w w' := by
  have C1 := Lib.hid rvValidate_40
  have C2 := Lib.hid rvencode_40
  obtain ⟨W1, hW1⟩ : ∃ W, w.alloc (.cells #[.int .i64 40, .int .i64 0, .int .i64 0, .int .i64 0, .int .i64 0] 149) = W := ⟨_, rfl⟩
  have BB : Hid (Below w.heap.size w W1) := by rw [← hW1]; exact (Below.refl _ _).alloc (Nat.le_refl _) _
  have hs : w.heap.size < W1.heap.size := by rw [← hW1]; simp
  have HC : Hid (Cls W1 w.heap.size [.int .i64 40, .int .i64 0, .int .i64 0, .int .i64 0, .int .i64 0]) := by rw [← hW1]; exact Cls.made
  have x0 := HC.out.at 0 (.int .i64 40) rfl
  have x1 := HC.out.at 1 (.int .i64 0) rfl
  have x2 := HC.out.at 2 (.int .i64 0) rfl
  have x3 := HC.out.at 3 (.int .i64 0) rfl
  have x4 := HC.out.at 4 (.int .i64 0) rfl
  go_enter Tryz.func277, Tryz.ntmps277
  go_wp2_with (first | (go_at_call 278; with_reducible refine (C1.out _).mono ?_; rintro e w2 ⟨rfl, hb2⟩; have HC2 := HC.out.below hs hb2; have y0 := HC2.at 0 (.int .i64 40) rfl; have y1 := HC2.at 1 (.int .i64 0) rfl; have y2 := HC2.at 2 (.int .i64 0) rfl; have y3 := HC2.at 3 (.int .i64 0) rfl; have y4 := HC2.at 4 (.int .i64 0) rfl; have HB2 := Lib.hid (below_next BB.out (by omega) hb2); have hw2 := HB2.out.size; clear HC2 hb2 x0 x1 x2 x3 x4) | (go_at_call 137; with_reducible refine (C2.out _).mono ?_; rintro e w3 ⟨rfl, hb3⟩))
  refine bodyPost_ret (v := .tuple #[.int .u32 1048691, .int .i64 0]) (by simp [results, Tryz.results277, go_sem]) rfl ⟨rfl, below_next HB2.out hw2 hb3⟩
theorem app_bytes {w : World} {ops : Array Oper} {rest : List Oper} {o : Oper} {a : Act} {Q : Exit → Act → World → Prop} (hgd : o.guard = none) (s x : Operand)
    (ho : o.op = .call { callee := .builtin .append, args := #[s, x], argTypes := #[22, 22] }) (base : Nat) (v : Value) (xs : List Int) (hs : a.eval s = v) (hown : RowI w base 5 .u8 v xs)
    (g m c : Nat) (ys : List Int) (hm : ys.length = m) (hx : a.eval x = .slice (some ⟨g, 0, none⟩) m c) (hy : ∀ j, j < m → w.cell? ⟨g, j, none⟩ = some (.int .u8 (ys.getD j 0))) (hl : xs.length + m ≤ 100000) (hbase : base ≤ w.heap.size)
    (h : ∀ v' w', RowI w' base 5 .u8 v' (xs ++ ys) → Below base w w' → w.grownBy w' v.ownBlock → wpList Tryz.prog ops Q rest (a.put o.dst v') w') : wpList Tryz.prog ops Q (o :: rest) a w := by
  obtain ⟨i0, hi0, hz0, hz1, hz2⟩ := info_parts info_u8b
  refine wpList_append_own (P := Tryz.prog) w hgd s x _ ho base 5 i0 (.int .u8 0) 1 1 Tryz.underlying22 hi0 hz0 hz1 hz2 rfl (by decide) v xs.length _ hs hown ⟨g, 0, none⟩ m c (ys.map (Value.int .u8)) hx (by simp [hm]) (fun j u hj => ?_) (fun u hu => ?_) ?_ ?_ hbase ?_
  · have hjl : j < ys.length := by
      rcases Nat.lt_or_ge j ys.length with h | h
      · exact h
      · rw [List.getElem?_eq_none (by simpa using h)] at hj; cases hj
    rw [List.getElem?_map, List.getElem?_eq_getElem hjl] at hj
    cases hj
    rw [addr_none, Nat.zero_add, hy j (by omega), List.getD_eq_getElem?_getD, List.getElem?_eq_getElem hjl]; rfl
  · obtain ⟨y, _, rfl⟩ := List.mem_map.1 hu
    rfl
  · unfold maxLen; omega
  · omega
  · intro v' w' hown' hg _
    exact h v' w' (RowI.app hown' (by rw [hm]) rfl) ((Below.refl _ _).grown hg hbase (own_ge hown)) hg
theorem RowI.base {w : World} {base base' : Nat} {e : TypeId} {k : IntKind} {v : Value} {xs : List Int} (h : RowI w base e k v xs) (hb : base' ≤ base) : RowI w base' e k v xs := World.ownsRow.mono h hb
def Rv40 (w : World) (g : Nat) : Prop := Cls w g [.int .i64 40, .int .i64 0, .int .i64 0, .int .i64 0, .int .i64 0]
set_option maxHeartbeats 2000000 in
theorem rvBytes_40 (g : Nat) (w : World) (h : Rv40 w g) : Calls Tryz.prog 275 #[.slice (some ⟨g, 0, none⟩) 1 1] w fun e w' => ∃ v, e = .returned (.tuple #[v, .int .i64 0]) ∧ RowI w' w.heap.size 5 .u8 v [115, 0, 16, 0] ∧ Below w.heap.size w w' := by
  have C1 := Lib.hid rvEncode_40
  have hg : g < w.heap.size := h.lt (by decide)
  have x0 := h.at 0 (.int .i64 40) rfl
  have x1 := h.at 1 (.int .i64 0) rfl
  have x2 := h.at 2 (.int .i64 0) rfl
  have x3 := h.at 3 (.int .i64 0) rfl
  have x4 := h.at 4 (.int .i64 0) rfl
  have hne : ¬ g = w.heap.size := by omega
  have BB := Lib.hid ((Below.refl w.heap.size w).alloc (Nat.le_refl _) (.cells #[.int .i64 40, .int .i64 0, .int .i64 0, .int .i64 0, .int .i64 0] 149))
  go_enter Tryz.func275, Tryz.ntmps275
  go_wp2_with fail
  go_loopw [4, 11] (fun v i wr => ((i = .int .i64 0 ∧ v = .slice none 0 0 ∧ w = wr) ∨ (i = .int .i64 1 ∧ RowI wr w.heap.size 5 .u8 v [115, 0, 16, 0] ∧ Below w.heap.size w wr))) (fun _ i _ => 1 - (intOf i).toNat)
  case atStart => exact .inl ⟨rfl, rfl, rfl⟩
  case round =>
    rcases hrel with ⟨rfl, rfl, rfl⟩ | ⟨rfl, hr, hb⟩
    · go_wp2_with (first | (go_at_call 277; with_reducible refine (C1.out _).mono ?_; rintro e w2 ⟨rfl, hb2⟩; have HB2 := Lib.hid (below_next BB.out (by simp) hb2); have hw2 := HB2.out.size; clear hb2) | (at_builtin; refine app_bytes rfl _ _ rfl w.heap.size _ [] rfl (RowI.nil _ _ _ _) w2.heap.size 4 4 [115, 0, 16, 0] rfl rfl (fun j hj => ?_) (by simp) (by simp; omega) (fun v' w4 hr4 hb4 hg4 => ?_)))
      · rcases (show j = 0 ∨ j = 1 ∨ j = 2 ∨ j = 3 by omega) with rfl | rfl | rfl | rfl <;> simp [go_sem]
      · exact ⟨.inr ⟨rfl, hr4, (HB2.out.alloc hw2 _).trans hb4⟩, by simp [intOf]⟩
    · go_wp2_with fail
      refine bodyPost_ret (v := .tuple #[_, .int .i64 0]) (by simp [results, Tryz.results275, go_sem]) rfl ⟨_, rfl, hr, hb⟩
set_option maxHeartbeats 2000000 in
theorem bytesOf_40 (g : Nat) (w : World) (h : Rv40 w g) : Calls Tryz.prog 271 #[.agg #[], .slice (some ⟨g, 0, none⟩) 1 1] w fun e w' => ∃ v, e = .returned v ∧ RowI w' w.heap.size 5 .u8 v [115, 0, 16, 0] ∧ Below w.heap.size w w' := by
  have hg : g < w.heap.size := h.lt (by decide)
  have B1 := Lib.hid ((Below.refl w.heap.size w).alloc (Nat.le_refl _) (.cells #[] 142))
  have C1 := Lib.hid (rvBytes_40 g (w.alloc (.cells #[] 142)) (h.below hg B1.out))
  go_enter Tryz.func271, Tryz.ntmps271
  go_wp2_with (go_at_call 275; with_reducible refine C1.out.mono ?_; rintro e w2 ⟨v, rfl, hr, hb⟩)
  go_ret
  exact ⟨_, rfl, hr.base (by simp), below_next B1.out (by simp) hb⟩
theorem reg_0 (w : World) : Calls Tryz.prog 272 #[.agg #[], .int .i64 0] w fun e w' => e = .returned (.int .i64 5) ∧ Below w.heap.size w w' := by
  have B1 := Lib.hid ((Below.refl w.heap.size w).alloc (Nat.le_refl _) (.cells #[] 142))
  go_enter Tryz.func272, Tryz.ntmps272
  go_wp2_with fail
  go_ret
  exact ⟨rfl, B1.out⟩
set_option maxHeartbeats 4000000 in
theorem plain_0 (w : World) : Calls Tryz.prog 267 #[.agg #[], haltC] w fun e w' => ∃ v, e = .returned v ∧ RowI w' w.heap.size 5 .u8 v [115, 0, 16, 0] ∧ Below w.heap.size w w' := by
  unfold haltC
  have C1 := Lib.hid reg_0
  obtain ⟨W1, hW1⟩ : ∃ W, (w.alloc (.cells #[] 142)).alloc (.cells #[.int .i64 26, .int .i64 0, .int .i64 0, .int .i64 0, .int .u32 0, .int .i64 0] 76) = W := ⟨_, rfl⟩
  have BB : Hid (Below w.heap.size w W1) := by rw [← hW1]; exact ((Below.refl _ _).alloc (Nat.le_refl _) _).alloc (by simp) _
  have e1 : W1.heap.size = w.heap.size + 2 := by rw [← hW1]; simp
  have q0 : W1.cell? ⟨w.heap.size + 1, 0, none⟩ = some (.int .i64 26) := by rw [← hW1]; simp [go_sem]
  have q1 : W1.cell? ⟨w.heap.size + 1, 1, none⟩ = some (.int .i64 0) := by rw [← hW1]; simp [go_sem]
  have q2 : W1.cell? ⟨w.heap.size + 1, 2, none⟩ = some (.int .i64 0) := by rw [← hW1]; simp [go_sem]
  have q3 : W1.cell? ⟨w.heap.size + 1, 3, none⟩ = some (.int .i64 0) := by rw [← hW1]; simp [go_sem]
  have r1 : ∀ wk, Since W1 wk → wk.cell? ⟨w.heap.size + 1, 1, none⟩ = some (.int .i64 0) := fun wk h => h.cell q1
  have r2 : ∀ wk, Since W1 wk → wk.cell? ⟨w.heap.size + 1, 2, none⟩ = some (.int .i64 0) := fun wk h => h.cell q2
  have r3 : ∀ wk, Since W1 wk → wk.cell? ⟨w.heap.size + 1, 3, none⟩ = some (.int .i64 0) := fun wk h => h.cell q3
  have R0 : Hid (∀ wk, Since W1 wk → wk.cell? ⟨w.heap.size + 1, 0, none⟩ = some (.int .i64 26)) := fun wk h => h.cell q0
  have h00 := Since.refl W1
  go_enter Tryz.func267, Tryz.ntmps267
  go_wp2_with fail
  clear hW1 q0 q1 q2 q3
  have E1 := Lib.hid e1
  clear e1
  go_region_held3 (fun wk => Since W1 wk) (first | assumption | exact Since.drew (by assumption)) ((go_at_call 272; with_reducible refine (C1.out _).mono ?_; rintro e w1 ⟨rfl, hb1⟩; have hs1 := Since.next (by assumption) hb1))
  all_goals
    have hS : Since W1 w1 := by assumption
    have q0 := R0.out _ hS
    have hsz := hS.size
    have hE := E1.out
    have hlt : w.heap.size + 1 < w1.heap.size := by omega
    have C3 := Lib.hid (bytesOf_40 w1.heap.size (w1.alloc (.cells #[.int .i64 40, .int .i64 0, .int .i64 0, .int .i64 0, .int .i64 0] 149)) Cls.made)
    have B3 : Hid (Below w.heap.size w (w1.alloc (.cells #[.int .i64 40, .int .i64 0, .int .i64 0, .int .i64 0, .int .i64 0] 149))) := (below_next BB.out (by omega) hS).alloc (by omega) _
    clear hE hS r1 r2 r3 h00 hsz
    go_wp2_with (go_at_call 271; with_reducible refine C3.out.mono ?_; rintro e w3 ⟨v, rfl, hr3, hb3⟩)
    go_ret
    exact ⟨_, rfl, hr3.base (by simp; omega), below_next B3.out (by simp; omega) hb3⟩
end Go.Proofs.YtaegpeofecdhfaaGreat
