/- -/
import Derived.BigQuiet
import Derived.BigRegion
import Derived.Test.YtaegpeofecdhfaaGreatB1
import Derived.Test.YtaegpeofecdhfaaGreatB5
set_option maxRecDepth 100000
namespace Go.Proofs.YtaegpeofecdhfaaGreat
open Go.RowKit Go.Maps
set_option linter.unusedVariables false
set_option linter.unusedSimpArgs false
def bigO (o : Ob) : Bool := decide ((9000 : Int) < (o.b.length : Int)) || decide ((70 : Int) < (o.s.length : Int)) || decide ((70 : Int) < (o.t.length : Int))
def longB (l : List Ob) : Bool := l.any bigO || decide ((8 : Int) < (l.length : Int))
theorem longB_hit {l : List Ob} {j : Nat} (hj : j < l.length) (h : bigO (l.getD j default) = true) : longB l = true := by
  unfold longB
  have : l.any bigO = true := by have := any_take_hit (n := l.length) hj hj h; rwa [List.take_length] at this
  rw [this]; rfl
theorem long22 (l : List Ob) (lv : Value) (w : World) (h : Obs w lv l) : Calls Tryz.prog 11 #[lv] w fun e w' => e = .returned (.bool (longB l)) ∧ w = w' := by
  obtain ⟨a, c, rfl, h1, h2, h3⟩ := h.shape
  have HR := Lib.hid h3
  clear h h3
  go_enter Tryz.func11, Tryz.ntmps11
  go_wp2_with fail
  go_loop [3] (fun i => ∃ j : Nat, j ≤ l.length ∧ i = .int .i64 j ∧ Hid ((l.take j).any bigO = false)) (fun i => l.length - (intOf i).toNat)
  case atStart => exact ⟨0, Nat.zero_le _, rfl, rfl⟩
  case round =>
    obtain ⟨j, hj, rfl, hno⟩ := hrel
    by_cases hjl : j < l.length
    · obtain ⟨b, q, ea, hbl, vb, vs, vt, y0, y1, y2, hx⟩ := HR.out j hjl
      subst ea
      obtain ⟨ba, cb, rfl, _, _⟩ := hx.1.shape2
      obtain ⟨sa, cs, rfl, _⟩ := hx.2.1.shape
      obtain ⟨ta, ct, rfl, _⟩ := hx.2.2.shape
      generalize hlo : l.getD j default = oj at *
      have HO := Lib.hid hlo
      clear hlo hx
      cases g1 : decide ((9000 : Int) < (oj.b.length : Int))
      case true =>
        have HT : Hid (longB l = true) := longB_hit hjl (by rw [HO.out, bigO, g1]; rfl)
        go_wp2_with fail
        go_ret
        exact ⟨ret_b HT.out.symm, rfl⟩
      case false =>
        cases g2 : decide ((70 : Int) < (oj.s.length : Int))
        case true =>
          have HT : Hid (longB l = true) := longB_hit hjl (by rw [HO.out, bigO, g1, g2]; rfl)
          go_wp2_with fail
          go_ret
          exact ⟨ret_b HT.out.symm, rfl⟩
        case false =>
          cases g3 : decide ((70 : Int) < (oj.t.length : Int))
          case true =>
            have HT : Hid (longB l = true) := longB_hit hjl (by rw [HO.out, bigO, g1, g2, g3]; rfl)
            go_wp2_with fail
            go_ret
            exact ⟨ret_b HT.out.symm, rfl⟩
          case false =>
            have HN : Hid ((l.take (j + 1)).any bigO = false) := any_take_step hjl hno.out (by rw [HO.out, bigO, g1, g2, g3]; rfl)
            go_wp2_with fail
            go_round
            case rel => exact ⟨j + 1, by omega, by go_num, HN.out⟩
            case measure => simp [intOf]; omega
    · obtain rfl : j = l.length := by omega
      have HT : Hid (longB l = decide ((8 : Int) < (l.length : Int))) := by
        refine Lib.hid ?_
        have := hno.out
        rw [List.take_length] at this
        unfold longB
        rw [this]; rfl
      go_wp2_with fail
      go_ret
      exact ⟨ret_b HT.out.symm, rfl⟩
theorem Ob3.one {w W : World} {vb vs vt : Value} {o : Ob} {g : Nat} (h : Ob3 w vb vs vt o) (hb : Below w.heap.size w W) (hc : Cls W g [vb, vs, vt]) : Obs W (.slice (some ⟨g, 0, none⟩) 1 1) [o] := by
  refine ⟨some ⟨g, 0, none⟩, 1, rfl, Nat.le_refl _, ⟨by simp, by omega⟩, (fun hh => by cases hh), fun i hi => ⟨g, 0, rfl, hc.lt (by simp), ?_⟩⟩
  obtain rfl : i = 0 := by simp at hi; omega
  exact ⟨vb, vs, vt, hc.at 0 _ rfl, hc.at 1 _ rfl, hc.at 2 _ rfl, h.stays hb⟩
set_option maxHeartbeats 2000000 in
theorem wPlaceObjects (o : Ob) (vb vs vt : Value) (w : World) (h : Ob3 w vb vs vt o) : Calls Tryz.prog 3 #[.agg #[vb, vs, vt]] w fun e w' => e = .returned (.bool true) ∧ Below w.heap.size w w' := by
  obtain ⟨ba, cb, rfl, _, _⟩ := h.1.shape2
  obtain ⟨sa, cs, rfl, _⟩ := h.2.1.shape
  obtain ⟨ta, ct, rfl, _⟩ := h.2.2.shape
  obtain ⟨W2, hW2⟩ : ∃ W, (w.alloc (.cells #[.slice ba o.b.length cb, .slice sa o.s.length cs, .slice ta o.t.length ct] 26)).alloc (.cells #[.slice ba o.b.length cb, .slice sa o.s.length cs, .slice ta o.t.length ct] 26) = W := ⟨_, rfl⟩
  have BB : Hid (Below w.heap.size w W2) := by rw [← hW2]; exact ((Below.refl _ _).alloc (Nat.le_refl _) _).alloc (by simp) _
  have HC : Hid (Cls W2 w.heap.size [.slice ba o.b.length cb, .slice sa o.s.length cs, .slice ta o.t.length ct]) := by
    refine Lib.hid ?_
    rw [← hW2]
    intro k v hk
    match k, hk with
    | 0, hk => simp at hk; subst hk; simp [go_sem]
    | 1, hk => simp at hk; subst hk; simp [go_sem]
    | 2, hk => simp at hk; subst hk; simp [go_sem]
    | k + 3, hk => simp at hk
  have HC1 : Hid (Cls W2 (w.heap.size + 1) [.slice ba o.b.length cb, .slice sa o.s.length cs, .slice ta o.t.length ct]) := by
    refine Lib.hid ?_
    rw [← hW2]
    intro k v hk
    match k, hk with
    | 0, hk => simp at hk; subst hk; simp [go_sem]
    | 1, hk => simp at hk; subst hk; simp [go_sem]
    | 2, hk => simp at hk; subst hk; simp [go_sem]
    | k + 3, hk => simp at hk
  have HO := Lib.hid (h.stays BB.out)
  have C1 := Lib.hid (long22 [o] _ W2 (h.one BB.out HC1.out))
  have C2 := Lib.hid (fun wk (hb : Since W2 wk) => pVal_any o _ _ _ wk (HO.out.stays hb))
  have C3 := Lib.hid (fun wk (hb : Since W2 wk) => by have := rVal_any o _ _ _ wk (HO.out.stays hb); rw [← valO_ref] at this; exact this)
  have C4 := Lib.hid known22
  have r0 : ∀ wk, Since W2 wk → wk.cell? ⟨w.heap.size, 0, none⟩ = some (.slice ba o.b.length cb) := fun wk hk => hk.cell (HC.out.at 0 _ rfl)
  have r1 : ∀ wk, Since W2 wk → wk.cell? ⟨w.heap.size, 1, none⟩ = some (.slice sa o.s.length cs) := fun wk hk => hk.cell (HC.out.at 1 _ rfl)
  have r2 : ∀ wk, Since W2 wk → wk.cell? ⟨w.heap.size, 2, none⟩ = some (.slice ta o.t.length ct) := fun wk hk => hk.cell (HC.out.at 2 _ rfl)
  have h00 := Since.refl W2
  have R0 := Lib.hid r0
  have R1 := Lib.hid r1
  have R2 := Lib.hid r2
  clear h r0 r1 r2
  cases hl : longB [o] with
  | true =>
    rw [hl] at C1
    go_enter Tryz.func3, Tryz.ntmps3
    go_wp2_with (first | (go_at_call 11; with_reducible refine C1.out.mono ?_; rintro e w' ⟨rfl, rfl⟩) | (go_at_call 12; with_reducible refine (C4.out _).mono ?_; rintro e w2 ⟨rfl, hb2⟩))
    go_ret
    exact ⟨rfl, below_hop BB.out hb2⟩
  | false =>
    rw [hl] at C1
    go_enter Tryz.func3, Tryz.ntmps3
    go_wp2_with (go_at_call 11; with_reducible refine C1.out.mono ?_; rintro e w' ⟨rfl, rfl⟩)
    clear hW2
    have r0 := R0.out
    have r1 := R1.out
    have r2 := R2.out
    generalize valO o = z at *
    go_region_held3 (fun wk => Since W2 wk) (first | assumption | exact Since.drew (by assumption)) (first | ((go_at_call 13; with_reducible refine (C2.out _ (by assumption)).mono ?_); rintro e w1 ⟨rfl, hb1⟩; have hs1 := Since.next (by assumption) hb1) | ((go_at_call 14; with_reducible refine (C3.out _ (by assumption)).mono ?_); rintro e w2 ⟨rfl, hb2⟩; have hs2 := Since.next (by assumption) hb2) | ((go_at_call 12; with_reducible refine (C4.out _).mono ?_); rintro e w3 ⟨rfl, hb3⟩; have hs3 := Since.next (by assumption) hb3))
    all_goals
      have HS : Hid (Since W2 w3) := Lib.hid (by assumption)
      go_wp2_with fail
      go_ret
      exact ⟨rfl, below_hop BB.out HS.out⟩
end Go.Proofs.YtaegpeofecdhfaaGreat
namespace Go.Proofs.YtaegpeofecdhfaaGreat
open Go.RowKit Go.WideShapes Go.ChangeShapes Go.Deep
set_option linter.unusedVariables false
set_option linter.unusedSimpArgs false
section
variable {H : Type} {enc : TypeId × Value → H} {P : Program} {W : World} {base : Nat} {held : Bool}
theorem readOb {e es ew eb ts tw : TypeId} {f0 f1 f2 s0 s1 g0 g1 g2 g3 : Field} (T : ObTy P e es ew eb ts tw f0 f1 f2 s0 s1 g0 g1 g2 g3) {r : Reach} {b0 : Nat} {v : Value} {d : DataW H} {p : List MemPlace} (hv : Value.okWide P W r b0 e v) (h : DataW.Trod enc P W base (fun _ => true) held e v d p) (hw : ∀ n ∈ d.weights P e, n ≤ reachBytes) :
    ∃ (vb vs vt : Value) (x : Ob), v = .agg #[vb, vs, vt] ∧ Ob3 W vb vs vt x ∧ ObF x := by
  obtain ⟨cs, rfl, hsz⟩ := okWide_struct T.st hv
  obtain ⟨fuel, hf⟩ := h
  obtain ⟨l⟩ := cs
  have hf1 : DataW.trod enc P W base (fun _ => true) held fuel e l = some (d, p) := hf
  have hl : l.length = 3 := by rw [← T.z.1]; simpa using hsz
  match l, hl with
  | [v0, v1, v2], _ =>
    obtain ⟨x, h1, h2⟩ := readOb3 T hf1 hw
    exact ⟨v0, v1, v2, x, rfl, h1, h2⟩
end
end Go.Proofs.YtaegpeofecdhfaaGreat
namespace Go.Proofs.YtaegpeofecdhfaaGreat
open Go.RowKit Go.Maps
set_option linter.unusedVariables false
set_option linter.unusedSimpArgs false
theorem oRow {w : World} {a : Option Addr} {l : List Ob} (h : ∀ i, i < l.length → ∃ b o, a = some ⟨b, o, none⟩ ∧ b < w.heap.size ∧ ObAt w b (o + i * 3) (l.getD i default)) {j : Nat} (hj : j < l.length) :
    ∃ b q ba cb sa cs ta ct, a = some ⟨b, q, none⟩ ∧ b < w.heap.size ∧ w.cell? ⟨b, q + j * 3, none⟩ = some (.slice ba (l.getD j default).b.length cb) ∧ w.cell? ⟨b, q + j * 3 + 1, none⟩ = some (.slice sa (l.getD j default).s.length cs) ∧ w.cell? ⟨b, q + j * 3 + 2, none⟩ = some (.slice ta (l.getD j default).t.length ct) ∧
      Ints .u8 w (.slice ba (l.getD j default).b.length cb) (l.getD j default).b ∧ (∀ i, i < (l.getD j default).s.length → ∃ b o, sa = some ⟨b, o, none⟩ ∧ b < w.heap.size ∧ SyAt w b (o + i * 2) ((l.getD j default).s.getD i default)) ∧
      (∀ i, i < (l.getD j default).t.length → ∃ b o, ta = some ⟨b, o, none⟩ ∧ b < w.heap.size ∧ WnAt w b (o + i * 4) ((l.getD j default).t.getD i default)) := by
  obtain ⟨b, q, ea, hbl, vb, vs, vt, y0, y1, y2, hx⟩ := h j hj
  obtain ⟨ba, cb, rfl, _, _⟩ := hx.1.shape2
  obtain ⟨sa, cs, rfl, _, _, h3⟩ := hx.2.1.shape
  obtain ⟨ta, ct, rfl, _, _, h4⟩ := hx.2.2.shape
  exact ⟨b, q, ba, cb, sa, cs, ta, ct, ea, hbl, y0, y1, y2, hx.1, h3, h4⟩
def stL (base : Int) (l : List Ob) (j : Nat) : List Int := (List.range j).map fun i => base + pJ l i
theorem stL_length (base : Int) (l : List Ob) (j : Nat) : (stL base l j).length = j := by simp [stL]
theorem stL_snoc (base : Int) (l : List Ob) (j : Nat) : stL base l (j + 1) = stL base l j ++ [base + pJ l j] := by
  unfold stL; rw [List.range_succ, List.map_append]; rfl
theorem stL_get {base : Int} {l : List Ob} {j n : Nat} (h : j < n) : (stL base l n).getD j 0 = base + pJ l j := by
  unfold stL
  rw [List.getD_eq_getElem?_getD, List.getElem?_map, List.getElem?_range h]; rfl
set_option maxHeartbeats 1000000 in
theorem starts_any (l : List Ob) (lv : Value) (base : Int) (w : World) (h : Obs w lv l) (hl : l.length ≤ 4) (hv : ∀ o ∈ l, o.b.length ≤ 8192) (b0 : 0 ≤ base) (b1 : base ≤ 32768) (b4 : base.tmod 4 = 0) : Calls Tryz.prog 46 #[lv, .int .i64 base] w fun e w' =>
    ∃ v, e = .returned (.tuple #[v, .int .i64 (base + zJ l l.length)]) ∧ RowI w' w.heap.size 3 .i64 v (stL base l l.length) ∧ Below w.heap.size w w' := by
  obtain ⟨a, c, rfl, h1, h2, h3⟩ := h.shape
  have HR := Lib.hid h3
  have HV := Lib.hid hv
  have hbm : base % 4 = 0 := by rw [Int.tmod_eq_emod_of_nonneg b0] at b4; exact b4
  have HBM := Lib.hid hbm
  clear h h3 hv b4 hbm
  go_enter Tryz.func46, Tryz.ntmps46
  go_wp2_with fail
  go_loopw [6, 7, 8] (fun u x i wr => ∃ j : Nat, j ≤ l.length ∧ i = .int .i64 j ∧ x = .int .i64 (base + zJ l j) ∧ RowI wr w.heap.size 3 .i64 u (stL base l j) ∧ Below w.heap.size w wr) (fun _ _ i _ => l.length - (intOf i).toNat)
  case atStart => exact ⟨0, Nat.zero_le _, rfl, by simp [zJ], RowI.nil _ _ _ _, Below.refl _ _⟩
  case round =>
    obtain ⟨j, hj, rfl, rfl, hr, hb⟩ := hrel
    have HB := Lib.hid hb
    have z0 := zJ_nn l j
    have z1 := zJ_bd HV.out j hj
    by_cases hjl : j < l.length
    · obtain ⟨b, q, ba, cb, sa, cs, ta, ct, rfl, hbl, x0, -⟩ := oRow HR.out hjl
      have HO := HV.out _ (mem_getD' hjl)
      have HR1 := Lib.hid hr
      obtain ⟨ua, uc, rfl⟩ := hr.shape
      have HZ : Hid (zJ l (j + 1) = nextAt (zJ l j) + ((l.getD j default).b.length : Int)) := Lib.hid rfl
      have HP : Hid (pJ l j = nextAt (zJ l j)) := Lib.hid rfl
      have HX0 := Lib.hid x0
      have hsz := hb.size
      clear x0 hr hb
      generalize (l.getD j default).b.length = n at *
      have hn0 : zJ l j ≤ nextAt (zJ l j) := by unfold nextAt; omega
      have hn3 : nextAt (zJ l j) ≤ zJ l j + 3 := by unfold nextAt; omega
      have HN4 : Hid (nextAt (zJ l j) % 4 = 0) := Lib.hid (by unfold nextAt; omega)
      generalize nextAt (zJ l j) = nx at *
      generalize zJ l j = z at *
      go_wp2_with fail
      obtain ⟨wo, rfl⟩ : ∃ wo : World, wo = wr := ⟨_, rfl⟩
      go_loop [7] (fun x => ∃ y : Int, base + z ≤ y ∧ y ≤ base + nx ∧ x = .int .i64 y) (fun x => (base + nx - intOf x).toNat)
      case atStart => exact ⟨_, by omega, by omega, rfl⟩
      case round =>
        obtain ⟨y, hy0, hy1, rfl⟩ := hrel
        cases hm : (y % 4 != 0)
        case true =>
          have hne : y < base + nx := by
            have e1 := HBM.out
            have e2 := HN4.out
            have e3 : y % 4 ≠ 0 := by simpa using hm
            rcases Int.lt_or_eq_of_le hy1 with h | h
            · exact h
            · omega
          go_wp2_with fail
          go_round
          case rel => exact ⟨y + 1, by omega, by omega, rfl⟩
          case measure => simp [intOf]; omega
        case false =>
          have hye : y = base + nx := by
            have e1 := HBM.out
            have e2 := HN4.out
            have e3 : y % 4 = 0 := by simpa using hm
            omega
          subst hye
          have hm' : ((base + nx) % 4 == 0) = true := by simpa [bne] using hm
          have hg : w.heap.size ≤ wo.heap.size := HB.out.size
          go_wp2_with (at_builtin; refine app_int rfl _ _ rfl w.heap.size _ (stL base l j) rfl (HR1.out.below ((Below.refl _ _).alloc (Nat.le_refl _) _)) wo.heap.size 1 (base + nx) rfl (by simp [go_sem]) (by rw [stL_length]; omega) (by simp; omega) (fun v' w4 hr4 hb4 hg4 => ?_); have HR4 := Lib.hid hr4; have HB4 := Lib.hid hb4; clear hr4 hb4; have HB5 := Lib.hid ((HB.out.alloc hg (.cells #[.int .i64 (base + nx)] 3)).trans HB4.out); have x0 := below_cell HB5.out hbl HX0.out)
          go_roundw
          case rel => exact ⟨j + 1, by omega, by go_num, by rw [HZ.out]; go_num, by rw [stL_snoc, HP.out]; exact HR4.out, HB5.out⟩
          case measure => simp [intOf]; omega
    · obtain rfl : j = l.length := by omega
      have HR1 := Lib.hid hr
      clear hr hb
      go_wp2_with fail
      refine bodyPost_ret (v := .tuple #[_, .int .i64 _]) (by simp [results, Tryz.results46, go_sem]) rfl ⟨_, rfl, HR1.out, HB.out⟩
theorem lookM_append (a b : List (Int × Int)) (n : Int) : lookM (a ++ b) n = (lookM a n).or (lookM b n) := by
  unfold lookM
  rw [List.find?_append]
  cases a.find? (fun q => q.1 == n) <;> rfl
theorem syJ_more {base : Int} {l : List Ob} {j : Nat} : ∀ m, ∃ r, syJ base l (j + m) = syJ base l j ++ r
  | 0 => ⟨[], by simp⟩
  | m + 1 => by
    obtain ⟨r, h⟩ := syJ_more (base := base) (l := l) (j := j) m
    exact ⟨r ++ (l.getD (j + m) default).s.map fun s => (s.n, base + pJ l (j + m) + s.a), by rw [← Nat.add_assoc, syJ, h, List.append_assoc]⟩
theorem find_syms {s : List Sy} {c n : Int} : lookM (s.map fun y => (y.n, c + y.a)) n = (s.find? fun y => y.n == n).map fun y => c + y.a := by
  unfold lookM
  rw [List.find?_map, Option.map_map]
  rfl
theorem find_none {s : List Sy} {n : Int} (h : s.any (fun y => y.n == n) = false) : s.find? (fun y => y.n == n) = none := by
  rw [List.find?_eq_none]
  intro y hy
  have := List.any_eq_false.1 h y hy
  simpa using this
theorem find_at {s : List Sy} {n : Int} {k : Nat} (hk : k < s.length) (h0 : (s.take k).any (fun y => y.n == n) = false) (h : (s.getD k default).n = n) : s.find? (fun y => y.n == n) = some (s.getD k default) := by
  have e : s = s.take k ++ s[k] :: s.drop (k + 1) := by simp
  rw [List.getD_eq_getElem?_getD, List.getElem?_eq_getElem hk] at h ⊢
  conv => lhs; rw [e]
  rw [List.find?_append, find_none h0, List.find?_cons]
  have : (s[k].n == n) = true := by simpa using h
  rw [this]; rfl
theorem look_step {base : Int} {l : List Ob} {j : Nat} {n : Int} (h0 : lookM (syJ base l j) n = none) (h : (l.getD j default).s.any (fun y => y.n == n) = false) : lookM (syJ base l (j + 1)) n = none := by
  rw [syJ, lookM_append, h0, find_syms, find_none h]; rfl
theorem look_hit {base : Int} {l : List Ob} {j k : Nat} {n : Int} (hj : j < l.length) (h0 : lookM (syJ base l j) n = none) (hk : k < (l.getD j default).s.length) (h1 : ((l.getD j default).s.take k).any (fun y => y.n == n) = false) (h2 : ((l.getD j default).s.getD k default).n = n) :
    lookM (syJ base l l.length) n = some (base + pJ l j + ((l.getD j default).s.getD k default).a) := by
  obtain ⟨r, h⟩ := syJ_more (base := base) (l := l) (j := j + 1) (l.length - (j + 1))
  rw [show j + 1 + (l.length - (j + 1)) = l.length by omega] at h
  rw [h, lookM_append, syJ, lookM_append, h0, find_syms, find_at hk h1 h2]; rfl
def adrE (base : Int) (l : List Ob) (n : Int) : Ending := .returned (.tuple #[.int .i64 ((lookM (syJ base l l.length) n).getD 0), .bool (lookM (syJ base l l.length) n).isSome])
theorem adrE_some {base : Int} {l : List Ob} {n a : Int} (h : lookM (syJ base l l.length) n = some a) : adrE base l n = .returned (.tuple #[.int .i64 a, .bool true]) := by unfold adrE; rw [h]; rfl
theorem adrE_none {base : Int} {l : List Ob} {n : Int} (h : lookM (syJ base l l.length) n = none) : adrE base l n = .returned (.tuple #[.int .i64 0, .bool false]) := by unfold adrE; rw [h]; rfl
theorem val_bytes {l : List Ob} (h : ∀ o ∈ l, valO o = 0) : ∀ o ∈ l, o.b.length ≤ 8192 := fun o ho => (val_len (h o ho)).1
set_option maxHeartbeats 2000000 in
theorem address_any (l : List Ob) (lv : Value) (base n : Int) (w : World) (h : Obs w lv l) (hl : l.length ≤ 4) (hv : ∀ o ∈ l, valO o = 0) (b0 : 0 ≤ base) (b1 : base ≤ 32768) (b4 : base.tmod 4 = 0) : Calls Tryz.prog 47 #[lv, .int .i64 base, .int .i64 n] w fun e w' =>
    e = adrE base l n ∧ Below w.heap.size w w' := by
  have C := Lib.hid (starts_any l lv base w h hl (val_bytes hv) b0 b1 b4)
  obtain ⟨a, c, rfl, h1, h2, h3⟩ := h.shape
  have HR := Lib.hid h3
  have HV := Lib.hid hv
  clear h h3 hv b4
  go_enter Tryz.func47, Tryz.ntmps47
  go_wp2_with (go_at_call 46; with_reducible refine C.out.mono ?_; rintro e w1 ⟨v, rfl, hr, hb⟩; obtain ⟨va, vc, rfl⟩ := hr.shape; have HS := Lib.hid (hr.ints (by rw [stL_length]; omega)); have HB := Lib.hid hb; clear hr hb)
  go_loop [10, 11] (fun i _ => ∃ j : Nat, j ≤ l.length ∧ i = .int .i64 j ∧ Hid (lookM (syJ base l j) n = none)) (fun i _ => l.length - (intOf i).toNat)
  case atStart => exact ⟨0, Nat.zero_le _, rfl, rfl⟩
  case round =>
    obtain ⟨j, hj, rfl, hno⟩ := hrel
    by_cases hjl : j < l.length
    · obtain ⟨b, q, ba, cb, sa, cs, ta, ct, rfl, hbl, y0, y1, y2, -, hs, -⟩ := oRow HR.out hjl
      have x1 := below_cell HB.out hbl y1
      have HSR := Lib.hid hs
      have HOV := Lib.hid (sym_ok (HV.out _ (mem_getD' hjl)))
      have hp := hno
      have HST := Lib.hid (fun h => look_step (base := base) (l := l) (j := j) (n := n) hno.out h)
      have HHT := Lib.hid (fun k hk h1 h2 => look_hit (base := base) (l := l) (j := j) (k := k) (n := n) hjl hno.out hk h1 h2)
      have hz0 := zJ_nn l j
      have hz1 := zJ_bd (val_bytes HV.out) j hj
      have hp0 : 0 ≤ pJ l j := by unfold pJ nextAt; omega
      have hp1 : pJ l j ≤ 40000 := by unfold pJ nextAt; omega
      have hlen := (val_len (HV.out _ (mem_getD' hjl)))
      have HGT := Lib.hid (stL_get (base := base) (l := l) hjl)
      clear hs y0 y1 y2 hp hz0 hz1
      generalize l.getD j default = oj at *
      generalize pJ l j = pj at *
      obtain ⟨vap, cp, ep, hp1', _, _, hp4⟩ := HS.out
      cases ep
      obtain ⟨bp, op, rfl, hbp, hcp0⟩ := hp4 j (by rw [stL_length]; exact hjl)
      rw [Nat.mul_one, HGT.out] at hcp0
      have HCP := Lib.hid hcp0
      clear hcp0 hp4
      have HSL := Lib.hid (stL_length base l l.length)
      generalize (stL base l l.length).length = ln at *
      go_wp2_with fail
      go_loop [11] (fun i => ∃ k : Nat, k ≤ oj.s.length ∧ i = .int .i64 k ∧ Hid ((oj.s.take k).any (fun y => y.n == n) = false)) (fun i => oj.s.length - (intOf i).toNat)
      case atStart => exact ⟨0, Nat.zero_le _, rfl, rfl⟩
      case round =>
        obtain ⟨k, hk, rfl, hnk⟩ := hrel
        by_cases hkl : k < oj.s.length
        · obtain ⟨b', q', ea, hbl', u0, u1⟩ := HSR.out k hkl
          subst ea
          have v0 := below_cell HB.out hbl' u0
          have v1 := below_cell HB.out hbl' u1
          have hsy := HOV.out _ (mem_getD' hkl)
          have HH2 := Lib.hid (HHT.out k hkl hnk.out)
          have HN2 : Hid ((fun y : Sy => y.n == n) (oj.s.getD k default) = false → (oj.s.take (k + 1)).any (fun y => y.n == n) = false) := Lib.hid (fun h => any_take_step hkl hnk.out h)
          clear u0 u1
          generalize oj.s.getD k default = y at *
          obtain ⟨yn, ya⟩ := y
          simp only at v0 v1 hsy
          cases g : (yn == n)
          case true =>
            have g' : yn = n := by simpa using g
            have HE := Lib.hid (adrE_some (HH2.out g'))
            have hcp := HCP.out
            have i0 : (0 : Int) ≤ (j : Int) := by omega
            have i1 : (j : Int) < (ln : Int) := by have := HSL.out; omega
            have k0 : (0 : Int) ≤ (k : Int) := by omega
            have k1 : (k : Int) < (oj.s.length : Int) := by omega
            go_wp2_with fail
            go_quiet (fail)
            go_wp2_with fail
            refine bodyPost_ret (v := .tuple #[.int .i64 (base + pj + ya), .bool true]) (by simp [results, Tryz.results47, go_sem]) rfl ⟨HE.out.symm, below_drewN HB.out _⟩
          case false =>
            have HN := Lib.hid (HN2.out g)
            go_wp2_with fail
            go_round
            case rel => exact ⟨k + 1, by omega, by go_num, HN.out⟩
            case measure => simp [intOf]; omega
        · obtain rfl : k = oj.s.length := by omega
          have HN : Hid (lookM (syJ base l (j + 1)) n = none) := HST.out (by have := hnk.out; rwa [List.take_length] at this)
          go_wp2_with fail
          go_round
          case rel => exact ⟨j + 1, by omega, by go_num, HN.out⟩
          case measure => simp [intOf]; omega
    · obtain rfl : j = l.length := by omega
      have HE := Lib.hid (adrE_none hno.out)
      go_wp2_with fail
      refine bodyPost_ret (v := .tuple #[.int .i64 0, .bool false]) (by simp [results, Tryz.results47, go_sem]) rfl ⟨HE.out.symm, HB.out⟩
theorem linkF_3 {base : Int} {l : List Ob} {b : Bool} (h : 4 < l.length) : linkF base l b = 3 := if_pos h
theorem linkF_v {base : Int} {l : List Ob} {b : Bool} {j : Nat} (h : ¬ 4 < l.length) (h0 : ∀ i, i < j → valO (l.getD i default) = 0) (hj : j < l.length) (h1 : valO (l.getD j default) ≠ 0) : linkF base l b = valO (l.getD j default) := by
  unfold linkF
  rw [if_neg h, firstE_hit h0 hj h1, if_pos h1]
theorem linkF_1 {base : Int} {l : List Ob} {b : Bool} (h : ¬ 4 < l.length) (h0 : ∀ i, i < l.length → valO (l.getD i default) = 0) (h1 : base < 0 ∨ 32768 < base ∨ base.tmod 4 ≠ 0) : linkF base l b = 1 := by
  unfold linkF
  rw [if_neg h, firstE_none h0, if_neg (by simp), if_pos h1]
theorem linkF_r {base : Int} {l : List Ob} {b : Bool} (h : ¬ 4 < l.length) (h0 : ∀ i, i < l.length → valO (l.getD i default) = 0) (h1 : ¬ (base < 0 ∨ 32768 < base ∨ base.tmod 4 ≠ 0)) : linkF base l b = if dupR l l.length then 7 else if b && missB l (syJ base l l.length) l.length then 4 else if 32768 < base + zJ l l.length then 3 else 0 := by
  unfold linkF
  rw [if_neg h, firstE_none h0, if_neg (by simp), if_neg h1]
theorem dupR_hit {l : List Ob} {i k s t : Nat} (hi : i < l.length) (hk : k < i) (hs : s < (l.getD i default).s.length) (ht : t < (l.getD k default).s.length) (h : ((l.getD i default).s.getD s default).n = ((l.getD k default).s.getD t default).n) : dupR l l.length = true := by
  unfold dupR dupI dupK
  refine List.any_eq_true.2 ⟨i, List.mem_range.2 hi, List.any_eq_true.2 ⟨k, List.mem_range.2 hk, List.any_eq_true.2 ⟨_, mem_getD' hs, List.any_eq_true.2 ⟨_, mem_getD' ht, ?_⟩⟩⟩⟩
  simpa using h
theorem range_step {f : Nat → Bool} {n : Nat} (h : (List.range n).any f = false) (h1 : f n = false) : (List.range (n + 1)).any f = false := by rw [any_range_succ, h, h1]; rfl
theorem all_getD {l : List Ob} (h : ∀ i, i < l.length → valO (l.getD i default) = 0) : ∀ o ∈ l, valO o = 0 := by
  intro o ho
  obtain ⟨i, hi, rfl⟩ := List.getElem_of_mem ho
  have := h i hi
  rw [List.getD_eq_getElem?_getD, List.getElem?_eq_getElem hi] at this
  exact this
def LkP (base : Int) (l : List Ob) (b : Bool) (w : World) (e : Ending) (w' : World) : Prop := e = .returned (.int .i64 (linkF base l b)) ∧ Below w.heap.size w w'
theorem LkP.of {base : Int} {l : List Ob} {b : Bool} {w w' : World} {n : Int} (h : linkF base l b = n) (hb : Below w.heap.size w w') : LkP base l b w (.returned (.int .i64 n)) w' := ⟨by rw [h], hb⟩
set_option maxHeartbeats 4000000 in
theorem linked_false (l : List Ob) (lv : Value) (base : Int) (w : World) (h : Obs w lv l) : Calls Tryz.prog 45 #[lv, .int .i64 base, .bool false] w fun e w' => LkP base l false w e w' := by
  have HOB := Lib.hid h
  obtain ⟨a, c, rfl, h1, h2, h3⟩ := h.shape
  have HR := Lib.hid h3
  have C1 := Lib.hid (fun (o : Ob) vb vs vt w h => by have := rVal_any o vb vs vt w h; rw [← valO_ref] at this; exact this)
  have C2 := Lib.hid rwithin_any
  clear h h3
  cases g4 : decide ((4 : Int) < (l.length : Int))
  case true =>
    have HQ := Lib.hid (linkF_3 (base := base) (l := l) (b := false) (by have := of_decide_eq_true g4; omega))
    go_enter Tryz.func45, Tryz.ntmps45
    go_wp2_with fail
    go_ret
    exact LkP.of HQ.out (Below.refl _ _)
  case false =>
    have H4 : Hid (¬ 4 < l.length) := Lib.hid (by have := of_decide_eq_false g4; omega)
    have h4 : l.length ≤ 4 := by have := H4.out; omega
    go_enter Tryz.func45, Tryz.ntmps45
    go_wp2_with fail
    go_loopw [7, 8] (fun i _ wr => ∃ j : Nat, j ≤ l.length ∧ i = .int .i64 j ∧ Hid (∀ i, i < j → valO (l.getD i default) = 0) ∧ Below w.heap.size w wr) (fun i _ _ => l.length - (intOf i).toNat)
    case atStart => exact ⟨0, Nat.zero_le _, rfl, Lib.hid (fun i hi => absurd hi (Nat.not_lt_zero _)), Below.refl _ _⟩
    case round =>
      obtain ⟨j, hj, rfl, hno, hb⟩ := hrel
      have HB := Lib.hid hb
      have hbs := hb.size
      by_cases hjl : j < l.length
      · obtain ⟨b, q, ea, hbl, vb, vs, vt, y0, y1, y2, hx⟩ := HR.out j hjl
        subst ea
        obtain ⟨ba, cb, rfl, _, _⟩ := hx.1.shape2
        obtain ⟨sa, cs, rfl, _⟩ := hx.2.1.shape
        obtain ⟨ta, ct, rfl, _⟩ := hx.2.2.shape
        have x0 := below_cell hb hbl y0
        have x1 := below_cell hb hbl y1
        have x2 := below_cell hb hbl y2
        have CV := Lib.hid (C1.out _ _ _ _ wr (hx.stays hb))
        have HHV := Lib.hid (fun h => linkF_v (base := base) (b := false) H4.out hno.out hjl h)
        have HHN : Hid (valO (l.getD j default) = 0 → ∀ i, i < j + 1 → valO (l.getD i default) = 0) := Lib.hid (fun h0 i hi => by
          rcases Nat.lt_or_ge i j with h | h
          · exact hno.out i h
          · obtain rfl : i = j := by omega
            exact h0)
        clear hx y0 y1 y2 hb
        generalize l.getD j default = oj at *
        cases hz : (valO oj == 0)
        · have HQ := Lib.hid (HHV.out (by simpa using hz))
          have hne : (valO oj != 0) = true := by simp [bne, hz]
          clear hz
          generalize valO oj = ev at *
          go_wp2_with (go_at_call 14; with_reducible refine CV.out.mono ?_; rintro e w5 ⟨rfl, hb5⟩; have HB5 := Lib.hid (below_next HB.out hbs hb5); clear hb5)
          go_ret
          exact LkP.of HQ.out HB5.out
        · have hz' : valO oj = 0 := by simpa using hz
          have HN := Lib.hid (HHN.out hz')
          rw [hz'] at CV
          clear hz hz'
          go_wp2_with (go_at_call 14; with_reducible refine CV.out.mono ?_; rintro e w5 ⟨rfl, hb5⟩; have HB5 := Lib.hid (below_next HB.out hbs hb5); clear hb5)
          go_roundw
          case rel => exact ⟨j + 1, by omega, by go_num, HN.out, HB5.out⟩
          case measure => simp [intOf]; omega
      · obtain rfl : j = l.length := by omega
        have HAV := Lib.hid (all_getD hno.out)
        obtain ⟨wv, rfl⟩ : ∃ wo : World, wo = wr := ⟨_, rfl⟩
        clear hb
        by_cases hbad : base < 0 ∨ 32768 < base ∨ base.tmod 4 ≠ 0
        · have HQ := Lib.hid (linkF_1 (b := false) H4.out hno.out hbad)
          cases d1 : decide (0 ≤ base)
          case false =>
            clear hbad
            go_wp2_with (go_at_call 42; with_reducible refine (C2.out _ _ _ _).mono ?_; rintro e w' ⟨rfl, rfl⟩; rw [d1])
            go_ret
            exact LkP.of HQ.out HB.out
          case true =>
          cases d2 : decide (base ≤ 32768)
          case false =>
            clear hbad
            go_wp2_with (go_at_call 42; with_reducible refine (C2.out _ _ _ _).mono ?_; rintro e w' ⟨rfl, rfl⟩; rw [d1, d2])
            go_ret
            exact LkP.of HQ.out HB.out
          case true =>
          have b0 : 0 ≤ base := of_decide_eq_true d1
          have b1 : base ≤ 32768 := of_decide_eq_true d2
          have d3 : (base % 4 != 0) = true := by
            rw [Int.tmod_eq_emod_of_nonneg b0] at hbad
            rcases hbad with h | h | h
            · omega
            · omega
            · simpa using h
          clear hbad
          go_wp2_with (go_at_call 42; with_reducible refine (C2.out _ _ _ _).mono ?_; rintro e w' ⟨rfl, rfl⟩; rw [d1, d2])
          go_ret
          exact LkP.of HQ.out HB.out
        · have HLF := Lib.hid (linkF_r (b := false) H4.out hno.out hbad)
          have HM4 : Hid (base.tmod 4 = 0) := Lib.hid (by_contra_tm hbad)
          have b0 : 0 ≤ base := by omega
          have b1 : base ≤ 32768 := by omega
          have d1 : decide (0 ≤ base) = true := decide_eq_true b0
          have d2 : decide (base ≤ 32768) = true := decide_eq_true b1
          have d3 : (base % 4 != 0) = false := by
            have := HM4.out
            rw [Int.tmod_eq_emod_of_nonneg b0] at this
            simpa using this
          clear hbad hno
          go_wp2_with (go_at_call 42; with_reducible refine (C2.out _ _ _ _).mono ?_; rintro e w' ⟨rfl, rfl⟩; rw [d1, d2])
          clear d1 d2 d3
          go_loopw [9, 10, 11, 12] (fun i _ _ _ wr => ∃ j : Nat, j ≤ l.length ∧ i = .int .i64 j ∧ Hid (dupR l j = false) ∧ Below w.heap.size w wr) (fun i _ _ _ _ => l.length - (intOf i).toNat)
          case atStart => exact ⟨0, Nat.zero_le _, rfl, rfl, HB.out⟩
          case round =>
            obtain ⟨i, hi, rfl, hno, hb⟩ := hrel
            have HBa := Lib.hid hb
            by_cases hil : i < l.length
            · obtain ⟨bi, qi, bai, cbi, sai, csi, tai, cti, eai, hbli, -, yi, -, -, hsi, -⟩ := oRow HR.out hil
              have HSI := Lib.hid hsi
              have HYI := Lib.hid yi
              have hleni := (val_len (HAV.out _ (mem_getD' hil))).2.1
              have HDS : Hid (dupI l i = false → dupR l (i + 1) = false) := Lib.hid (fun h => range_step (f := dupI l) hno.out h)
              have HDH := Lib.hid (fun k s t (hk : k < i) hs ht h => dupR_hit (l := l) (i := i) (k := k) (s := s) (t := t) hil hk hs ht h)
              have HDI : Hid (∀ k, dupK l i k = (l.getD i default).s.any fun s => (l.getD k default).s.any fun t => s.n == t.n) := Lib.hid (fun _ => rfl)
              clear hsi yi hb
              generalize l.getD i default = oi at *
              go_wp2_with fail
              obtain ⟨wi, rfl⟩ : ∃ wo : World, wo = wr := ⟨_, rfl⟩
              go_loopw [10, 11, 12] (fun k _ _ wr => ∃ j : Nat, j ≤ i ∧ k = .int .i64 j ∧ Hid ((List.range j).any (dupK l i) = false) ∧ Below w.heap.size w wr) (fun k _ _ _ => i - (intOf k).toNat)
              case atStart => exact ⟨0, Nat.zero_le _, rfl, rfl, HBa.out⟩
              case round =>
                obtain ⟨k, hk, rfl, hnok, hb⟩ := hrel
                have HBb := Lib.hid hb
                by_cases hki : k < i
                · obtain ⟨bk, qk, bak, cbk, sak, csk, tak, ctk, eak, hblk, -, yk, -, -, hsk, -⟩ := oRow HR.out (show k < l.length by omega)
                  subst eai
                  cases eak
                  have HSK := Lib.hid hsk
                  have HYK := Lib.hid yk
                  have hlenk := (val_len (HAV.out _ (mem_getD' (show k < l.length by omega)))).2.1
                  have HKS : Hid (dupK l i k = false → (List.range (k + 1)).any (dupK l i) = false) := Lib.hid (fun h => range_step (f := dupK l i) hnok.out h)
                  have HKH := Lib.hid (HDH.out k)
                  have HKI := Lib.hid (HDI.out k)
                  have xi := below_cell hb hbli HYI.out
                  clear hsk yk hb
                  generalize l.getD k default = ok at *
                  go_wp2_with fail
                  clear xi
                  obtain ⟨wk, rfl⟩ : ∃ wo : World, wo = wr := ⟨_, rfl⟩
                  go_loopw [11, 12] (fun s _ wr => ∃ j : Nat, j ≤ oi.s.length ∧ s = .int .i64 j ∧ Hid ((oi.s.take j).any (fun s => ok.s.any fun t => s.n == t.n) = false) ∧ Below w.heap.size w wr) (fun s _ _ => oi.s.length - (intOf s).toNat)
                  case atStart => exact ⟨0, Nat.zero_le _, rfl, rfl, HBb.out⟩
                  case round =>
                    obtain ⟨s, hs, rfl, hnos, hb⟩ := hrel
                    have HBc := Lib.hid hb
                    have xi := below_cell hb hbli HYI.out
                    have xk := below_cell hb hblk HYK.out
                    by_cases hsl : s < oi.s.length
                    · obtain ⟨b3, q3, ea3, hbl3, u0, -⟩ := HSI.out s hsl
                      subst ea3
                      have HU0 := Lib.hid u0
                      have HSS := Lib.hid (fun h => any_take_step (f := fun s : Sy => ok.s.any fun t => s.n == t.n) hsl hnos.out h)
                      have HSH := Lib.hid (fun t ht h => HKH.out s t hki hsl ht h)
                      clear u0 hb
                      generalize oi.s.getD s default = ys at *
                      obtain ⟨ysn, ysa⟩ := ys
                      go_wp2_with fail
                      clear xi xk
                      obtain ⟨ws, rfl⟩ : ∃ wo : World, wo = wr := ⟨_, rfl⟩
                      go_loopw [12] (fun t wr => ∃ j : Nat, j ≤ ok.s.length ∧ t = .int .i64 j ∧ Hid ((ok.s.take j).any (fun t => ysn == t.n) = false) ∧ Below w.heap.size w wr) (fun t _ => ok.s.length - (intOf t).toNat)
                      case atStart => exact ⟨0, Nat.zero_le _, rfl, rfl, HBc.out⟩
                      case round =>
                        obtain ⟨t, ht, rfl, hnot, hb⟩ := hrel
                        have HBt := Lib.hid hb
                        have xi := below_cell hb hbli HYI.out
                        have xk := below_cell hb hblk HYK.out
                        by_cases htl : t < ok.s.length
                        · obtain ⟨b5, q5, ea5, hbl5, w0, -⟩ := HSK.out t htl
                          subst ea5
                          have v0 := below_cell hb hbl3 HU0.out
                          have v5 := below_cell hb hbl5 w0
                          have HTS := Lib.hid (fun h => any_take_step (f := fun t : Sy => ysn == t.n) htl hnot.out h)
                          have HTH := Lib.hid (HSH.out t htl)
                          have hsz := hb.size
                          clear w0 hb
                          generalize ok.s.getD t default = yt at *
                          obtain ⟨ytn, yta⟩ := yt
                          simp only at v0 v5
                          have i0 : (0 : Int) ≤ (i : Int) := by omega
                          have i1 : (i : Int) < (l.length : Int) := by omega
                          have k0 : (0 : Int) ≤ (k : Int) := by omega
                          have k1 : (k : Int) < (l.length : Int) := by omega
                          have s0 : (0 : Int) ≤ (s : Int) := by omega
                          have s1 : (s : Int) < (oi.s.length : Int) := by omega
                          have t0 : (0 : Int) ≤ (t : Int) := by omega
                          have t1 : (t : Int) < (ok.s.length : Int) := by omega
                          have gb : bi < wr.heap.size := by omega
                          have g3 : b3 < wr.heap.size := by omega
                          have g5 : b5 < wr.heap.size := by omega
                          cases g : (ysn == ytn)
                          case true =>
                            have HD : Hid (dupR l l.length = true) := Lib.hid (HTH.out (by simpa using g))
                            have HQ : Hid (linkF base l false = 7) := Lib.hid (by rw [HLF.out, HD.out]; rfl)
                            go_wp2_with fail
                            go_quiet (fail)
                            go_wp2_with fail
                            go_ret
                            exact LkP.of HQ.out (below_drewN HBt.out _)
                          case false =>
                            have HN := Lib.hid (HTS.out g)
                            go_wp2_with fail
                            go_quiet (fail)
                            go_wp2_with fail
                            go_roundw
                            case rel => exact ⟨t + 1, by omega, by go_num, HN.out, below_drewN HBt.out _⟩
                            case measure => simp [intOf]; omega
                        · obtain rfl : t = ok.s.length := by omega
                          have HN := Lib.hid (HSS.out (by have := hnot.out; rwa [List.take_length] at this))
                          clear hb
                          go_wp2_with fail
                          go_roundw
                          case rel => exact ⟨s + 1, by omega, by go_num, HN.out, HBt.out⟩
                          case measure => simp [intOf]; omega
                    · obtain rfl : s = oi.s.length := by omega
                      have HN := Lib.hid (HKS.out (by rw [HKI.out]; have := hnos.out; rwa [List.take_length] at this))
                      clear hb
                      go_wp2_with fail
                      go_roundw
                      case rel => exact ⟨k + 1, by omega, by go_num, HN.out, HBc.out⟩
                      case measure => simp [intOf]; omega
                · obtain rfl : k = i := by omega
                  have HN := Lib.hid (HDS.out hnok.out)
                  clear hb
                  go_wp2_with fail
                  go_roundw
                  case rel => exact ⟨k + 1, by omega, by go_num, HN.out, HBb.out⟩
                  case measure => simp [intOf]; omega
            · obtain rfl : i = l.length := by omega
              have HND := Lib.hid hno.out
              have HBd := Lib.hid hb
              clear hb hno
              obtain ⟨wd, rfl⟩ : ∃ wo : World, wo = wr := ⟨_, rfl⟩
              go_wp2_with fail
              go_loopw [13, 14] (fun i _ wr => i = .int .i64 0 ∧ Below w.heap.size w wr) (fun _ _ _ => 0)
              case atStart => exact ⟨rfl, HBd.out⟩
              case round =>
                obtain ⟨rfl, hb⟩ := hrel
                have HBe := Lib.hid hb
                have hbs := hb.size
                have C3 := Lib.hid (starts_any l _ base wr (HOB.out.stays hb) (by omega) (val_bytes HAV.out) b0 b1 HM4.out)
                have HRF : Hid (linkF base l false = if 32768 < base + zJ l l.length then 3 else 0) := Lib.hid (by rw [HLF.out, HND.out]; rfl)
                have hrng := zJ_bd (val_bytes HAV.out) l.length (Nat.le_refl _)
                have hrn0 := zJ_nn l l.length
                clear hb
                cases d5 : decide (32768 < base + zJ l l.length)
                case true =>
                  have HQ := Lib.hid (HRF.out.trans (if_pos (of_decide_eq_true d5)))
                  go_wp2_with (go_at_call 46; with_reducible refine C3.out.mono ?_; rintro e w5 ⟨v5, rfl, hr5, hb5⟩; have HB5 := Lib.hid (below_next HBe.out hbs hb5); clear hr5 hb5)
                  all_goals
                    go_ret
                    exact LkP.of HQ.out HB5.out
                case false =>
                  have HQ := Lib.hid (HRF.out.trans (if_neg (of_decide_eq_false d5)))
                  go_wp2_with (go_at_call 46; with_reducible refine C3.out.mono ?_; rintro e w5 ⟨v5, rfl, hr5, hb5⟩; have HB5 := Lib.hid (below_next HBe.out hbs hb5); clear hr5 hb5)
                  all_goals
                    go_ret
                    exact LkP.of HQ.out HB5.out
set_option maxHeartbeats 4000000 in
theorem linked_true (l : List Ob) (lv : Value) (base : Int) (w : World) (h : Obs w lv l) : Calls Tryz.prog 45 #[lv, .int .i64 base, .bool true] w fun e w' => LkP base l true w e w' := by
  have HOB := Lib.hid h
  obtain ⟨a, c, rfl, h1, h2, h3⟩ := h.shape
  have HR := Lib.hid h3
  have C1 := Lib.hid (fun (o : Ob) vb vs vt w h => by have := rVal_any o vb vs vt w h; rw [← valO_ref] at this; exact this)
  have C2 := Lib.hid rwithin_any
  clear h h3
  cases g4 : decide ((4 : Int) < (l.length : Int))
  case true =>
    have HQ := Lib.hid (linkF_3 (base := base) (l := l) (b := true) (by have := of_decide_eq_true g4; omega))
    go_enter Tryz.func45, Tryz.ntmps45
    go_wp2_with fail
    go_ret
    exact LkP.of HQ.out (Below.refl _ _)
  case false =>
    have H4 : Hid (¬ 4 < l.length) := Lib.hid (by have := of_decide_eq_false g4; omega)
    have h4 : l.length ≤ 4 := by have := H4.out; omega
    go_enter Tryz.func45, Tryz.ntmps45
    go_wp2_with fail
    go_loopw [7, 8] (fun i _ wr => ∃ j : Nat, j ≤ l.length ∧ i = .int .i64 j ∧ Hid (∀ i, i < j → valO (l.getD i default) = 0) ∧ Below w.heap.size w wr) (fun i _ _ => l.length - (intOf i).toNat)
    case atStart => exact ⟨0, Nat.zero_le _, rfl, Lib.hid (fun i hi => absurd hi (Nat.not_lt_zero _)), Below.refl _ _⟩
    case round =>
      obtain ⟨j, hj, rfl, hno, hb⟩ := hrel
      have HB := Lib.hid hb
      have hbs := hb.size
      by_cases hjl : j < l.length
      · obtain ⟨b, q, ea, hbl, vb, vs, vt, y0, y1, y2, hx⟩ := HR.out j hjl
        subst ea
        obtain ⟨ba, cb, rfl, _, _⟩ := hx.1.shape2
        obtain ⟨sa, cs, rfl, _⟩ := hx.2.1.shape
        obtain ⟨ta, ct, rfl, _⟩ := hx.2.2.shape
        have x0 := below_cell hb hbl y0
        have x1 := below_cell hb hbl y1
        have x2 := below_cell hb hbl y2
        have CV := Lib.hid (C1.out _ _ _ _ wr (hx.stays hb))
        have HHV := Lib.hid (fun h => linkF_v (base := base) (b := true) H4.out hno.out hjl h)
        have HHN : Hid (valO (l.getD j default) = 0 → ∀ i, i < j + 1 → valO (l.getD i default) = 0) := Lib.hid (fun h0 i hi => by
          rcases Nat.lt_or_ge i j with h | h
          · exact hno.out i h
          · obtain rfl : i = j := by omega
            exact h0)
        clear hx y0 y1 y2 hb
        generalize l.getD j default = oj at *
        cases hz : (valO oj == 0)
        · have HQ := Lib.hid (HHV.out (by simpa using hz))
          have hne : (valO oj != 0) = true := by simp [bne, hz]
          clear hz
          generalize valO oj = ev at *
          go_wp2_with (go_at_call 14; with_reducible refine CV.out.mono ?_; rintro e w5 ⟨rfl, hb5⟩; have HB5 := Lib.hid (below_next HB.out hbs hb5); clear hb5)
          go_ret
          exact LkP.of HQ.out HB5.out
        · have hz' : valO oj = 0 := by simpa using hz
          have HN := Lib.hid (HHN.out hz')
          rw [hz'] at CV
          clear hz hz'
          go_wp2_with (go_at_call 14; with_reducible refine CV.out.mono ?_; rintro e w5 ⟨rfl, hb5⟩; have HB5 := Lib.hid (below_next HB.out hbs hb5); clear hb5)
          go_roundw
          case rel => exact ⟨j + 1, by omega, by go_num, HN.out, HB5.out⟩
          case measure => simp [intOf]; omega
      · obtain rfl : j = l.length := by omega
        have HAV := Lib.hid (all_getD hno.out)
        obtain ⟨wv, rfl⟩ : ∃ wo : World, wo = wr := ⟨_, rfl⟩
        clear hb
        by_cases hbad : base < 0 ∨ 32768 < base ∨ base.tmod 4 ≠ 0
        · have HQ := Lib.hid (linkF_1 (b := true) H4.out hno.out hbad)
          cases d1 : decide (0 ≤ base)
          case false =>
            clear hbad
            go_wp2_with (go_at_call 42; with_reducible refine (C2.out _ _ _ _).mono ?_; rintro e w' ⟨rfl, rfl⟩; rw [d1])
            go_ret
            exact LkP.of HQ.out HB.out
          case true =>
          cases d2 : decide (base ≤ 32768)
          case false =>
            clear hbad
            go_wp2_with (go_at_call 42; with_reducible refine (C2.out _ _ _ _).mono ?_; rintro e w' ⟨rfl, rfl⟩; rw [d1, d2])
            go_ret
            exact LkP.of HQ.out HB.out
          case true =>
          have b0 : 0 ≤ base := of_decide_eq_true d1
          have b1 : base ≤ 32768 := of_decide_eq_true d2
          have d3 : (base % 4 != 0) = true := by
            rw [Int.tmod_eq_emod_of_nonneg b0] at hbad
            rcases hbad with h | h | h
            · omega
            · omega
            · simpa using h
          clear hbad
          go_wp2_with (go_at_call 42; with_reducible refine (C2.out _ _ _ _).mono ?_; rintro e w' ⟨rfl, rfl⟩; rw [d1, d2])
          go_ret
          exact LkP.of HQ.out HB.out
        · have HLF := Lib.hid (linkF_r (b := true) H4.out hno.out hbad)
          have HM4 : Hid (base.tmod 4 = 0) := Lib.hid (by_contra_tm hbad)
          have b0 : 0 ≤ base := by omega
          have b1 : base ≤ 32768 := by omega
          have d1 : decide (0 ≤ base) = true := decide_eq_true b0
          have d2 : decide (base ≤ 32768) = true := decide_eq_true b1
          have d3 : (base % 4 != 0) = false := by
            have := HM4.out
            rw [Int.tmod_eq_emod_of_nonneg b0] at this
            simpa using this
          clear hbad hno
          go_wp2_with (go_at_call 42; with_reducible refine (C2.out _ _ _ _).mono ?_; rintro e w' ⟨rfl, rfl⟩; rw [d1, d2])
          clear d1 d2 d3
          go_loopw [9, 10, 11, 12] (fun i _ _ _ wr => ∃ j : Nat, j ≤ l.length ∧ i = .int .i64 j ∧ Hid (dupR l j = false) ∧ Below w.heap.size w wr) (fun i _ _ _ _ => l.length - (intOf i).toNat)
          case atStart => exact ⟨0, Nat.zero_le _, rfl, rfl, HB.out⟩
          case round =>
            obtain ⟨i, hi, rfl, hno, hb⟩ := hrel
            have HBa := Lib.hid hb
            by_cases hil : i < l.length
            · obtain ⟨bi, qi, bai, cbi, sai, csi, tai, cti, eai, hbli, -, yi, -, -, hsi, -⟩ := oRow HR.out hil
              have HSI := Lib.hid hsi
              have HYI := Lib.hid yi
              have hleni := (val_len (HAV.out _ (mem_getD' hil))).2.1
              have HDS : Hid (dupI l i = false → dupR l (i + 1) = false) := Lib.hid (fun h => range_step (f := dupI l) hno.out h)
              have HDH := Lib.hid (fun k s t (hk : k < i) hs ht h => dupR_hit (l := l) (i := i) (k := k) (s := s) (t := t) hil hk hs ht h)
              have HDI : Hid (∀ k, dupK l i k = (l.getD i default).s.any fun s => (l.getD k default).s.any fun t => s.n == t.n) := Lib.hid (fun _ => rfl)
              clear hsi yi hb
              generalize l.getD i default = oi at *
              go_wp2_with fail
              obtain ⟨wi, rfl⟩ : ∃ wo : World, wo = wr := ⟨_, rfl⟩
              go_loopw [10, 11, 12] (fun k _ _ wr => ∃ j : Nat, j ≤ i ∧ k = .int .i64 j ∧ Hid ((List.range j).any (dupK l i) = false) ∧ Below w.heap.size w wr) (fun k _ _ _ => i - (intOf k).toNat)
              case atStart => exact ⟨0, Nat.zero_le _, rfl, rfl, HBa.out⟩
              case round =>
                obtain ⟨k, hk, rfl, hnok, hb⟩ := hrel
                have HBb := Lib.hid hb
                by_cases hki : k < i
                · obtain ⟨bk, qk, bak, cbk, sak, csk, tak, ctk, eak, hblk, -, yk, -, -, hsk, -⟩ := oRow HR.out (show k < l.length by omega)
                  subst eai
                  cases eak
                  have HSK := Lib.hid hsk
                  have HYK := Lib.hid yk
                  have hlenk := (val_len (HAV.out _ (mem_getD' (show k < l.length by omega)))).2.1
                  have HKS : Hid (dupK l i k = false → (List.range (k + 1)).any (dupK l i) = false) := Lib.hid (fun h => range_step (f := dupK l i) hnok.out h)
                  have HKH := Lib.hid (HDH.out k)
                  have HKI := Lib.hid (HDI.out k)
                  have xi := below_cell hb hbli HYI.out
                  clear hsk yk hb
                  generalize l.getD k default = ok at *
                  go_wp2_with fail
                  clear xi
                  obtain ⟨wk, rfl⟩ : ∃ wo : World, wo = wr := ⟨_, rfl⟩
                  go_loopw [11, 12] (fun s _ wr => ∃ j : Nat, j ≤ oi.s.length ∧ s = .int .i64 j ∧ Hid ((oi.s.take j).any (fun s => ok.s.any fun t => s.n == t.n) = false) ∧ Below w.heap.size w wr) (fun s _ _ => oi.s.length - (intOf s).toNat)
                  case atStart => exact ⟨0, Nat.zero_le _, rfl, rfl, HBb.out⟩
                  case round =>
                    obtain ⟨s, hs, rfl, hnos, hb⟩ := hrel
                    have HBc := Lib.hid hb
                    have xi := below_cell hb hbli HYI.out
                    have xk := below_cell hb hblk HYK.out
                    by_cases hsl : s < oi.s.length
                    · obtain ⟨b3, q3, ea3, hbl3, u0, -⟩ := HSI.out s hsl
                      subst ea3
                      have HU0 := Lib.hid u0
                      have HSS := Lib.hid (fun h => any_take_step (f := fun s : Sy => ok.s.any fun t => s.n == t.n) hsl hnos.out h)
                      have HSH := Lib.hid (fun t ht h => HKH.out s t hki hsl ht h)
                      clear u0 hb
                      generalize oi.s.getD s default = ys at *
                      obtain ⟨ysn, ysa⟩ := ys
                      go_wp2_with fail
                      clear xi xk
                      obtain ⟨ws, rfl⟩ : ∃ wo : World, wo = wr := ⟨_, rfl⟩
                      go_loopw [12] (fun t wr => ∃ j : Nat, j ≤ ok.s.length ∧ t = .int .i64 j ∧ Hid ((ok.s.take j).any (fun t => ysn == t.n) = false) ∧ Below w.heap.size w wr) (fun t _ => ok.s.length - (intOf t).toNat)
                      case atStart => exact ⟨0, Nat.zero_le _, rfl, rfl, HBc.out⟩
                      case round =>
                        obtain ⟨t, ht, rfl, hnot, hb⟩ := hrel
                        have HBt := Lib.hid hb
                        have xi := below_cell hb hbli HYI.out
                        have xk := below_cell hb hblk HYK.out
                        by_cases htl : t < ok.s.length
                        · obtain ⟨b5, q5, ea5, hbl5, w0, -⟩ := HSK.out t htl
                          subst ea5
                          have v0 := below_cell hb hbl3 HU0.out
                          have v5 := below_cell hb hbl5 w0
                          have HTS := Lib.hid (fun h => any_take_step (f := fun t : Sy => ysn == t.n) htl hnot.out h)
                          have HTH := Lib.hid (HSH.out t htl)
                          have hsz := hb.size
                          clear w0 hb
                          generalize ok.s.getD t default = yt at *
                          obtain ⟨ytn, yta⟩ := yt
                          simp only at v0 v5
                          have i0 : (0 : Int) ≤ (i : Int) := by omega
                          have i1 : (i : Int) < (l.length : Int) := by omega
                          have k0 : (0 : Int) ≤ (k : Int) := by omega
                          have k1 : (k : Int) < (l.length : Int) := by omega
                          have s0 : (0 : Int) ≤ (s : Int) := by omega
                          have s1 : (s : Int) < (oi.s.length : Int) := by omega
                          have t0 : (0 : Int) ≤ (t : Int) := by omega
                          have t1 : (t : Int) < (ok.s.length : Int) := by omega
                          have gb : bi < wr.heap.size := by omega
                          have g3 : b3 < wr.heap.size := by omega
                          have g5 : b5 < wr.heap.size := by omega
                          cases g : (ysn == ytn)
                          case true =>
                            have HD : Hid (dupR l l.length = true) := Lib.hid (HTH.out (by simpa using g))
                            have HQ : Hid (linkF base l true = 7) := Lib.hid (by rw [HLF.out, HD.out]; rfl)
                            go_wp2_with fail
                            go_quiet (fail)
                            go_wp2_with fail
                            go_ret
                            exact LkP.of HQ.out (below_drewN HBt.out _)
                          case false =>
                            have HN := Lib.hid (HTS.out g)
                            go_wp2_with fail
                            go_quiet (fail)
                            go_wp2_with fail
                            go_roundw
                            case rel => exact ⟨t + 1, by omega, by go_num, HN.out, below_drewN HBt.out _⟩
                            case measure => simp [intOf]; omega
                        · obtain rfl : t = ok.s.length := by omega
                          have HN := Lib.hid (HSS.out (by have := hnot.out; rwa [List.take_length] at this))
                          clear hb
                          go_wp2_with fail
                          go_roundw
                          case rel => exact ⟨s + 1, by omega, by go_num, HN.out, HBt.out⟩
                          case measure => simp [intOf]; omega
                    · obtain rfl : s = oi.s.length := by omega
                      have HN := Lib.hid (HKS.out (by rw [HKI.out]; have := hnos.out; rwa [List.take_length] at this))
                      clear hb
                      go_wp2_with fail
                      go_roundw
                      case rel => exact ⟨k + 1, by omega, by go_num, HN.out, HBc.out⟩
                      case measure => simp [intOf]; omega
                · obtain rfl : k = i := by omega
                  have HN := Lib.hid (HDS.out hnok.out)
                  clear hb
                  go_wp2_with fail
                  go_roundw
                  case rel => exact ⟨k + 1, by omega, by go_num, HN.out, HBb.out⟩
                  case measure => simp [intOf]; omega
            · obtain rfl : i = l.length := by omega
              have HND := Lib.hid hno.out
              have HBd := Lib.hid hb
              clear hb hno
              obtain ⟨wd, rfl⟩ : ∃ wo : World, wo = wr := ⟨_, rfl⟩
              go_wp2_with fail
              go_loopw [13, 14, 15, 16] (fun i _ _ _ wr => ∃ j : Nat, j ≤ l.length ∧ i = .int .i64 j ∧ Hid (missB l (syJ base l l.length) j = false) ∧ Below w.heap.size w wr) (fun i _ _ _ _ => l.length - (intOf i).toNat)
              case atStart => exact ⟨0, Nat.zero_le _, rfl, rfl, HBd.out⟩
              case round =>
                obtain ⟨j, hj, rfl, hno, hb⟩ := hrel
                have HBe := Lib.hid hb
                have hbs := hb.size
                by_cases hjl : j < l.length
                · obtain ⟨b, q, ba, cb, sa, cs, ta, ct, ea, hbl, y0, y1, y2, -, -, ht⟩ := oRow HR.out hjl
                  subst ea
                  have x2 := below_cell hb hbl y2
                  have HY2 := Lib.hid y2
                  have HTR := Lib.hid ht
                  have HSTP := Lib.hid (fun h => missB_step (m := syJ base l l.length) hjl hno.out h)
                  have HHT := Lib.hid (fun k hk h => missB_hit (m := syJ base l l.length) (k := k) hjl hk h)
                  have htl := (val_len (HAV.out _ (mem_getD' hjl))).2.2
                  clear ht y0 y1 y2 hb
                  generalize l.getD j default = oj at *
                  go_wp2_with fail
                  clear x2
                  obtain ⟨wo, rfl⟩ : ∃ wo : World, wo = wr := ⟨_, rfl⟩
                  go_loopw [14, 15, 16] (fun i _ _ wr => ∃ k : Nat, k ≤ oj.t.length ∧ i = .int .i64 k ∧ Hid ((oj.t.take k).any (fun x => (lookM (syJ base l l.length) x.n).isNone) = false) ∧ Below w.heap.size w wr) (fun i _ _ _ => oj.t.length - (intOf i).toNat)
                  case atStart => exact ⟨0, Nat.zero_le _, rfl, rfl, HBe.out⟩
                  case round =>
                    obtain ⟨k, hk, rfl, hnk, hb⟩ := hrel
                    have HBf := Lib.hid hb
                    have x2 := below_cell hb hbl HY2.out
                    by_cases hkl : k < oj.t.length
                    · obtain ⟨b', q', ea, hbl', u0, u1, u2, u3⟩ := HTR.out k hkl
                      subst ea
                      have v2 := below_cell hb hbl' u2
                      have HN2 := Lib.hid (fun h => any_take_step (f := fun x : Wn => (lookM (syJ base l l.length) x.n).isNone) hkl hnk.out h)
                      have HH2 := Lib.hid (HHT.out k hkl)
                      clear u0 u1 u2 u3
                      generalize oj.t.getD k default = y at *
                      obtain ⟨ya, yk, yn, yp⟩ := y
                      simp only at v2
                      have C4 := Lib.hid (address_any l _ base yn wr (HOB.out.stays hb) (by omega) HAV.out b0 b1 HM4.out)
                      clear hb
                      cases hlm : lookM (syJ base l l.length) yn with
                      | none =>
                        have HQ : Hid (linkF base l true = 4) := Lib.hid (by rw [HLF.out, HND.out, HH2.out hlm]; rfl)
                        have HE := Lib.hid (adrE_none hlm)
                        clear hlm
                        rw [HE.out] at C4
                        go_wp2_with (go_at_call 47; with_reducible refine C4.out.mono ?_; rintro e w5 ⟨rfl, hb5⟩; have HB5 := Lib.hid (below_next HBf.out HBf.out.size hb5); clear hb5)
                        go_ret
                        exact LkP.of HQ.out HB5.out
                      | some av =>
                        have HN := Lib.hid (HN2.out (by simp only [hlm]; rfl))
                        have HE := Lib.hid (adrE_some hlm)
                        clear hlm
                        rw [HE.out] at C4
                        go_wp2_with (go_at_call 47; with_reducible refine C4.out.mono ?_; rintro e w5 ⟨rfl, hb5⟩; have HB5 := Lib.hid (below_next HBf.out HBf.out.size hb5); clear hb5)
                        go_roundw
                        case rel => exact ⟨k + 1, by omega, by go_num, HN.out, HB5.out⟩
                        case measure => simp [intOf]; omega
                    · obtain rfl : k = oj.t.length := by omega
                      have HN : Hid (missB l (syJ base l l.length) (j + 1) = false) := HSTP.out (by have := hnk.out; rwa [List.take_length] at this)
                      clear hb
                      go_wp2_with fail
                      go_roundw
                      case rel => exact ⟨j + 1, by omega, by go_num, HN.out, HBf.out⟩
                      case measure => simp [intOf]; omega
                · obtain rfl : j = l.length := by omega
                  have C3 := Lib.hid (starts_any l _ base wr (HOB.out.stays hb) (by omega) (val_bytes HAV.out) b0 b1 HM4.out)
                  have HRF : Hid (linkF base l true = if 32768 < base + zJ l l.length then 3 else 0) := Lib.hid (by rw [HLF.out, HND.out, hno.out]; rfl)
                  have hrng := zJ_bd (val_bytes HAV.out) l.length (Nat.le_refl _)
                  have hrn0 := zJ_nn l l.length
                  clear hb
                  cases d5 : decide (32768 < base + zJ l l.length)
                  case true =>
                    have HQ := Lib.hid (HRF.out.trans (if_pos (of_decide_eq_true d5)))
                    go_wp2_with (go_at_call 46; with_reducible refine C3.out.mono ?_; rintro e w5 ⟨v5, rfl, hr5, hb5⟩; have HB5 := Lib.hid (below_next HBe.out hbs hb5); clear hr5 hb5)
                    all_goals
                      go_ret
                      exact LkP.of HQ.out HB5.out
                  case false =>
                    have HQ := Lib.hid (HRF.out.trans (if_neg (of_decide_eq_false d5)))
                    go_wp2_with (go_at_call 46; with_reducible refine C3.out.mono ?_; rintro e w5 ⟨v5, rfl, hr5, hb5⟩; have HB5 := Lib.hid (below_next HBe.out hbs hb5); clear hr5 hb5)
                    all_goals
                      go_ret
                      exact LkP.of HQ.out HB5.out
theorem linkF_zero {base : Int} {l : List Ob} {b : Bool} (h : linkF base l b = 0) : l.length ≤ 4 ∧ (∀ o ∈ l, valO o = 0) ∧ 0 ≤ base ∧ base ≤ 32768 ∧ base.tmod 4 = 0 ∧ dupR l l.length = false ∧ (b && missB l (syJ base l l.length) l.length) = false ∧ base + zJ l l.length ≤ 32768 := by
  unfold linkF at h
  by_cases h1 : 4 < l.length
  · rw [if_pos h1] at h; cases h
  · rw [if_neg h1] at h
    by_cases h2 : firstE l ≠ 0
    · rw [if_pos h2] at h; exact absurd h h2
    · rw [if_neg h2] at h
      by_cases h3 : base < 0 ∨ 32768 < base ∨ base.tmod 4 ≠ 0
      · rw [if_pos h3] at h; cases h
      · rw [if_neg h3] at h
        cases h4 : dupR l l.length with
        | true => rw [h4] at h; cases h
        | false =>
          rw [h4, if_neg (by simp)] at h
          cases h5 : (b && missB l (syJ base l l.length) l.length) with
          | true => rw [h5] at h; cases h
          | false =>
            rw [h5, if_neg (by simp)] at h
            by_cases h6 : 32768 < base + zJ l l.length
            · rw [if_pos h6] at h; cases h
            · exact ⟨by omega, firstE_zero (by omega), by omega, by omega, by_contra_tm h3, rfl, rfl, by omega⟩
set_option maxHeartbeats 2000000 in
theorem rFind_any (l : List Ob) (lv : Value) (base n : Int) (w : World) (h : Obs w lv l) : Calls Tryz.prog 19 #[lv, .int .i64 base, .int .i64 n] w fun e w' =>
    e = .returned (.tuple #[.int .i64 (findP base l n).1, .bool (findP base l n).2.1, .int .i64 (findP base l n).2.2]) ∧ Below w.heap.size w w' := by
  have C1 := Lib.hid (linked_false l lv base w h)
  have HF := Lib.hid (linkF_find base l n)
  unfold LkP at C1
  cases hz : (linkF base l false == 0)
  · have hz' : linkF base l false ≠ 0 := by simpa using hz
    have HQ : Hid (findP base l n = (0, false, linkF base l false)) := Lib.hid (by rw [HF.out, if_pos hz'])
    have hne : (linkF base l false != 0) = true := by simp [bne, hz]
    clear h hz hz' HF
    generalize linkF base l false = ev at *
    go_enter Tryz.func19, Tryz.ntmps19
    go_wp2_with (go_at_call 45; with_reducible refine C1.out.mono ?_; rintro e w1 ⟨rfl, hb⟩; have HB := Lib.hid hb; clear hb)
    refine bodyPost_ret (v := .tuple #[.int .i64 0, .bool false, .int .i64 ev]) (by simp [results, Tryz.results19, go_sem]) rfl ⟨by rw [HQ.out], HB.out⟩
  · have hz' : linkF base l false = 0 := by simpa using hz
    obtain ⟨g1, g2, g3, g4, g5, g6, g7, g8⟩ := linkF_zero hz'
    have C2 := Lib.hid (fun w' (hb : Below w.heap.size w w') => address_any l lv base n w' (h.stays hb) g1 g2 g3 g4 g5)
    have HQ : Hid (findP base l n = match lookM (syJ base l l.length) n with | some a => (a, true, (0 : Int)) | none => (0, false, (0 : Int))) := Lib.hid (by rw [HF.out, if_neg (by simpa using hz')]; cases lookM (syJ base l l.length) n <;> rfl)
    rw [hz'] at C1
    clear h hz hz' HF g2 g5 g6 g7 g8
    cases hk : lookM (syJ base l l.length) n with
    | none =>
      have HE := Lib.hid (adrE_none hk)
      have HR : Hid (findP base l n = (0, false, 0)) := Lib.hid (by rw [HQ.out, hk])
      clear hk HQ
      go_enter Tryz.func19, Tryz.ntmps19
      go_wp2_with (first | (go_at_call 45; with_reducible refine C1.out.mono ?_; rintro e w1 ⟨rfl, hb⟩; have HB := Lib.hid hb; clear hb) | (go_at_call 47; with_reducible refine (C2.out _ HB.out).mono ?_; rintro e w2 ⟨he, hb2⟩; have HB2 := Lib.hid (below_hop HB.out hb2); rw [HE.out] at he; subst he; clear hb2))
      refine bodyPost_ret (v := .tuple #[.int .i64 0, .bool false, .int .i64 0]) (by simp [results, Tryz.results19, go_sem]) rfl ⟨by rw [HR.out], HB2.out⟩
    | some av =>
      have HE := Lib.hid (adrE_some hk)
      have HR : Hid (findP base l n = (av, true, 0)) := Lib.hid (by rw [HQ.out, hk])
      clear hk HQ
      go_enter Tryz.func19, Tryz.ntmps19
      go_wp2_with (first | (go_at_call 45; with_reducible refine C1.out.mono ?_; rintro e w1 ⟨rfl, hb⟩; have HB := Lib.hid hb; clear hb) | (go_at_call 47; with_reducible refine (C2.out _ HB.out).mono ?_; rintro e w2 ⟨he, hb2⟩; have HB2 := Lib.hid (below_hop HB.out hb2); rw [HE.out] at he; subst he; clear hb2))
      refine bodyPost_ret (v := .tuple #[.int .i64 av, .bool true, .int .i64 0]) (by simp [results, Tryz.results19, go_sem]) rfl ⟨by rw [HR.out], HB2.out⟩
set_option maxHeartbeats 2000000 in
theorem wPlaceFinds (l : List Ob) (lv : Value) (base n : Int) (w : World) (h : Obs w lv l) (hwf : ∀ o ∈ l, ObF o) (hn : I64n n) : Calls Tryz.prog 5 #[lv, .int .i64 base, .int .i64 n] w fun e w' => e = .returned (.bool true) ∧ Below w.heap.size w w' := by
  have C1 := Lib.hid (long22 l lv w h)
  have C2 := Lib.hid (pFind_any l lv base n w h hwf hn)
  have C3 := Lib.hid (fun w' (hb : Below w.heap.size w w') => rFind_any l lv base n w' (h.stays hb))
  have C4 := Lib.hid known22
  clear h hwf hn
  cases hl : longB l with
  | true =>
    rw [hl] at C1
    go_enter Tryz.func5, Tryz.ntmps5
    go_wp2_with (first | (go_at_call 11; with_reducible refine C1.out.mono ?_; rintro e w' ⟨rfl, rfl⟩) | (go_at_call 12; with_reducible refine (C4.out _).mono ?_; rintro e w2 ⟨rfl, hb2⟩))
    go_ret
    exact ⟨rfl, hb2⟩
  | false =>
    rw [hl] at C1
    generalize findP base l n = r at *
    obtain ⟨r1, r2, r3⟩ := r
    simp only at C2 C3
    have hr2 : (r2 == r2) = true := by simp
    go_enter Tryz.func5, Tryz.ntmps5
    go_wp2_with (first | (go_at_call 11; with_reducible refine C1.out.mono ?_; rintro e w' ⟨rfl, rfl⟩) | ((go_at_call 18; with_reducible refine C2.out.mono ?_); rintro e w2 ⟨rfl, hb2⟩; have HB2 := Lib.hid hb2; clear hb2) | ((go_at_call 19; with_reducible refine (C3.out _ HB2.out).mono ?_); rintro e w3 ⟨rfl, hb3⟩; have HB3 := Lib.hid (below_hop HB2.out hb3); clear hb3) | (go_at_call 12; with_reducible refine (C4.out _).mono ?_; rintro e w4 ⟨rfl, hb4⟩))
    go_ret
    exact ⟨rfl, below_hop HB3.out hb4⟩
def stA (base : Int) (l : List Ob) : Im := ⟨(List.range l.length).map (pJ l), zJ l l.length, syJ base l l.length⟩
theorem stA_get {base : Int} {l : List Ob} {j : Nat} (h : j < l.length) : (stA base l).p.getD j 0 = pJ l j := by
  unfold stA
  simp only
  rw [List.getD_eq_getElem?_getD, List.getElem?_map, List.getElem?_range h]; rfl
theorem LinkP.yes {base : Int} {l : List Ob} {w w' : World} {v : Value} (h0 : linkF base l true = 0) (hv : Ints .u8 w' v (linkJ base l (stA base l) l.length)) (hb : Below w.heap.size w w') : LinkP base l w (.returned (.tuple #[v, .int .i64 0])) w' := by
  have h := linkF_link base l
  rw [h0] at h
  obtain ⟨-, g2, -, -, -, g6, -, -⟩ := linkF_zero h0
  refine ⟨v, by rw [← h], fun hn => absurd h.symm hn, fun _ st hst => ?_, hb⟩
  rw [arrL_all g2, g6, if_neg (by simp)] at hst
  cases hst
  exact hv
theorem pJ_end {l : List Ob} : ∀ n, n ≤ l.length → ∀ j, j < n → pJ l j + (l.getD j default).b.length ≤ zJ l n
  | 0, _, j, h => absurd h (Nat.not_lt_zero _)
  | n + 1, hn, j, hj => by
    have e : zJ l (n + 1) = nextAt (zJ l n) + ((l.getD n default).b.length : Int) := rfl
    rcases Nat.lt_or_ge j n with h | h
    · have := pJ_end (l := l) n (by omega) j h
      have : zJ l n ≤ nextAt (zJ l n) := by unfold nextAt; omega
      omega
    · obtain rfl : j = n := by omega
      rw [e]; exact Int.le_refl _
theorem take_snocD {xs : List Int} {k : Nat} (h : k < xs.length) : xs.take (k + 1) = xs.take k ++ [xs.getD k 0] := by
  rw [List.take_add_one, List.getElem?_eq_getElem h, List.getD_eq_getElem?_getD, List.getElem?_eq_getElem h]; rfl
theorem linkF_sy {base : Int} {l : List Ob} (h : linkF base l true = 0) : ∀ q ∈ syJ base l l.length, base ≤ q.2 ∧ q.2 ≤ base + zJ l l.length := by
  obtain ⟨-, g2, -, -, -, g6, -, -⟩ := linkF_zero h
  have e := arrL_all (base := base) g2
  rw [g6, if_neg (by simp)] at e
  exact (arrL_vals (base := base) (l := l) (j := l.length) g2 (Nat.le_refl _) (by rw [List.take_length]; exact e)).2
theorem qrl5 {p : Prop} (h : p := by
  have hNb : -200000000000 ≤ N ∧ N ≤ 200000000000 := by omega
  clear hN hN6
  go_loopw [16] (fun i wr => ∃ c : Nat, c ≤ 4 ∧ i = .int .i64 c ∧ OInts .u8 wr D (setK out (pn + yan) N c) ∧ Below w.heap.size w wr ∧ Below D w2 wr ∧ wr.cell? ⟨C, 0, none⟩ = some (.int .i64 yan) ∧ C < wr.heap.size) (fun i _ => 4 - (intOf i).toNat)
  case atStart => exact ⟨0, by omega, rfl, HO5.out, HB5.out, HG5.out, HT5.out.at 0 _ rfl, hl5⟩
  case round =>
    obtain ⟨c5, hc5, rfl, ho5, hb5, hg5, ht5, hC5⟩ := hrel
    have HO6 := Lib.hid ho5
    have HB6 := Lib.hid hb5
    have HG6 := Lib.hid hg5
    by_cases hcl : c5 < 4
    · have hlen5 : (setK out (pn + yan) N c5).length = zn := by rw [setK_length, hL1.out]
      have d1 := ho5.cell (i := pn + yan + c5) (by rw [hlen5]; omega)
      have f1 := ho5.free (i := pn + yan + c5) (by rw [hlen5]; omega)
      have HS5 : Hid (OInts .u8 ((wr.drewN 1).setCell ⟨D, pn + yan + c5, none⟩ (.int .u8 (by4 N c5))) D (setK out (pn + yan) N (c5 + 1))) := Lib.hid ((ho5.drewN 1).set (i := pn + yan + c5) (by rw [hlen5]; omega) (by4 N c5))
      have HT6 : Hid (∀ v, ((wr.drewN 1).setCell ⟨D, pn + yan + c5, none⟩ v).cell? ⟨C, 0, none⟩ = some (.int .i64 yan)) := Lib.hid (fun v => by rw [World.cell?_setCell_other _ _ _ _ (by intro hh; have hh1 := congrArg Addr.block hh; simp only at hh1; omega)]; exact below_cell (below_drewN (Below.refl wr.heap.size wr) 1) hC5 ht5)
      have hi0 : (0 : Int) ≤ (pn : Int) + yan := by omega
      have hi1 : (pn : Int) + yan + 3 < (zn : Int) := by omega
      have xc := below_cell hg5 hbp HCP.out
      have es : base + (pn : Int) - base = (pn : Int) := by omega
      have j0 : (0 : Int) ≤ (j : Int) := by omega
      have j1 : (j : Int) < (ln : Int) := by have := HSL.out; omega
      have gD' : D < wr.heap.size := ho5.1
      have gbp : bp < wr.heap.size := by omega
      clear ho5 hb5 hg5 hlen5
      have hcc : c5 = 0 ∨ c5 = 1 ∨ c5 = 2 ∨ c5 = 3 := by omega
      generalize hgd : (setK out (pn + yan) N c5).getD (pn + yan + c5) 0 = gd at d1
      clear hgd
      rcases hcc with rfl | rfl | rfl | rfl
      · simp only [Nat.add_zero] at d1 f1 HS5
        have hv : by4 N 0 = N % 256 := by unfold by4; simp
        rw [hv] at HS5
        go_wp2_with fail
        go_region
        go_wp2_with fail
        go_roundw
        case rel => exact ⟨1, by omega, by go_num, HS5.out, below_at (below_drewN HB6.out 1) hDw _ _, below_at (below_drewN HG6.out 1) (Nat.le_refl _) _ _, HT6.out _, by simpa using hC5⟩
        case measure => simp [intOf]
      · have hv : by4 N 1 = N % 4294967296 / 256 % 256 := by
          unfold by4
          rw [show (2 : Int) ^ (8 * 1) = 256 from rfl]
          omega
        rw [hv] at HS5
        go_wp2_with fail
        go_region
        go_wp2_with fail
        go_roundw
        case rel => exact ⟨2, by omega, by go_num, HS5.out, below_at (below_drewN HB6.out 1) hDw _ _, below_at (below_drewN HG6.out 1) (Nat.le_refl _) _ _, HT6.out _, by simpa using hC5⟩
        case measure => simp [intOf]
      · have hv : by4 N 2 = N % 4294967296 / 65536 % 256 := by
          unfold by4
          rw [show (2 : Int) ^ (8 * 2) = 65536 from rfl]
          omega
        rw [hv] at HS5
        go_wp2_with fail
        go_region
        go_wp2_with fail
        go_roundw
        case rel => exact ⟨3, by omega, by go_num, HS5.out, below_at (below_drewN HB6.out 1) hDw _ _, below_at (below_drewN HG6.out 1) (Nat.le_refl _) _ _, HT6.out _, by simpa using hC5⟩
        case measure => simp [intOf]
      · have hv : by4 N 3 = N % 4294967296 / 16777216 := by
          unfold by4
          rw [show (2 : Int) ^ (8 * 3) = 16777216 from rfl]
          omega
        rw [hv] at HS5
        go_wp2_with fail
        go_region
        go_wp2_with fail
        go_roundw
        case rel => exact ⟨4, by omega, by go_num, HS5.out, below_at (below_drewN HB6.out 1) hDw _ _, below_at (below_drewN HG6.out 1) (Nat.le_refl _) _ _, HT6.out _, by simpa using hC5⟩
        case measure => simp [intOf]
    · obtain rfl : c5 = 4 := by omega
      have HF : Hid (OInts .u8 wr D (wantsL base (syJ base l l.length) pn L1 (oj.t.take (k + 1)))) := Lib.hid (by
        rw [hS.out, hw.out]
        exact ho5)
      clear ho5 hb5 hg5
      go_wp2_with fail
      go_roundw
      case rel => exact ⟨k + 1, by omega, by go_num, HF.out, HB6.out, HG6.out⟩
      case measure => simp [intOf]; omega
 ) : p := h
set_option maxHeartbeats 8000000 in
theorem rLink_any (l : List Ob) (lv : Value) (base : Int) (w : World) (h : Obs w lv l) : Calls Tryz.prog 16 #[lv, .int .i64 base] w fun e w' => LinkP base l w e w' := by
  have C1 := Lib.hid (linked_true l lv base w h)
  unfold LkP at C1
  cases hz : (linkF base l true == 0)
  · have hz' : linkF base l true ≠ 0 := by simpa using hz
    have HQ := Lib.hid (linkF_link base l).symm
    have HN := Lib.hid hz'
    have hne : (linkF base l true != 0) = true := by simp [bne, hz]
    clear h hz hz'
    generalize linkF base l true = ev at *
    go_enter Tryz.func16, Tryz.ntmps16
    go_wp2_with (go_at_call 45; with_reducible refine C1.out.mono ?_; rintro e w1 ⟨rfl, hb⟩; have HB := Lib.hid hb; clear hb)
    refine bodyPost_ret (v := .tuple #[.slice none 0 0, .int .i64 ev]) (by simp [results, Tryz.results16, go_sem]) rfl (LinkP.no HQ.out HN.out HB.out)
  · have hz' : linkF base l true = 0 := by simpa using hz
    have HF0 := Lib.hid hz'
    obtain ⟨g1, g2, g3, g4, g5, g6, g7, g8⟩ := linkF_zero hz'
    have HSV := Lib.hid (linkF_sy hz')
    have C2 := Lib.hid (fun w' (hb : Below w.heap.size w w') => starts_any l lv base w' (h.stays hb) g1 (val_bytes g2) g3 g4 g5)
    have C3 := Lib.hid (fun n w' (hb : Below w.heap.size w w') => address_any l lv base n w' (h.stays hb) g1 g2 g3 g4 g5)
    have HAV := Lib.hid g2
    have HMS : Hid (missB l (syJ base l l.length) l.length = false) := Lib.hid (by simpa using g7)
    rw [hz'] at C1
    obtain ⟨a, c, rfl, h1, h2, h3⟩ := h.shape
    have HR := Lib.hid h3
    have hz0 := zJ_nn l l.length
    have HPE := Lib.hid (pJ_end (l := l) l.length (Nat.le_refl _))
    have HP0 : Hid (∀ j, 0 ≤ pJ l j) := Lib.hid (fun j => by have := zJ_nn l j; unfold pJ nextAt; omega)
    have HST : Hid ((stA base l).z = zJ l l.length) := Lib.hid rfl
    have HSM : Hid ((stA base l).m = syJ base l l.length) := Lib.hid rfl
    have HSG := Lib.hid (fun j => stA_get (base := base) (l := l) (j := j))
    have HLN := Lib.hid (linkJ_length base l (stA base l))
    clear h h3 hz hz' g2 g5 g6 g7
    generalize zJ l l.length = z at *
    obtain ⟨zn, rfl⟩ := Int.eq_ofNat_of_zero_le hz0
    have hzn : zn ≤ 32768 := by omega
    obtain ⟨ii0, hii0, hzz0, hzz1, hzz2⟩ := info_parts info_u8b
    go_enter Tryz.func16, Tryz.ntmps16
    go_upto_region 5 with (first | (go_at_call 45; with_reducible refine C1.out.mono ?_; rintro e w1 ⟨rfl, hb⟩; have HB := Lib.hid hb; clear hb) | (go_at_call 46; with_reducible refine (C2.out _ HB.out).mono ?_; rintro e w2 ⟨v2, rfl, hr2, hb2⟩; obtain ⟨va, vc, rfl⟩ := hr2.shape; have HS := Lib.hid (hr2.ints (by rw [stL_length]; omega)); have HB2 := Lib.hid (below_hop HB.out hb2); clear hr2 hb2))
    clear C1 C2
    have hsub : base + (zn : Int) - base = (zn : Int) := by omega
    go_wp2_with (at_make; refine wpList_make_full _ rfl _ _ 22 rfl w2.heap.size 5 ii0 (.int .u8 0) 1 Tryz.underlying22 hii0 hzz0 hzz1 .i64 .i64 _ _ zn rfl rfl rfl rfl ?d1 ?d2 ?d3 ?_)
    case d1 => first | omega | (rw [hzz2]; omega)
    case d2 => first | omega | exact Nat.le_refl _ | (unfold maxLen; omega)
    case d3 => first | omega | exact Nat.le_refl _ | (unfold maxLen; omega)
    intro w3 hown hgr
    have hO : OInts .u8 w3 w2.heap.size (linkJ base l (stA base l) 0) := by
      show OInts .u8 w3 w2.heap.size (List.replicate (stA base l).z.toNat 0)
      rw [HST.out]
      exact (OInts.made hown : OInts .u8 w3 w2.heap.size (List.replicate zn 0))
    have hb3 := below_made hgr
    have HO3 := Lib.hid hO
    have HB3 : Hid (Below w.heap.size w w3) := below_hop HB2.out hb3
    have hDw : w.heap.size ≤ w2.heap.size := HB2.out.size
    obtain ⟨vap, cp, ep, hp1, _, _, hp4⟩ := HS.out
    cases ep
    have hp5 : ∃ bp op, ∀ j, j < l.length → va = some ⟨bp, op, none⟩ ∧ bp < w2.heap.size ∧ w2.cell? ⟨bp, op + j, none⟩ = some (.int .i64 (base + pJ l j)) := by
      by_cases hl0 : 0 < l.length
      · obtain ⟨bp, op, e1, _, _⟩ := hp4 0 (by rw [stL_length]; exact hl0)
        refine ⟨bp, op, fun j hj => ?_⟩
        obtain ⟨bp', op', e2, hbp, hcp⟩ := hp4 j (by rw [stL_length]; exact hj)
        rw [e1] at e2
        cases e2
        rw [Nat.mul_one, stL_get hj] at hcp
        exact ⟨e1, hbp, hcp⟩
      · exact ⟨0, 0, fun j hj => absurd hj (by omega)⟩
    obtain ⟨bp, op, hp6⟩ := hp5
    have HP6 := Lib.hid hp6
    have HSL := Lib.hid (stL_length base l l.length)
    have hbpD : bp ≠ w2.heap.size ∨ l.length = 0 := by
      by_cases hl0 : 0 < l.length
      · have := (hp6 0 hl0).2.1; left; omega
      · right; omega
    have HG2 := Lib.hid hb3
    clear hown hgr hO hb3 hp4 hp6 HS
    generalize hD : w2.heap.size = D at *
    generalize (stL base l l.length).length = ln at *
    go_wp2_with fail
    go_loopw [10, 11, 12, 13, 14, 15, 16] (fun i _ _ _ _ _ _ wr => ∃ j : Nat, j ≤ l.length ∧ i = .int .i64 j ∧ OInts .u8 wr D (linkJ base l (stA base l) j) ∧ Below w.heap.size w wr ∧ Below D w2 wr) (fun i _ _ _ _ _ _ _ => l.length - (intOf i).toNat)
    case atStart => exact ⟨0, Nat.zero_le _, rfl, HO3.out, HB3.out, HG2.out⟩
    case round =>
      obtain ⟨j, hj, rfl, ho, hb, hg⟩ := hrel
      have HO := Lib.hid ho
      have HBj := Lib.hid hb
      have HGj := Lib.hid hg
      by_cases hjl : j < l.length
      · obtain ⟨b, q, ba, cb, sa, cs, ta, ct, ea, hbl, y0, y1, y2, hbi, -, ht⟩ := oRow HR.out hjl
        subst ea
        obtain ⟨ep, hbp, hcp⟩ := HP6.out j hjl
        subst ep
        have x0 := below_cell hb hbl y0
        have HY0 := Lib.hid y0
        have HY2 := Lib.hid y2
        have HBI := Lib.hid hbi
        have HTR := Lib.hid ht
        have HCP := Lib.hid hcp
        have hpe := HPE.out j hjl
        have hp0 := HP0.out j
        have HPJ := Lib.hid (HSG.out j hjl)
        have HSTEP := Lib.hid (linkJ_step base l (stA base l) j)
        have HOV := Lib.hid (want_ok (HAV.out _ (mem_getD' hjl)))
        have HMJ := Lib.hid (fun k hk => missB_some HMS.out hjl (k := k) hk)
        have htl := (val_len (HAV.out _ (mem_getD' hjl))).2.2
        have hlj := HLN.out j
        clear y0 y1 y2 hbi ht hcp hb hg ho
        rw [HPJ.out] at HSTEP
        generalize l.getD j default = oj at *
        generalize pJ l j = pj at *
        obtain ⟨pn, rfl⟩ := Int.eq_ofNat_of_zero_le hp0
        have hpz : pn + oj.b.length ≤ zn := by omega
        have hLL : Hid ((linkJ base l (stA base l) j).length = zn) := Lib.hid (by rw [hlj, HST.out]; simp)
        generalize hL0 : linkJ base l (stA base l) j = L0 at *
        clear hL0 hlj
        go_wp2_with fail
        clear x0
        obtain ⟨wo, rfl⟩ : ∃ wo : World, wo = wr := ⟨_, rfl⟩
        go_loopw [11] (fun i wr => ∃ k : Nat, k ≤ oj.b.length ∧ i = .int .i64 k ∧ OInts .u8 wr D (setL L0 pn (oj.b.take k)) ∧ Below w.heap.size w wr ∧ Below D w2 wr) (fun i _ => oj.b.length - (intOf i).toNat)
        case atStart => exact ⟨0, Nat.zero_le _, rfl, HO.out, HBj.out, HGj.out⟩
        case round =>
          obtain ⟨k, hk, rfl, ho, hb, hg⟩ := hrel
          have HOk := Lib.hid ho
          have HBk := Lib.hid hb
          have HGk := Lib.hid hg
          have x0 := below_cell hb hbl HY0.out
          by_cases hkl : k < oj.b.length
          · have xc := below_cell hg hbp HCP.out
            obtain ⟨bb, ob, cc, eb, _, hbb, hcb⟩ := Ints.at (HBI.out.stays hb) hkl
            cases eb
            have hlk : (setL L0 pn (oj.b.take k)).length = zn := by rw [setL_length, hLL.out]
            have d1 := ho.cell (i := pn + k) (by rw [hlk]; omega)
            have f1 := ho.free (i := pn + k) (by rw [hlk]; omega)
            have HST5 : Hid (OInts .u8 ((wr.drewN 1).setCell ⟨D, pn + k, none⟩ (.int .u8 (oj.b.getD k 0))) D (setL L0 pn (oj.b.take (k + 1)))) := by
              refine Lib.hid ?_
              have := (ho.drewN 1).set (i := pn + k) (by rw [hlk]; omega) (oj.b.getD k 0)
              rw [take_snocD hkl, setL_snoc, List.length_take, Nat.min_eq_left (by omega)]
              exact this
            have j0 : (0 : Int) ≤ (j : Int) := by omega
            have j1 : (j : Int) < (ln : Int) := by have := HSL.out; omega
            have j2 : (j : Int) < (l.length : Int) := by omega
            have k0 : (0 : Int) ≤ (k : Int) := by omega
            have k1 : (k : Int) < (oj.b.length : Int) := by omega
            have m0 : (0 : Int) ≤ (pn : Int) + k := by omega
            have m1 : (pn : Int) + k < (zn : Int) := by omega
            have es : base + (pn : Int) - base = (pn : Int) := by omega
            have gD : D < wr.heap.size := ho.1
            generalize oj.b.getD k 0 = bk at *
            generalize (setL L0 pn (oj.b.take k)).getD (pn + k) 0 = gd at d1
            clear ho hb hg hlk
            go_wp2_with fail
            go_region
            go_wp2_with fail
            go_roundw
            case rel => exact ⟨k + 1, by omega, by go_num, HST5.out, below_at (below_drewN HBk.out 1) hDw _ _, below_at (below_drewN HGk.out 1) (Nat.le_refl _) _ _⟩
            case measure => simp [intOf]; omega
          · obtain rfl : k = oj.b.length := by omega
            have HO1 : Hid (OInts .u8 wr D (setL L0 pn oj.b)) := Lib.hid (by rw [List.take_length] at ho; exact ho)
            have HL1 : Hid ((setL L0 pn oj.b).length = zn) := Lib.hid (by rw [setL_length, hLL.out])
            have HSP2 : Hid (linkJ base l (stA base l) (j + 1) = wantsL base (syJ base l l.length) pn (setL L0 pn oj.b) oj.t) := Lib.hid (by rw [HSTEP.out, objL, HSM.out]; rfl)
            have x2 := below_cell hb hbl HY2.out
            clear ho hb hg HSTEP
            generalize setL L0 pn oj.b = L1 at *
            go_wp2_with fail
            clear x0 x2
            obtain ⟨wp, rfl⟩ : ∃ wo : World, wo = wr := ⟨_, rfl⟩
            go_loopw [12, 13, 14, 15, 16] (fun i _ _ _ _ wr => ∃ k : Nat, k ≤ oj.t.length ∧ i = .int .i64 k ∧ OInts .u8 wr D (wantsL base (syJ base l l.length) pn L1 (oj.t.take k)) ∧ Below w.heap.size w wr ∧ Below D w2 wr) (fun i _ _ _ _ _ => oj.t.length - (intOf i).toNat)
            case atStart => exact ⟨0, Nat.zero_le _, rfl, HO1.out, HBk.out, HGk.out⟩
            case round =>
              obtain ⟨k, hk, rfl, ho, hb, hg⟩ := hrel
              have HOk := Lib.hid ho
              have HBw := Lib.hid hb
              have HGw := Lib.hid hg
              have x2 := below_cell hb hbl HY2.out
              by_cases hkl : k < oj.t.length
              · obtain ⟨b', q', ea, hbl', u0, u1, u2, u3⟩ := HTR.out k hkl
                subst ea
                have v0 := below_cell hb hbl' u0
                have v1 := below_cell hb hbl' u1
                have v2 := below_cell hb hbl' u2
                have v3 := below_cell hb hbl' u3
                have hyb := HOV.out _ (mem_getD' hkl)
                obtain ⟨av, hav⟩ := HMJ.out k hkl
                have HST4 := Lib.hid (wantsL_step (base := base) (m := syJ base l l.length) (p := (pn : Int)) (out := L1) hkl)
                clear u0 u1 u2 u3
                generalize oj.t.getD k default = y at *
                obtain ⟨ya, yk, yn, yp⟩ := y
                simp only at v0 v1 v2 v3 hyb hav
                obtain ⟨⟨ha0, ha1⟩, hk01, ⟨hn0, hn1⟩, hp0', hp1'⟩ := hyb
                obtain ⟨yan, rfl⟩ := Int.eq_ofNat_of_zero_le ha0
                have hvb := lookM_bd HSV.out hav
                have HE := Lib.hid (adrE_some (base := base) hav)
                have HAVV := Lib.hid hav
                have hne : ¬ b' = wr.heap.size := by have := hb.size; omega
                have gD : D < wr.heap.size := ho.1
                clear hav ho hb hg
                go_upto_region 17 with fail
                generalize hWc : wr.alloc (.cells #[.int .i64 yan, .int .i64 yk, .int .i64 yn, .int .i64 yp] 43) = Wc
                have BC : Hid (Below wr.heap.size wr Wc) := by rw [← hWc]; exact (Below.refl _ _).alloc (Nat.le_refl _) _
                have HT : Hid (Cls Wc wr.heap.size [.int .i64 yan, .int .i64 yk, .int .i64 yn, .int .i64 yp]) := by rw [← hWc]; exact Cls.made
                have hlc : wr.heap.size < Wc.heap.size := by rw [← hWc]; simp
                have HBc := Lib.hid (below_next HBw.out HBw.out.size BC.out)
                have HGc := Lib.hid (below_next HGw.out (by omega) BC.out)
                have HOc := Lib.hid (HOk.out.below BC.out)
                have C4 := Lib.hid (C3.out yn Wc HBc.out)
                rw [HE.out] at C4
                have t2 := HT.out.at 2 (.int .i64 yn) rfl
                clear hWc v0 v1 v2 v3 x2
                go_upto_region 18 with (go_at_call 47; with_reducible refine C4.out.mono ?_; rintro e w5 ⟨rfl, hb5⟩)
                have HT5 := Lib.hid (HT.out.below hlc hb5)
                have HB5 := Lib.hid (below_next HBc.out HBc.out.size hb5)
                have HG5 := Lib.hid (below_next HGc.out (by omega) hb5)
                have HO5 := Lib.hid (HOc.out.below hb5)
                have hl5 : wr.heap.size < w5.heap.size := Nat.lt_of_lt_of_le hlc hb5.size
                clear t2 hb5 C4 HE HT HBc HGc HOc BC HO1 HOk HBw HGw
                have hL1 : Hid ((wantsL base (syJ base l l.length) pn L1 (oj.t.take k)).length = zn) := Lib.hid (by rw [wantsL_length, HL1.out])
                have hS : Hid (wantsL base (syJ base l l.length) pn L1 (oj.t.take (k + 1)) = set4 (wantsL base (syJ base l l.length) pn L1 (oj.t.take k)) (pn + yan) (wantN base (syJ base l l.length) pn ⟨yan, yk, yn, yp⟩)) := Lib.hid (by
                  have e := HST4.out
                  rw [show ((pn : Int) + (⟨yan, yk, yn, yp⟩ : Wn).a).toNat = pn + yan from by simp only; omega] at e
                  exact e)
                generalize hout : wantsL base (syJ base l l.length) pn L1 (oj.t.take k) = out at *
                have t0 := HT5.out.at 0 (.int .i64 yan) rfl
                have t1 := HT5.out.at 1 (.int .i64 yk) rfl
                have t3 := HT5.out.at 3 (.int .i64 yp) rfl
                have hgC : D < wr.heap.size := gD
                generalize wr.heap.size = C at *
                clear hout HST4
                rcases hk01 with rfl | rfl
                · go_wp2_with fail
                  generalize hN : av + yp = N
                  have hw : Hid (wantN base (syJ base l l.length) pn ⟨yan, 0, yn, yp⟩ = N) := Lib.hid (by rw [← hN]; unfold wantN; rw [if_neg (by simp)]; simp only [HAVV.out]; rfl)
                  have hN6 := hN
                  generalize hW6 : w5 = W6 at *
                  clear hW6
                  exact qrl5
                · go_wp2_with fail
                  have xc := below_cell HG5.out hbp HCP.out
                  have j0 : (0 : Int) ≤ (j : Int) := by omega
                  have j1 : (j : Int) < (ln : Int) := by have := HSL.out; omega
                  have e1 : IntKind.i64.wrap (av + yp - (base + pn + yan + 4)) = av + yp - (base + pn + yan + 4) := IntWalk.i64_in _ (by omega)
                  go_quiet (fail)
                  generalize hN : av + yp - (base + pn + yan + 4) = N
                  have hw : Hid (wantN base (syJ base l l.length) pn ⟨yan, 1, yn, yp⟩ = N) := Lib.hid (by rw [← hN]; unfold wantN; rw [if_pos (by rfl)]; simp only [HAVV.out, Option.getD_some]; omega)
                  have HT6 : Hid (Cls (w5.drewN nq) C [.int .i64 yan, .int .i64 1, .int .i64 yn, .int .i64 yp]) := Lib.hid (HT5.out.below hl5 (below_drewN (Below.refl _ _) nq))
                  have HB6 := Lib.hid (below_drewN HB5.out nq)
                  have HG6 := Lib.hid (below_drewN HG5.out nq)
                  have HO6 := Lib.hid (HO5.out.drewN nq)
                  have hl6 : C < (w5.drewN nq).heap.size := hl5
                  have hN6 := hN
                  clear HT5 HB5 HG5 HO5 hl5 t0 t1 t3 xc e1 j0 j1
                  have HT5 := HT6
                  have HB5 := HB6
                  have HG5 := HG6
                  have HO5 := HO6
                  have hl5 := hl6
                  clear HT6 HB6 HG6 HO6 hl6
                  generalize w5.drewN nq = W6 at *
                  go_wp2_with fail
                  exact qrl5
              · obtain rfl : k = oj.t.length := by omega
                have HF : Hid (OInts .u8 wr D (linkJ base l (stA base l) (j + 1))) := Lib.hid (by rw [HSP2.out]; rw [List.take_length] at ho; exact ho)
                clear ho hb hg
                go_wp2_with fail
                go_roundw
                case rel => exact ⟨j + 1, by omega, by go_num, HF.out, HBw.out, HGw.out⟩
                case measure => simp [intOf]; omega
      · obtain rfl : j = l.length := by omega
        have HI : Hid (Ints .u8 wr (.slice (some ⟨D, 0, none⟩) zn zn) (linkJ base l (stA base l) l.length)) := Lib.hid (by
          have e : (linkJ base l (stA base l) l.length).length = zn := by rw [HLN.out, HST.out]; simp
          have := ho.ints (by omega)
          rwa [e] at this)
        clear ho hb hg
        go_wp2_with fail
        refine bodyPost_ret (v := .tuple #[.slice (some ⟨D, 0, none⟩) zn zn, .int .i64 0]) (by simp [results, Tryz.results16, go_sem]) rfl (LinkP.yes HF0.out HI.out HBj.out)
theorem sameB_eq (xs : List Int) (v u : Value) (w : World) (hv : Ints .u8 w v xs) (hu : Ints .u8 w u xs) : Calls Tryz.prog 17 #[v, u] w fun e w' => e = .returned (.bool true) ∧ w = w' := by
  have s1 := hv.str
  have s2 := hu.str
  obtain ⟨a, c, rfl, -⟩ := hv.shape2
  obtain ⟨a', c', rfl, -⟩ := hu.shape2
  generalize strOfNums xs = s at *
  clear hv hu
  go_enter Tryz.func17, Tryz.ntmps17
  go_wp2_with fail
  go_ret
  exact ⟨rfl, rfl⟩
theorem LinkP.ints {base : Int} {l : List Ob} {w w' : World} {e : Ending} (h : LinkP base l w e w') : ∃ v xs, e = .returned (.tuple #[v, .int .i64 (linkE base l)]) ∧ Ints .u8 w' v xs ∧ xs = (if linkE base l = 0 then linkJ base l (stA base l) l.length else []) ∧ Below w.heap.size w w' := by
  obtain ⟨v, h1, h2, h3, h4⟩ := h
  by_cases h0 : linkE base l = 0
  · have h5 := linkF_link base l
    rw [h0] at h5
    obtain ⟨-, g2, -, -, -, g6, -, -⟩ := linkF_zero h5
    have e := arrL_all (base := base) g2
    rw [g6, if_neg (by simp)] at e
    exact ⟨v, _, h1, h3 h0 _ e, by rw [if_pos h0]; rfl, h4⟩
  · rw [h2 h0] at h1
    exact ⟨_, [], h1, Ints.nil _ _, by rw [if_neg h0], h4⟩
set_option maxHeartbeats 2000000 in
theorem wPlaceLinks (l : List Ob) (lv : Value) (base : Int) (w : World) (h : Obs w lv l) (hwf : ∀ o ∈ l, ObF o) : Calls Tryz.prog 4 #[lv, .int .i64 base] w fun e w' => e = .returned (.bool true) ∧ Below w.heap.size w w' := by
  have C1 := Lib.hid (long22 l lv w h)
  have C2 := Lib.hid (pLink_any l lv base w h hwf)
  have C3 := Lib.hid (fun w' (hb : Below w.heap.size w w') => rLink_any l lv base w' (h.stays hb))
  have C4 := Lib.hid known22
  have C5 := Lib.hid sameB_eq
  clear h hwf
  cases hl : longB l with
  | true =>
    rw [hl] at C1
    go_enter Tryz.func4, Tryz.ntmps4
    go_wp2_with (first | (go_at_call 11; with_reducible refine C1.out.mono ?_; rintro e w' ⟨rfl, rfl⟩) | (go_at_call 12; with_reducible refine (C4.out _).mono ?_; rintro e w2 ⟨rfl, hb2⟩))
    go_ret
    exact ⟨rfl, hb2⟩
  | false =>
    rw [hl] at C1
    go_enter Tryz.func4, Tryz.ntmps4
    go_wp2_with (first | (go_at_call 11; with_reducible refine C1.out.mono ?_; rintro e w' ⟨rfl, rfl⟩) | ((go_at_call 15; with_reducible refine C2.out.mono ?_); rintro e w2 hp2; obtain ⟨v2, x2, rfl, hi2, hx2, hb2⟩ := hp2.ints; obtain ⟨a2, c2, rfl, -⟩ := hi2.shape2; have HI2 := Lib.hid hi2; have HB2 := Lib.hid hb2; have HX2 := Lib.hid hx2; clear hp2 hi2 hb2 hx2) | ((go_at_call 16; with_reducible refine (C3.out _ HB2.out).mono ?_); rintro e w3 hp3; obtain ⟨v3, x3, rfl, hi3, hx3, hb3⟩ := hp3.ints; obtain rfl : x3 = x2 := hx3.trans HX2.out.symm; obtain ⟨a3, c3, rfl, -⟩ := hi3.shape2; have HI3 := Lib.hid hi3; have HI2b := Lib.hid (HI2.out.stays hb3); have HB3 := Lib.hid (below_hop HB2.out hb3); clear hp3 hi3 hb3 hx3) | ((go_at_call 17; with_reducible refine (C5.out _ _ _ _ HI2b.out HI3.out).mono ?_); rintro e w' ⟨rfl, rfl⟩) | (go_at_call 12; with_reducible refine (C4.out _).mono ?_; rintro e w4 ⟨rfl, hb4⟩))
    go_ret
    exact ⟨rfl, below_hop HB3.out hb4⟩
end Go.Proofs.YtaegpeofecdhfaaGreat
