/- -/
import Derived.Deep.RegionLaw
import Derived.Deep.AppendLies
import Derived.Laws.AppendOwn
import Derived.Maps.AppendAt
import Derived.Laws.Bits128
import Derived.Deep.Onto
import Derived.Deep.DeepMust
import Derived.Test.YtaegpeofecdhfaaGreatB1
import Derived.Test.YtaegpeofecdhfaaGreatB2
set_option maxHeartbeats 1000000
set_option maxRecDepth 100000
namespace Go.Proofs.YtaegpeofecdhfaaGreat
open Go.RowKit Go.Maps
set_option linter.unusedVariables false
set_option linter.unusedSimpArgs false
theorem meth_plain0 (n : Nat) (w : World) : Sem.run Tryz.prog (Go.method (n + 1) 142 (.agg #[]) ("backstay".push (Char.ofNat 47) ++ "place.plain")) w = .ok (267, .agg #[]) w := by kernel_rfl
theorem meth_plain1 (n : Nat) (w : World) : Sem.run Tryz.prog (Go.method (n + 1) 143 (.agg #[]) ("backstay".push (Char.ofNat 47) ++ "place.plain")) w = .ok (281, .agg #[]) w := by kernel_rfl
structure LayAt (T : TypeId) (L b cb s g : Nat) (bv : Value) (s0 s1 : Int) (w : World) : Prop where
  hl : Cls w L [.iface T (.agg #[]), .slice (some ⟨b, 0, none⟩) 1 cb, bv, .slice (some ⟨s, 0, none⟩) 2 2, .slice (some ⟨g, 0, none⟩) 1 1]
  hc : ∀ k v, haltL[k]? = some v → w.cell? ⟨b, k, none⟩ = some v
  hs : Cls w s [.int .i64 s0, .int .i64 s1]
  hg : w.cell? ⟨g, 0, none⟩ = some (.bool false)
  hn : L < s ∧ b < s ∧ s ≠ g
theorem LayAt.below {T : TypeId} {L b cb s g : Nat} {bv : Value} {s0 s1 : Int} {w w' : World} (h : LayAt T L b cb s g bv s0 s1 w) (hb : Below w.heap.size w w') : LayAt T L b cb s g bv s0 s1 w' :=
  ⟨h.hl.below (h.hl.lt (by simp)) hb, fun k v hv => below_cell hb (cell_lt (h.hc k v hv)) (h.hc k v hv), h.hs.below (h.hs.lt (by simp)) hb, below_cell hb (cell_lt h.hg) h.hg, h.hn⟩
theorem LayAt.set0 {T : TypeId} {L b cb s g : Nat} {bv : Value} {s0 s1 : Int} {w : World} (h : LayAt T L b cb s g bv s0 s1 w) (n : Int) : LayAt T L b cb s g bv n s1 (w.setCell ⟨s, 0, none⟩ (.int .i64 n)) := by
  obtain ⟨h1, h2, h3⟩ := h.hn
  refine ⟨h.hl.other (by omega) _, fun k v hv => ?_, h.hs.set (k := 0) (by simp) _, ?_, h.hn⟩
  · rw [World.cell?_setCell_other _ _ _ _ (by intro hh; cases hh; omega)]; exact h.hc k v hv
  · rw [World.cell?_setCell_other _ _ _ _ (by intro hh; cases hh; omega)]; exact h.hg
theorem LayAt.set1 {T : TypeId} {L b cb s g : Nat} {bv : Value} {s0 s1 : Int} {w : World} (h : LayAt T L b cb s g bv s0 s1 w) (n : Int) : LayAt T L b cb s g bv s0 n (w.setCell ⟨s, 1, none⟩ (.int .i64 n)) := by
  obtain ⟨h1, h2, h3⟩ := h.hn
  refine ⟨h.hl.other (by omega) _, fun k v hv => ?_, h.hs.set (k := 1) (by simp) _, ?_, h.hn⟩
  · rw [World.cell?_setCell_other _ _ _ _ (by intro hh; cases hh; omega)]; exact h.hc k v hv
  · rw [World.cell?_setCell_other _ _ _ _ (by intro hh; cases hh)]; exact h.hg
theorem Cls.at' {w : World} {b : Nat} {cs : List Value} (h : Cls w b cs) (k : Nat) (v : Value) (hk : cs[k]? = some v) : w.frozen? ⟨b, k, none⟩ = false := (h k v hk).2
set_option maxHeartbeats 4000000 in
theorem lay_0 (L b cb s g : Nat) (bv : Value) (w : World) (h : LayAt 142 L b cb s g bv 0 0 w) : Calls Tryz.prog 70 #[.pointer (some ⟨L, 0, none⟩)] w fun e w' => e = .returned (.tuple #[]) ∧ LayAt 142 L b cb s g bv 0 4 w' ∧ Below s w w' := by
  have C1 := Lib.hid isBranch_halt
  have C2 := Lib.hid plain_0
  unfold haltC at C2
  have H := Lib.hid h
  have l1 := h.hl.at 1 (.slice (some ⟨b, 0, none⟩) 1 cb) rfl
  have c0 := h.hc 0 (.int .i64 26) rfl
  have c1 := h.hc 1 (.int .i64 0) rfl
  have c2 := h.hc 2 (.int .i64 0) rfl
  have c3 := h.hc 3 (.int .i64 0) rfl
  have c4 := h.hc 4 (.int .u32 0) rfl
  have c5 := h.hc 5 (.int .i64 0) rfl
  have hL := h.hl.lt (by simp)
  have hb := cell_lt c0
  have hsl := h.hs.lt (by simp)
  obtain ⟨n1, n2, n3⟩ := h.hn
  have hm := meth_plain0 386
  simp only [String.reducePush, String.reduceAppend, Nat.reduceAdd] at hm
  clear h
  go_enter Tryz.func70, Tryz.ntmps70
  go_wp2_with fail
  go_loopw [2, 3, 10] (fun at' _ i wr => (i = .int .i64 0 ∧ at' = .int .i64 0 ∧ w = wr) ∨ (i = .int .i64 1 ∧ at' = .int .i64 4 ∧ LayAt 142 L b cb s g bv 0 0 wr ∧ Below s w wr)) (fun _ _ i _ => 1 - (intOf i).toNat)
  case atStart => exact .inl ⟨rfl, rfl, rfl⟩
  case round =>
    rcases hrel with ⟨rfl, rfl, rfl⟩ | ⟨rfl, rfl, hl4, hb4⟩
    · have hne1 : ¬ b = w.heap.size := by omega
      go_upto_region 4 with fail
      generalize hW1 : w.alloc (.cells #[.int .i64 26, .int .i64 0, .int .i64 0, .int .i64 0, .int .u32 0, .int .i64 0] 76) = W1
      have BB : Hid (Below w.heap.size w W1) := by rw [← hW1]; exact (Below.refl _ _).alloc (Nat.le_refl _) _
      have hsz : W1.heap.size = w.heap.size + 1 := by rw [← hW1]; simp
      have HB : Hid (Cls W1 w.heap.size [.int .i64 26, .int .i64 0, .int .i64 0, .int .i64 0, .int .u32 0, .int .i64 0]) := by rw [← hW1]; exact Cls.made
      have H1 : Hid (LayAt 142 L b cb s g bv 0 0 W1) := H.out.below BB.out
      have d3 := H1.out.hl.at 3 (.slice (some ⟨s, 0, none⟩) 2 2) rfl
      have e0 := H1.out.hs.at 0 (.int .i64 0) rfl
      have f0 := H1.out.hs.at' 0 (.int .i64 0) rfl
      have x0 := HB.out.at 0 (.int .i64 26) rfl
      have hne2 : ¬ s = w.heap.size := by omega
      have H2 : Hid (LayAt 142 L b cb s g bv 0 0 (W1.setCell ⟨s, 0, none⟩ (.int .i64 0))) := H1.out.set0 0
      have HB2 : Hid (Cls (W1.setCell ⟨s, 0, none⟩ (.int .i64 0)) w.heap.size [.int .i64 26, .int .i64 0, .int .i64 0, .int .i64 0, .int .u32 0, .int .i64 0]) := HB.out.other (by omega) _
      have B2 : Hid (Below s w (W1.setCell ⟨s, 0, none⟩ (.int .i64 0))) := below_at (BB.out.mono (by omega)) (Nat.le_refl _) _ _
      have hsz2 : (W1.setCell ⟨s, 0, none⟩ (.int .i64 0)).heap.size = w.heap.size + 1 := by simp [hsz]
      have HSZ := Lib.hid hsz2
      clear hsz2 hsz
      go_wp2_with (go_at_call 49; with_reducible refine (C1.out _).mono ?_; rintro e w' ⟨rfl, rfl⟩)
      generalize W1.setCell ⟨s, 0, none⟩ (.int .i64 0) = W2 at *
      have t0 := H2.out.hl.at 0 (.iface 142 (.agg #[])) rfl
      have r0 : ∀ wk, Since W2 wk → wk.cell? ⟨L, 0, none⟩ = some (.iface 142 (.agg #[])) := fun wk h => h.cell t0
      have y0 := HB2.out.at 0 (.int .i64 26) rfl
      have y1 := HB2.out.at 1 (.int .i64 0) rfl
      have y2 := HB2.out.at 2 (.int .i64 0) rfl
      have y3 := HB2.out.at 3 (.int .i64 0) rfl
      have y4 := HB2.out.at 4 (.int .u32 0) rfl
      have y5 := HB2.out.at 5 (.int .i64 0) rfl
      have k0 : ∀ wk, Since W2 wk → wk.cell? ⟨w.heap.size, 0, none⟩ = some (.int .i64 26) := fun wk h => h.cell y0
      have k1 : ∀ wk, Since W2 wk → wk.cell? ⟨w.heap.size, 1, none⟩ = some (.int .i64 0) := fun wk h => h.cell y1
      have k2 : ∀ wk, Since W2 wk → wk.cell? ⟨w.heap.size, 2, none⟩ = some (.int .i64 0) := fun wk h => h.cell y2
      have k3 : ∀ wk, Since W2 wk → wk.cell? ⟨w.heap.size, 3, none⟩ = some (.int .i64 0) := fun wk h => h.cell y3
      have k4 : ∀ wk, Since W2 wk → wk.cell? ⟨w.heap.size, 4, none⟩ = some (.int .u32 0) := fun wk h => h.cell y4
      have k5 : ∀ wk, Since W2 wk → wk.cell? ⟨w.heap.size, 5, none⟩ = some (.int .i64 0) := fun wk h => h.cell y5
      have h00 := Since.refl W2
      have hlt := cell_lt y0
      clear t0 y0 y1 y2 y3 y4 y5 hW1 x0 d3 e0 f0 l1 c0 c1 c2 c3 c4 c5
      go_region_held3 (fun wk => Since W2 wk) (first | assumption | exact Since.drew (by assumption)) ((go_at_call 267; with_reducible refine (C2.out _).mono ?_; rintro e w3 ⟨v, rfl, hr3, hb3⟩; obtain ⟨va, vc, rfl⟩ := hr3.shape; have hs1 := Since.next (by assumption) hb3))
      all_goals
        have hS : Since W2 w3 := by assumption
        have hA : Hid (LayAt 142 L b cb s g bv 0 0 w3) := H2.out.below hS
        have hsl2 := H2.out.hs.lt (by simp)
        have hBf : Hid (Below s w w3) := below_next B2.out (by omega) hS
        clear hS
        rw [show IntKind.i64.wrap 4 = 4 from rfl]
        go_wp2_with fail
        go_roundw
        case rel => exact .inr ⟨rfl, rfl, hA.out, hBf.out⟩
        case measure => simp [intOf]
    · have H4 := Lib.hid hl4
      have HB4 := Lib.hid hb4
      have d1 := hl4.hl.at 1 (.slice (some ⟨b, 0, none⟩) 1 cb) rfl
      have d3 := hl4.hl.at 3 (.slice (some ⟨s, 0, none⟩) 2 2) rfl
      have e1 := hl4.hs.at 1 (.int .i64 0) rfl
      have f1 := hl4.hs.at' 1 (.int .i64 0) rfl
      clear hl4 hb4
      go_wp2_with fail
      go_region
      refine bodyPost_end (v := .tuple #[]) (by simp [results, Tryz.results70, go_sem]) rfl ⟨rfl, (H4.out.below (below_drewN (Below.refl _ _) 1)).set1 4, below_at (HB4.out.trans (below_drewN (Below.refl _ _) 1)) (Nat.le_refl _) _ _⟩
theorem info_code : (Tryz.prog.info? 76).map (fun i => (i.zero, i.size, i.bytes)) = some (some (.agg #[.int .i64 0, .int .i64 0, .int .i64 0, .int .i64 0, .int .u32 0, .int .i64 0]), 6, 48) := by kernel_rfl
theorem HaltAt.cells {w : World} {b1 b0 : Nat} (h : HaltAt w b1 b0) : ∀ j u, haltL[j]? = some u → w.cell? ((⟨b0, 0, none⟩ : Addr).add j) = some u := fun j u hj => by
  rw [addr_none, Nat.zero_add]
  match j, hj with
  | 0, hj => simp [haltL] at hj; rw [← hj]; exact h.o
  | 1, hj => simp [haltL] at hj; rw [← hj]; exact h.d
  | 2, hj => simp [haltL] at hj; rw [← hj]; exact h.a
  | 3, hj => simp [haltL] at hj; rw [← hj]; exact h.b
  | 4, hj => simp [haltL] at hj; rw [← hj]; exact h.i
  | 5, hj => simp [haltL] at hj; rw [← hj]; exact h.t
  | j + 6, hj => simp [haltL] at hj
theorem LayAt.made {T : TypeId} {L b cb : Nat} {bv : Value} {w W W' : World} {s g : Nat} (hL : Cls w L [.iface T (.agg #[]), .slice (some ⟨b, 0, none⟩) 1 cb, bv, .slice none 0 0, .slice none 0 0]) (hc : ∀ k v, haltL[k]? = some v → w.cell? ⟨b, k, none⟩ = some v) (hlb : L < b) (hs : w.heap.size ≤ s) (hg : w.heap.size ≤ g) (hsg : s ≠ g)
    (hW : W = (w.setCell ⟨L, 3, none⟩ (.slice (some ⟨s, 0, none⟩) 2 2)).setCell ⟨L, 4, none⟩ (.slice (some ⟨g, 0, none⟩) 1 1)) (hb : Below W.heap.size W W') (h1 : Cls W' s [.int .i64 0, .int .i64 0]) (h2 : W'.cell? ⟨g, 0, none⟩ = some (.bool false)) : LayAt T L b cb s g bv 0 0 W' := by
  have hbl := cell_lt (hc 0 _ rfl)
  have hz : W.heap.size = w.heap.size := by rw [hW]; simp
  have hLW : Cls W L [.iface T (.agg #[]), .slice (some ⟨b, 0, none⟩) 1 cb, bv, .slice (some ⟨s, 0, none⟩) 2 2, .slice (some ⟨g, 0, none⟩) 1 1] := by rw [hW]; exact (hL.set (k := 3) (by simp) _).set (k := 4) (by simp) _
  refine ⟨hLW.below (by omega) hb, fun k v hv => ?_, h1, h2, by omega, by omega, hsg⟩
  have hv0 := hc k v hv
  refine below_cell hb (by omega) ?_
  rw [hW, World.cell?_setCell_other _ _ _ _ (by intro hh; cases hh; omega), World.cell?_setCell_other _ _ _ _ (by intro hh; cases hh; omega)]
  exact hv0
theorem qtail0 {p : Prop} (h : p := by
  have C2 := Lib.hid (fun w' h => lay_0 w2.heap.size b cb sx gx bv w' h)
  clear l1 l3 g3 l4 g4 hm1 hm2
  go_wp2_with fail
  have hsw : w.heap.size ≤ sx := by have := HB2.out.size; omega
  clear hsx hgx
  go_loopw [11, 12, 13, 84] (fun ag _ _ _ wr => (ag = .bool true ∧ LayAt 142 w2.heap.size b cb sx gx bv 0 0 wr ∧ Below w.heap.size w wr) ∨ (ag = .bool false ∧ LayAt 142 w2.heap.size b cb sx gx bv 0 4 wr ∧ Below w.heap.size w wr)) (fun ag _ _ _ _ => match ag with | .bool true => 1 | _ => 0)
  case atStart => exact .inl ⟨rfl, HLay.out, HBz.out⟩
  case round =>
    rcases hrel with ⟨rfl, hA, hBq⟩ | ⟨rfl, hA, hBq⟩
    · have C3 := Lib.hid (C2.out _ hA)
      have HBq := Lib.hid hBq
      clear hA hBq
      go_wp2_with (go_at_call 70; with_reducible refine C3.out.mono ?_; rintro e w5 ⟨rfl, hA5, hb5⟩; have l15 := hA5.hl.at 1 (.slice (some ⟨b, 0, none⟩) 1 cb) rfl; have HA5 := Lib.hid hA5; have HB5 := Lib.hid (HBq.out.trans (hb5.mono hsw)); clear hA5 hb5)
      obtain ⟨wo, rfl⟩ : ∃ wo : World, wo = wr := ⟨_, rfl⟩
      have hBl := cell_lt l15
      have C1q := Lib.hid isBranch_halt
      go_loopw [11, 12, 13, 84] (fun ag _ _ i wr => (ag = .bool false ∧ i = .int .i64 0 ∧ w5 = wr) ∨ (ag = .bool false ∧ i = .int .i64 1 ∧ Below w5.heap.size w5 wr)) (fun _ _ _ i _ => 1 - (intOf i).toNat)
      case atStart => exact .inl ⟨rfl, rfl, rfl⟩
      case round =>
        rcases hrel with ⟨rfl, rfl, rfl⟩ | ⟨rfl, rfl, hb⟩
        · have c0 := HA5.out.hc 0 (.int .i64 26) rfl
          have c1 := HA5.out.hc 1 (.int .i64 0) rfl
          have c2 := HA5.out.hc 2 (.int .i64 0) rfl
          have c3 := HA5.out.hc 3 (.int .i64 0) rfl
          have c4 := HA5.out.hc 4 (.int .u32 0) rfl
          have c5 := HA5.out.hc 5 (.int .i64 0) rfl
          have hblt := cell_lt c0
          have hne : ¬ b = w5.heap.size := by omega
          go_upto_region 19 with fail
          generalize hW6 : w5.alloc (.cells #[.int .i64 26, .int .i64 0, .int .i64 0, .int .i64 0, .int .u32 0, .int .i64 0] 76) = W6
          have BB6 : Hid (Below w5.heap.size w5 W6) := by rw [← hW6]; exact (Below.refl _ _).alloc (Nat.le_refl _) _
          have k0 : W6.cell? ⟨w5.heap.size, 0, none⟩ = some (.int .i64 26) := by rw [← hW6]; simp [go_sem]
          clear hW6 c0 c1 c2 c3 c4 c5 l15
          go_quiet ((go_at_call 49; with_reducible exact quiet_same (C1q.out _)))
          go_wp2_with fail
          go_roundw
          case rel => exact .inr ⟨rfl, rfl, below_drewN BB6.out _⟩
          case measure => simp [intOf]
        · have HbN := Lib.hid hb
          clear hb
          go_wp2_with fail
          go_roundw
          case rel => exact .inr ⟨rfl, HA5.out.below HbN.out, HB5.out.trans (HbN.out.mono (by have := HB5.out.size; omega))⟩
          case measure => exact Nat.zero_lt_one
    · have HA := Lib.hid hA
      have HBq := Lib.hid hBq
      clear hA hBq
      go_wp2_with fail
      refine bodyPost_ret (v := .tuple #[.pointer (some ⟨w2.heap.size, 0, none⟩), .int .i64 0]) (by simp [results, Tryz.results48, go_sem]) rfl ⟨w2.heap.size, b, cb, sx, gx, bv, rfl, HA.out, HBq.out⟩
 ) : p := h
set_option maxHeartbeats 4000000 in
theorem layoutOf_0 (b1 b0 : Nat) (w : World) (h : HaltAt w b1 b0) : Calls Tryz.prog 48 #[.int .i64 0, .agg #[.int .i64 0, .slice (some ⟨b1, 0, none⟩) 1 1]] w fun e w' => ∃ L b cb s g bv, e = .returned (.tuple #[.pointer (some ⟨L, 0, none⟩), .int .i64 0]) ∧ LayAt 142 L b cb s g bv 0 4 w' ∧ Below w.heap.size w w' := by
  obtain ⟨W1, hW1⟩ : ∃ W, w.alloc (.cells #[.int .i64 0, .slice (some ⟨b1, 0, none⟩) 1 1] 46) = W := ⟨_, rfl⟩
  have BB : Hid (Below w.heap.size w W1) := by rw [← hW1]; exact (Below.refl _ _).alloc (Nat.le_refl _) _
  have hs : w.heap.size < W1.heap.size := by rw [← hW1]; simp
  have p0 : W1.cell? ⟨w.heap.size, 0, none⟩ = some (.int .i64 0) := by rw [← hW1]; simp [go_sem]
  have p1 : W1.cell? ⟨w.heap.size, 1, none⟩ = some (.slice (some ⟨b1, 0, none⟩) 1 1) := by rw [← hW1]; simp [go_sem]
  have P1 := Lib.hid p1
  have H1 : Hid (HaltAt W1 b1 b0) := h.below BB.out
  have C1 := Lib.hid (asked_0 b1 b0 W1 H1.out)
  clear h
  go_enter Tryz.func48, Tryz.ntmps48
  go_wp2_with (go_at_call 69; with_reducible refine C1.out.mono ?_; rintro e w2 ⟨rfl, hb2⟩; have p1b := below_cell hb2 hs P1.out; have hl2 := cell_lt p1b; have hne2 : ¬ w.heap.size = w2.heap.size := (by omega); have HB2 := Lib.hid hb2; clear hb2 p0 p1)
  generalize hW3 : w2.alloc (.cells #[.iface 142 (.agg #[]), .slice none 0 0, .slice none 0 0, .slice none 0 0, .slice none 0 0] 106) = W3
  have B3 : Hid (Below w2.heap.size w2 W3) := by rw [← hW3]; exact (Below.refl _ _).alloc (Nat.le_refl _) _
  have hs3 : W3.heap.size = w2.heap.size + 1 := by rw [← hW3]; simp
  have HL : Hid (Cls W3 w2.heap.size [.iface 142 (.agg #[]), .slice none 0 0, .slice none 0 0, .slice none 0 0, .slice none 0 0]) := by rw [← hW3]; exact Cls.made
  have H3 : Hid (HaltAt W3 b1 b0) := (H1.out.below HB2.out).below B3.out
  have p13 := below_cell B3.out hl2 p1b
  have P13 := Lib.hid p13
  clear hW3 p1b
  go_loopw [10, 29] (fun _ i wr => (i = .int .i64 0 ∧ W3 = wr) ∨ (i = .int .i64 1 ∧ ∃ b cb bv, Cls wr w2.heap.size [.iface 142 (.agg #[]), .slice (some ⟨b, 0, none⟩) 1 cb, bv, .slice none 0 0, .slice none 0 0] ∧ (∀ k v, haltL[k]? = some v → wr.cell? ⟨b, k, none⟩ = some v) ∧ w2.heap.size < b ∧ Below w2.heap.size w2 wr)) (fun _ i _ => 1 - (intOf i).toNat)
  case atStart => exact .inl ⟨rfl, rfl⟩
  case round =>
    rcases hrel with ⟨rfl, rfl⟩ | ⟨rfl, b, cb, bv, hL, hc, hlb, hb⟩
    · have s1 := H3.out.s
      have l1 := HL.out.at 1 (.slice none 0 0) rfl
      have l2 := HL.out.at 2 (.slice none 0 0) rfl
      have f2 := HL.out.at' 2 (.slice none 0 0) rfl
      obtain ⟨i0, hi0, hz0, hz1, hz2⟩ := info_parts info_int64
      have HS3 := Lib.hid hs3
      have hLW : w2.heap.size < W3.heap.size := by omega
      have hLne : ¬ w2.heap.size = W3.heap.size := by omega
      clear hs3
      go_wp2_with fail
      go_region_law ((refine step_append_lies _ (by rfl) _ _ _ (by rfl) (w2.heap.size + 1) 3 i0 (.int .i64 0) 1 8 Tryz.underlying69 hi0 hz0 hz1 hz2 rfl (by decide) (.slice none 0 0) 0 [] (by rfl) (World.ownsRow_nil _ _ _ _) ⟨W3.heap.size, 0, none⟩ 1 1 [.int .i64 0] (by rfl) (by rfl) (World.news_of_block (cs := #[.int .i64 0]) (t := 3) (fr := (0, 0)) (show _ from Array.getElem?_push_size)) (by simp [Value.oneCell']) (by decide) (by unfold maxLen; decide) (by decide) (by have := HS3.out; simp; omega) (W3.heap.size + 1) (by simp) ?_); intro gg cap w4 hown4 hgrow4 hat4 hlt4; have HC4 := Lib.hid (((HL.out.below (HL.out.lt (by simp)) ((Below.refl _ _).alloc (Nat.le_refl _) (.cells #[.int .i64 0] 3))).block (hgrow4.block w2.heap.size (by have := HS3.out; simp; omega) (by simp [Value.ownBlock]) : w4.heap[w2.heap.size]? = (W3.alloc (.cells #[.int .i64 0] 3)).heap[w2.heap.size]?))); have l24 := HC4.out.at 2 (.slice none 0 0) rfl; have f24 := HC4.out.at' 2 (.slice none 0 0) rfl)
      all_goals
        have hB4 : Hid (Below w2.heap.size w2 (w4.setCell ⟨w2.heap.size, 2, none⟩ (.slice (some ⟨gg, 0, none⟩) 1 cap))) := by
          have e3 := HS3.out
          refine below_at (Below.grown (B := w2.heap.size) (((B3.out.alloc (by omega) (.cells #[.int .i64 0] 3))).drew) hgrow4 (by show w2.heap.size ≤ (W3.alloc _).heap.size; simp; omega) (fun k hk => by cases hk)) (Nat.le_refl _) _ _
        have HC5 : Hid (Cls (w4.setCell ⟨w2.heap.size, 2, none⟩ (.slice (some ⟨gg, 0, none⟩) 1 cap)) w2.heap.size [.iface 142 (.agg #[]), .slice none 0 0, .slice (some ⟨gg, 0, none⟩) 1 cap, .slice none 0 0, .slice none 0 0]) := HC4.out.set (k := 2) (by simp) _
        have hH5 : Hid (HaltAt (w4.setCell ⟨w2.heap.size, 2, none⟩ (.slice (some ⟨gg, 0, none⟩) 1 cap)) b1 b0) := (H1.out.below HB2.out).below hB4.out
        have hl5 : w2.heap.size < (w4.setCell ⟨w2.heap.size, 2, none⟩ (.slice (some ⟨gg, 0, none⟩) 1 cap)).heap.size := HC5.out.lt (by simp)
        clear l24 f24 hown4 hgrow4 hat4 hlt4
        generalize w4.setCell ⟨w2.heap.size, 2, none⟩ (.slice (some ⟨gg, 0, none⟩) 1 cap) = W5 at *
        have l15 := HC5.out.at 1 (.slice none 0 0) rfl
        obtain ⟨ic, hic, hcz, hcs, hcb⟩ := info_parts info_code
        go_wp2_with (at_builtin; refine wpList_append_lies _ rfl _ _ _ rfl (w2.heap.size + 1) 76 ic _ 6 48 Tryz.underlying74 hic hcz hcs hcb rfl (by decide) (.slice none 0 0) 0 [] rfl (World.ownsRow_nil _ _ _ _) ⟨b0, 0, none⟩ 1 1 haltL rfl rfl hH5.out.cells (by simp [haltL, Value.oneCell']) (by decide) (by unfold maxLen; decide) (by decide) (by omega) W5.heap.size rfl (fun gc capc w6 ho6 hg6 hat6 hl6 => ?_); have HC6 := Lib.hid (HC5.out.block (hg6.block w2.heap.size hl5 (by simp [Value.ownBlock]))); have l16 := HC6.out.at 1 (.slice none 0 0) rfl; have f16 := HC6.out.at' 1 (.slice none 0 0) rfl)
        refine ⟨.inr ⟨rfl, gc, capc, .slice (some ⟨gg, 0, none⟩) 1 cap, HC6.out.set (k := 1) (by simp) _, fun k v hv => ?_, ?_, ?_⟩, by simp [intOf]⟩
        · have hg1 := (ho6.lt gc rfl).1
          rw [World.cell?_setCell_other _ _ _ _ (by intro hh; cases hh; omega)]
          have hk6 : k < 6 := by
            rcases Nat.lt_or_ge k 6 with h | h
            · exact h
            · rw [List.getElem?_eq_none (by simpa [haltL] using h)] at hv; cases hv
          rw [ho6.cellAt k (by omega)]
          exact hv
        · have hg1 := (ho6.lt gc rfl).1
          omega
        · exact below_at (Below.grown (B := w2.heap.size) hB4.out hg6 (by omega) (fun k hk => by cases hk)) (Nat.le_refl _) _ _
    · have HLx := Lib.hid hL
      have HCx := Lib.hid hc
      have HBx := Lib.hid hb
      have l1 := hL.at 1 (.slice (some ⟨b, 0, none⟩) 1 cb) rfl
      have l3 := hL.at 3 (.slice none 0 0) rfl
      have g3 := hL.at' 3 (.slice none 0 0) rfl
      have l4 := hL.at 4 (.slice none 0 0) rfl
      have g4 := hL.at' 4 (.slice none 0 0) rfl
      have hlL := cell_lt l1
      have hbs := hb.size
      have hm1 : ∀ w : World, (Instr.makeSlice 69 (.int .i64 2) (.int .i64 2)).run Tryz.prog w = .ok (.slice (some ⟨w.heap.size, 0, none⟩) 2 2) (w.alloc (.cells #[.int .i64 0, .int .i64 0] 3)) := fun _ => by kernel_rfl
      have hm2 : ∀ w : World, (Instr.makeSlice 104 (.int .i64 1) (.int .i64 1)).run Tryz.prog w = .ok (.slice (some ⟨w.heap.size, 0, none⟩) 1 1) (w.alloc (.cells #[.bool false] 4)) := fun _ => by kernel_rfl
      clear hL hc hb
      go_wp2_with fail
      go_region
      · generalize hst : (wr.setCell ⟨w2.heap.size, 3, none⟩ (.slice (some ⟨wr.heap.size, 0, none⟩) 2 2)).setCell ⟨w2.heap.size, 4, none⟩ (.slice (some ⟨wr.heap.size + 1, 0, none⟩) 1 1) = Wst
        have hsz : Wst.heap.size = wr.heap.size := by rw [← hst]; simp
        have HLay := Lib.hid (LayAt.made (T := 142) (s := wr.heap.size) (g := wr.heap.size + 1) (W' := ((Wst.alloc (.cells #[.int .i64 0, .int .i64 0] 3)).alloc (.cells #[.bool false] 4)).drew) HLx.out HCx.out hlb (by omega) (by omega) (by omega) hst.symm ((((Below.refl _ _).alloc (Nat.le_refl _) _).alloc (by simp) _).drew) (fun k v hv => by
          match k, hv with
          | 0, hv => simp at hv; rw [← hv]; simp [go_sem, hsz]
          | 1, hv => simp at hv; rw [← hv]; simp [go_sem, hsz]
          | k + 2, hv => simp at hv) (by simp [go_sem, hsz]))
        have HBz : Hid (Below w.heap.size w (((Wst.alloc (.cells #[.int .i64 0, .int .i64 0] 3)).alloc (.cells #[.bool false] 4)).drew)) := by
          have e2 := HB2.out.size
          have h2 : Below w2.heap.size w2 Wst := by rw [← hst]; exact below_at (below_at HBx.out (Nat.le_refl _) _ _) (Nat.le_refl _) _ _
          exact below_next (below_next BB.out (by omega) HB2.out) (by omega) (((h2.alloc (by omega) _).alloc (by simp; omega) _).drew)
        clear hst hsz
        generalize ((Wst.alloc (.cells #[.int .i64 0, .int .i64 0] 3)).alloc (.cells #[.bool false] 4)).drew = Wz at *
        generalize hgx : wr.heap.size + 1 = gx at HLay ⊢
        generalize hsx : wr.heap.size = sx at HLay ⊢
        exact qtail0
      · generalize hst : (wr.setCell ⟨w2.heap.size, 3, none⟩ (.slice (some ⟨wr.heap.size + 1, 0, none⟩) 2 2)).setCell ⟨w2.heap.size, 4, none⟩ (.slice (some ⟨wr.heap.size, 0, none⟩) 1 1) = Wst
        have hsz : Wst.heap.size = wr.heap.size := by rw [← hst]; simp
        have HLay := Lib.hid (LayAt.made (T := 142) (s := wr.heap.size + 1) (g := wr.heap.size) (W' := ((Wst.alloc (.cells #[.bool false] 4)).alloc (.cells #[.int .i64 0, .int .i64 0] 3)).drew) HLx.out HCx.out hlb (by omega) (by omega) (by omega) hst.symm ((((Below.refl _ _).alloc (Nat.le_refl _) _).alloc (by simp) _).drew) (fun k v hv => by
          match k, hv with
          | 0, hv => simp at hv; rw [← hv]; simp [go_sem, hsz]
          | 1, hv => simp at hv; rw [← hv]; simp [go_sem, hsz]
          | k + 2, hv => simp at hv) (by simp [go_sem, hsz]))
        have HBz : Hid (Below w.heap.size w (((Wst.alloc (.cells #[.bool false] 4)).alloc (.cells #[.int .i64 0, .int .i64 0] 3)).drew)) := by
          have e2 := HB2.out.size
          have h2 : Below w2.heap.size w2 Wst := by rw [← hst]; exact below_at (below_at HBx.out (Nat.le_refl _) _ _) (Nat.le_refl _) _ _
          exact below_next (below_next BB.out (by omega) HB2.out) (by omega) (((h2.alloc (by omega) _).alloc (by simp; omega) _).drew)
        clear hst hsz
        generalize ((Wst.alloc (.cells #[.bool false] 4)).alloc (.cells #[.int .i64 0, .int .i64 0] 3)).drew = Wz at *
        generalize hsx : wr.heap.size + 1 = sx at HLay ⊢
        generalize hgx : wr.heap.size = gx at HLay ⊢
        exact qtail0
end Go.Proofs.YtaegpeofecdhfaaGreat
namespace Go.Proofs.YtaegpeofecdhfaaGreat
set_option linter.unusedVariables false
set_option linter.unusedSimpArgs false
structure Ins where
  o : Int
  d : Int
  s : Int
  z : Int
  i : Int
  deriving DecidableEq, Inhabited
def leB (n : Int) : Nat → List Int
  | 0 => []
  | k + 1 => n % 256 :: leB (n / 256) k
theorem leB_length (n : Int) (k : Nat) : (leB n k).length = k := by
  induction k generalizing n with
  | zero => rfl
  | succ k ih => simp [leB, ih]
def mrB (r m : Int) : Int := (192 + 8 * r + m) % 256
def mmB (r m i : Int) : List Int := (128 + 8 * r + m) % 256 :: leB i 4
def pwZ (z : Int) : Int := 2 ^ z.toNat
def sgB (n z : Int) : Int := if 2 ^ (z.toNat - 1) ≤ n then n - pwZ z else n
def isR (n : Int) : Bool := decide (0 ≤ n) && decide (n ≤ 7)
def isL (n : Int) : Bool := decide (0 ≤ n) && decide (n ≤ 3)
def isM (n : Int) : Bool := isR n && (n != 4)
def isC (n : Int) : Bool := decide (0 ≤ n) && (decide (n ≤ 15) && (n != 10 && n != 11))
def isB (n : Int) : Bool := decide (-128 ≤ n) && decide (n ≤ 127)
def isW4 (n : Int) : Bool := decide (-2147483648 ≤ n) && decide (n ≤ 2147483647)
def inZ (n z : Int) : Bool := decide (0 ≤ n) && decide (n ≤ pwZ z - 1)
def digI (o : Int) : Int :=
  if o = 14 then 0 else if o = 15 then 1 else if o = 16 ∨ o = 21 then 4 else if o = 17 ∨ o = 22 then 5 else if o = 18 ∨ o = 26 then 6
  else if o = 19 ∨ o = 23 ∨ o = 27 then 7 else if o = 24 then 2 else if o = 25 then 3 else -1
def ariI (o : Int) : Int :=
  if o = 7 then 1 else if o = 8 then 9 else if o = 9 then 33 else if o = 10 then 41 else if o = 11 then 49 else if o = 12 then 57 else if o = 13 then 133 else 0
def szI (o : Int) : List Int :=
  if 0 ≤ o ∧ o ≤ 3 then [32, 16] else if 4 ≤ o ∧ o ≤ 6 then [32] else if 7 ≤ o ∧ o ≤ 19 then [32, 16] else if o = 20 then [32]
  else if 21 ≤ o ∧ o ≤ 25 then [32, 16] else if 26 ≤ o ∧ o ≤ 31 then [32] else if o = 32 ∨ o = 33 then [8, 32] else if 34 ≤ o ∧ o ≤ 36 then [32] else []
def fitJ (x : Ins) : Bool := (x.z == 8 && isB x.i) || (x.z == 32 && isW4 x.i)
def fitI (x : Ins) : Bool :=
  if x.o = 0 ∨ (7 ≤ x.o ∧ x.o ≤ 13) ∨ x.o = 20 then isR x.d && (isR x.s && x.i == 0)
  else if x.o = 1 ∨ (14 ≤ x.o ∧ x.o ≤ 19) then isR x.d && (x.s == 0 && inZ x.i x.z)
  else if x.o = 2 ∨ x.o = 4 ∨ x.o = 5 then isR x.d && (isM x.s && isW4 x.i)
  else if x.o = 3 then isM x.d && (isR x.s && isW4 x.i)
  else if x.o = 6 then isM x.d && (isL x.s && isW4 x.i)
  else if 21 ≤ x.o ∧ x.o ≤ 27 then isR x.d && (x.s == 0 && x.i == 0)
  else if x.o = 28 ∨ x.o = 34 ∨ x.o = 35 ∨ x.o = 36 then x.d == 0 && (x.s == 0 && x.i == 0)
  else if x.o = 29 then isL x.d && (isC x.s && x.i == 0)
  else if x.o = 30 then isR x.d && (isL x.s && x.i == 0)
  else if x.o = 31 then isR x.d && (isR x.s && isC x.i)
  else if x.o = 32 then x.d == 0 && (isC x.s && fitJ x)
  else if x.o = 33 then x.d == 0 && (x.s == 0 && fitJ x)
  else false
def okI (x : Ins) : Bool := (szI x.o).contains x.z && fitI x
def bodyI (x : Ins) : List Int :=
  if x.o = 0 then [137, mrB x.s x.d]
  else if x.o = 1 then (184 + x.d) % 256 :: leB x.i (x.z / 8).toNat
  else if x.o = 2 then 139 :: mmB x.d x.s x.i
  else if x.o = 3 then 137 :: mmB x.s x.d x.i
  else if x.o = 4 then 15 :: 182 :: mmB x.d x.s x.i
  else if x.o = 5 then 15 :: 183 :: mmB x.d x.s x.i
  else if x.o = 6 then 136 :: mmB x.s x.d x.i
  else if 7 ≤ x.o ∧ x.o ≤ 13 then [ariI x.o, mrB x.s x.d]
  else if 14 ≤ x.o ∧ x.o ≤ 19 then (if -128 ≤ sgB x.i x.z ∧ sgB x.i x.z ≤ 127 then [131, mrB (digI x.o) x.d, x.i % 256] else 129 :: mrB (digI x.o) x.d :: leB x.i (x.z / 8).toNat)
  else if x.o = 20 then [15, 175, mrB x.d x.s]
  else if 21 ≤ x.o ∧ x.o ≤ 23 then [211, mrB (digI x.o) x.d]
  else if 24 ≤ x.o ∧ x.o ≤ 27 then [247, mrB (digI x.o) x.d]
  else if x.o = 28 then [153]
  else if x.o = 29 then [15, (144 + x.s) % 256, mrB 0 x.d]
  else if x.o = 30 then [15, 182, mrB x.d x.s]
  else if x.o = 31 then [15, (64 + x.i) % 256, mrB x.d x.s]
  else if x.o = 32 then (if x.z = 8 then [(112 + x.s) % 256, x.i % 256] else 15 :: (128 + x.s) % 256 :: leB x.i 4)
  else if x.o = 33 then (if x.z = 8 then [235, x.i % 256] else 233 :: leB x.i 4)
  else if x.o = 34 then [244]
  else if x.o = 35 then [15, 11]
  else if x.o = 36 then [144]
  else []
def encI (x : Ins) : List Int := if x.z = 16 then 102 :: bodyI x else bodyI x
/-! ### reading -/
end Go.Proofs.YtaegpeofecdhfaaGreat
namespace Go.Proofs.YtaegpeofecdhfaaGreat
open Go.RowKit
set_option linter.unusedVariables false
set_option linter.unusedSimpArgs false
theorem isReg_any (n : Int) (w : World) : Calls Tryz.prog 206 #[.int .i64 n] w fun e w' => e = .returned (.bool (isR n)) ∧ w = w' := by
  unfold isR
  cases h1 : decide (0 ≤ n)
  all_goals
    go_enter Tryz.func206, Tryz.ntmps206
    go_wp2
    go_ret
    exact ⟨rfl, rfl⟩
theorem isLow_any (n : Int) (w : World) : Calls Tryz.prog 212 #[.int .i64 n] w fun e w' => e = .returned (.bool (isL n)) ∧ w = w' := by
  unfold isL
  cases h1 : decide (0 ≤ n)
  all_goals
    go_enter Tryz.func212, Tryz.ntmps212
    go_wp2
    go_ret
    exact ⟨rfl, rfl⟩
theorem isCond_any (n : Int) (w : World) : Calls Tryz.prog 220 #[.int .i64 n] w fun e w' => e = .returned (.bool (isC n)) ∧ w = w' := by
  unfold isC
  cases h1 : decide (0 ≤ n) <;> cases h2 : decide (n ≤ 15) <;> cases h3 : (n != 10)
  all_goals
    go_enter Tryz.func220, Tryz.ntmps220
    go_wp2
    go_ret
    exact ⟨rfl, rfl⟩
theorem within_ia (n a b : Int) (w : World) : Calls Tryz.prog 207 #[.int .i64 n, .int .i64 a, .int .i64 b] w fun e w' => e = .returned (.bool (decide (a ≤ n) && decide (n ≤ b))) ∧ w = w' := by
  cases h1 : decide (a ≤ n)
  all_goals
    go_enter Tryz.func207, Tryz.ntmps207
    go_wp2
    go_ret
    exact ⟨rfl, rfl⟩
theorem isWide_any (n : Int) (w : World) : Calls Tryz.prog 237 #[.int .i64 n] w fun e w' => e = .returned (.bool (isW4 n)) ∧ w = w' := by
  unfold isW4
  go_enter Tryz.func237, Tryz.ntmps237
  go_wp2_with (go_at_call 207; refine (within_ia _ _ _ _).mono ?_; rintro e w' ⟨rfl, rfl⟩)
  go_ret
  exact ⟨rfl, rfl⟩
theorem isMemory_any (n : Int) (w : World) : Calls Tryz.prog 236 #[.int .i64 n] w fun e w' => e = .returned (.bool (isM n)) ∧ w = w' := by
  unfold isM
  have C := Lib.hid (isReg_any n w)
  cases h1 : isR n <;> rw [h1] at C
  all_goals
    go_enter Tryz.func236, Tryz.ntmps236
    go_wp2_with (go_at_call 206; refine C.out.mono ?_; rintro e w' ⟨rfl, rfl⟩)
    go_ret
    exact ⟨rfl, rfl⟩
def I64 (n : Int) : Prop := -9223372036854775808 ≤ n ∧ n ≤ 9223372036854775807
theorem mr_any (r m : Int) (w : World) : Calls Tryz.prog 216 #[.int .i64 r, .int .i64 m] w fun e w' => e = .returned (.int .u8 (mrB r m)) ∧ w = w' := by
  go_enter Tryz.func216, Tryz.ntmps216
  go_wp2
  go_ret
  exact ⟨ret_i (by unfold mrB wrap64; omega), rfl⟩
theorem i64_and (n c : Int) (k : Nat) (hk : k ≤ 62) (hc : c = 2 ^ k - 1) : bits .and .i64 n c = n % 2 ^ k := by
  have hp : (2 : Nat) ^ k ≤ 2 ^ 62 := Nat.pow_le_pow_right (by decide) hk
  have hp0 : 0 < (2 : Nat) ^ k := Nat.two_pow_pos k
  have e : ((2 : Int) ^ k) = ((2 ^ k : Nat) : Int) := by simp
  rw [e] at hc ⊢
  have hm : (BitVec.ofInt 64 c).toNat = 2 ^ k - 1 := by
    rw [BitVec.toNat_ofInt, hc]
    generalize (2 : Nat) ^ k = p at *
    have : ((p : Int) - 1) % ((2 ^ 64 : Nat) : Int) = (p : Int) - 1 := Int.emod_eq_of_lt (by omega) (by omega)
    rw [this]; omega
  have key : (BitVec.ofInt 64 n &&& BitVec.ofInt 64 c).toNat = (n % ((2 ^ 64 : Nat) : Int)).toNat % 2 ^ k := by
    rw [BitVec.toNat_and, BitVec.toNat_ofInt, hm, Nat.and_two_pow_sub_one_eq_mod]
  show IntKind.i64.wrap ((BitVec.ofInt 64 n &&& BitVec.ofInt 64 c).toNat : Nat) = _
  rw [key, IntKind.wrap_i64]
  have hd : (2 : Nat) ^ k ∣ 2 ^ 64 := Nat.pow_dvd_pow 2 (by omega)
  have h1 := Nat.mod_lt (n % ((2 ^ 64 : Nat) : Int)).toNat hp0
  have h2 : ((((n % ((2 ^ 64 : Nat) : Int)).toNat % 2 ^ k : Nat)) : Int) = n % ((2 ^ k : Nat) : Int) := by
    rw [Int.natCast_emod, Int.toNat_of_nonneg (Int.emod_nonneg _ (by decide)), Int.emod_emod_of_dvd _ (Int.natCast_dvd_natCast.2 hd)]
  rw [← h2]
  generalize (n % ((2 ^ 64 : Nat) : Int)).toNat % 2 ^ k = t at *
  omega
theorem info_u8 : (Tryz.prog.info? 5).map (fun i => (i.zero, i.size, i.bytes)) = some (some (.int .u8 0), 1, 1) := by kernel_rfl
def shB (n : Int) : Nat → Int
  | 0 => n
  | j + 1 => shB n j / 256
theorem leB_snoc (n : Int) (j : Nat) : leB n (j + 1) = leB n j ++ [shB n j % 256] := by
  have e : ∀ (j : Nat) (n : Int), shB (n / 256) j = shB n (j + 1) := by
    intro j
    induction j with
    | zero => intro n; rfl
    | succ j ih => intro n; show shB (n / 256) j / 256 = shB n (j + 1) / 256; rw [ih]
  induction j generalizing n with
  | zero => rfl
  | succ j ih =>
    show n % 256 :: leB (n / 256) (j + 1) = n % 256 :: (leB (n / 256) j ++ [shB n (j + 1) % 256])
    rw [ih, e]
theorem shB_i64 {n : Int} (h : I64 n) (j : Nat) : I64 (shB n j) := by
  unfold I64 at *
  induction j with
  | zero => exact h
  | succ j ih => show _ ≤ shB n j / 256 ∧ shB n j / 256 ≤ _; omega
theorem number_any (n : Int) (k : Nat) (w : World) (hn : I64 n) (hk : k ≤ 8) : Calls Tryz.prog 148 #[.int .i64 n, .int .i64 (k : Int)] w fun e w' => ∃ v, e = .returned v ∧ RowI w' w.heap.size 5 .u8 v (leB n k) ∧ Below w.heap.size w w' := by
  obtain ⟨i0, hi0, hz0, hz1, hz2⟩ := info_parts info_u8
  have HN := Lib.hid hn
  clear hn
  go_enter Tryz.func148, Tryz.ntmps148
  go_wp2_with fail
  go_loopw [0, 5, 7] (fun m v i wr => ∃ j : Nat, j ≤ k ∧ m = .int .i64 (shB n j) ∧ i = .int .i64 j ∧ RowI wr w.heap.size 5 .u8 v (leB n j) ∧ Below w.heap.size w wr) (fun _ _ i _ => k - (intOf i).toNat)
  case atStart => exact ⟨0, Nat.zero_le _, rfl, rfl, RowI.nil _ _ _ _, Below.refl _ _⟩
  case round =>
    obtain ⟨j, hj, rfl, rfl, hrow, hb⟩ := hrel
    have hsz := hb.size
    have HB := Lib.hid hb
    clear hb
    by_cases hlt : j < k
    · have HS := Lib.hid (leB_snoc n j)
      have HT : Hid (shB n (j + 1) = shB n j / 256) := rfl
      have hq := shB_i64 HN.out j
      unfold I64 at hq
      have htl := leB_length n j
      generalize shB n j = m at *
      generalize leB n j = l at *
      obtain ⟨va, vc, rfl⟩ := hrow.shape
      unfold RowI at hrow
      rw [htl] at hrow ⊢
      have HO0 := Lib.hid hrow
      have HTL := Lib.hid htl
      obtain ⟨q1, q2⟩ := hq
      clear htl hrow
      go_wp2_with (at_builtin; refine wpList_append_own _ rfl _ _ 22 rfl w.heap.size 5 i0 (.int .u8 0) 1 1 Tryz.underlying22 hi0 hz0 hz1 hz2 rfl (by decide) _ _ _ rfl (HO0.out.alloc _) ⟨wr.heap.size, 0, none⟩ 1 1 [.int .u8 (m % 256)] rfl rfl ?c1 ?c2 ?c3 ?c4 ?c5 ?_)
      case c1 =>
        intro i u h
        rcases i with _ | i
        · cases h; simp [go_sem, Addr.add]
        · cases h
      case c2 => simp [Value.oneCell']
      case c3 => unfold maxLen; omega
      case c4 => omega
      case c5 => simp; omega
      intro v' w1 hown' hgrow _
      have HO := Lib.hid hown'
      have HG := Lib.hid hgrow
      clear hown' hgrow
      go_wp2_with fail
      go_roundw
      case rel => exact ⟨j + 1, by omega, by rw [HT.out], by go_num, RowI.app1 HO.out HTL.out HS.out, (HB.out.alloc (by omega) _).grown HG.out (by simp; omega) (own_ge HO0.out)⟩
      case measure => simp [intOf]; omega
    · obtain rfl : j = k := by omega
      go_wp2_with fail
      go_ret
      exact ⟨_, rfl, hrow, HB.out⟩
theorem RowI.lit (w : World) (cs : Array Value) (xs : List Int) (k : IntKind) (e : TypeId) (base n : Nat) (hb : base ≤ w.heap.size) (hc : cs.toList = xs.map (Value.int k)) (hn : n = xs.length) (hm : xs.length ≤ maxLen) :
    RowI (w.alloc (.cells cs e)) base e k (.slice (some ⟨w.heap.size, 0, none⟩) n n) xs := by
  subst hn
  have h := World.ownsRow_lit (base := base) (e := e) (size := 1) w cs xs.length hb hm (by rw [← Array.length_toList, hc, List.length_map, Nat.mul_one])
  unfold RowI
  rw [← hc]
  exact h
theorem mm_any (r m i : Int) (w : World) (hi : I64 i) : Calls Tryz.prog 239 #[.int .i64 r, .int .i64 m, .int .i64 i] w fun e w' => ∃ v, e = .returned v ∧ RowI w' w.heap.size 5 .u8 v (mmB r m i) ∧ Below w.heap.size w w' := by
  obtain ⟨i0, hi0, hz0, hz1, hz2⟩ := info_parts info_u8
  have HI := Lib.hid hi
  clear hi
  have HR0 : Hid (∀ x, RowI (w.alloc (.cells #[.int .u8 x] 5)) w.heap.size 5 .u8 (.slice (some ⟨w.heap.size, 0, none⟩) 1 1) [x]) := fun x => RowI.lit w #[.int .u8 x] [x] .u8 5 w.heap.size 1 (Nat.le_refl _) rfl rfl (by unfold maxLen; simp)
  have C4 : Hid (∀ w, Calls Tryz.prog 148 #[.int .i64 i, .int .i64 4] w fun e w' => ∃ v, e = .returned v ∧ RowI w' w.heap.size 5 .u8 v (leB i 4) ∧ Below w.heap.size w w') := fun w => number_any i 4 w HI.out (by decide)
  go_enter Tryz.func239, Tryz.ntmps239
  go_wp2_with fail
  refine (C4.out _).mono ?_
  rintro e w2 ⟨v2, rfl, hr2, hb2⟩
  have HR1 := Lib.hid (RowI.below (HR0.out _) hb2)
  clear HR0
  obtain ⟨a2, c2, rfl⟩ := hr2.shape
  have hi2 := hr2.ints (by rw [leB_length]; decide)
  have hl2 := leB_length i 4
  have HL2 := Lib.hid hl2
  have hsz : w.heap.size + 1 ≤ w2.heap.size := by have := hb2.size; simpa using this
  have HB2 := Lib.hid (below_box hb2)
  obtain ⟨b2, q2, ea, _⟩ := hi2.row (by rw [hl2]; decide)
  subst ea
  rw [hl2] at hi2
  have HN2 := Lib.hid hi2.newsK
  clear hr2 hi2 hl2 hb2
  rw [HL2.out]
  go_wp2_with (at_builtin; refine wpList_append_own_at _ rfl _ _ 22 rfl w.heap.size 5 i0 (.int .u8 0) 1 1 Tryz.underlying22 hi0 hz0 hz1 hz2 rfl (by decide) _ 1 _ rfl HR1.out ⟨b2, q2, none⟩ 4 c2 ((leB i 4).map (Value.int .u8)) rfl ?c0 HN2.out ?c2 ?c3 ?c4 ?c5 ?_)
  case c0 => rw [List.length_map, HL2.out]
  case c2 => intro u hu; obtain ⟨x, _, rfl⟩ := List.mem_map.1 hu; rfl
  case c3 => unfold maxLen; decide
  case c4 => decide
  case c5 => omega
  intro v' w3 hown' hgrow _ _
  have HO := Lib.hid hown'
  have HG := Lib.hid hgrow
  clear hown' hgrow
  go_wp2_with fail
  go_ret
  refine ⟨_, rfl, RowI.app (xs := [_]) (ys := leB i 4) HO.out (by rw [HL2.out]; rfl) (by unfold mmB; simp only [List.cons_append, List.nil_append, List.cons.injEq, and_true]; unfold wrap64; omega), (HB2.out).grown HG.out (by omega) (own_ge HR1.out)⟩
def InsV (x : Ins) : Value := .agg #[.int .i64 x.o, .int .i64 x.d, .int .i64 x.s, .int .i64 x.z, .int .i64 x.i]
theorem fit_pair (o d s z i : Int) (w : World) : Calls Tryz.prog 233 #[.agg #[.int .i64 o, .int .i64 d, .int .i64 s, .int .i64 z, .int .i64 i]] w fun e w' => e = .returned (.bool ((isR d) && ((isR s) && (i == 0)))) ∧ Below w.heap.size w w' := by
  have HB := Lib.hid ((Below.refl w.heap.size w).alloc (Nat.le_refl _) (.cells #[.int .i64 o, .int .i64 d, .int .i64 s, .int .i64 z, .int .i64 i] 157))
  have C0 := Lib.hid (fun w => isReg_any d w)
  have C1 := Lib.hid (fun w => isReg_any s w)
  cases h0 : (isR d)
  · rw [h0] at C0
    clear h0
    go_enter Tryz.func233, Tryz.ntmps233
    go_wp2_with (first | ((go_at_call 206; first | (with_reducible refine (C0.out _).mono ?_) | (with_reducible refine (C1.out _).mono ?_)); rintro e w' ⟨rfl, rfl⟩))
    go_ret
    exact ⟨rfl, HB.out⟩
  · rw [h0] at C0
    clear h0
    cases h1 : (isR s)
    · rw [h1] at C1
      clear h1
      go_enter Tryz.func233, Tryz.ntmps233
      go_wp2_with (first | ((go_at_call 206; first | (with_reducible refine (C0.out _).mono ?_) | (with_reducible refine (C1.out _).mono ?_)); rintro e w' ⟨rfl, rfl⟩))
      go_ret
      exact ⟨rfl, HB.out⟩
    · rw [h1] at C1
      clear h1
      go_enter Tryz.func233, Tryz.ntmps233
      go_wp2_with (first | ((go_at_call 206; first | (with_reducible refine (C0.out _).mono ?_) | (with_reducible refine (C1.out _).mono ?_)); rintro e w' ⟨rfl, rfl⟩))
      go_ret
      exact ⟨rfl, HB.out⟩
theorem fit_mul (o d s z i : Int) (w : World) : Calls Tryz.prog 214 #[.agg #[.int .i64 o, .int .i64 d, .int .i64 s, .int .i64 z, .int .i64 i]] w fun e w' => e = .returned (.bool ((isR d) && ((isR s) && (i == 0)))) ∧ Below w.heap.size w w' := by
  have HB := Lib.hid ((Below.refl w.heap.size w).alloc (Nat.le_refl _) (.cells #[.int .i64 o, .int .i64 d, .int .i64 s, .int .i64 z, .int .i64 i] 157))
  have C0 := Lib.hid (fun w => isReg_any d w)
  have C1 := Lib.hid (fun w => isReg_any s w)
  cases h0 : (isR d)
  · rw [h0] at C0
    clear h0
    go_enter Tryz.func214, Tryz.ntmps214
    go_wp2_with (first | ((go_at_call 206; first | (with_reducible refine (C0.out _).mono ?_) | (with_reducible refine (C1.out _).mono ?_)); rintro e w' ⟨rfl, rfl⟩))
    go_ret
    exact ⟨rfl, HB.out⟩
  · rw [h0] at C0
    clear h0
    cases h1 : (isR s)
    · rw [h1] at C1
      clear h1
      go_enter Tryz.func214, Tryz.ntmps214
      go_wp2_with (first | ((go_at_call 206; first | (with_reducible refine (C0.out _).mono ?_) | (with_reducible refine (C1.out _).mono ?_)); rintro e w' ⟨rfl, rfl⟩))
      go_ret
      exact ⟨rfl, HB.out⟩
    · rw [h1] at C1
      clear h1
      go_enter Tryz.func214, Tryz.ntmps214
      go_wp2_with (first | ((go_at_call 206; first | (with_reducible refine (C0.out _).mono ?_) | (with_reducible refine (C1.out _).mono ?_)); rintro e w' ⟨rfl, rfl⟩))
      go_ret
      exact ⟨rfl, HB.out⟩
theorem fit_load (o d s z i : Int) (w : World) : Calls Tryz.prog 235 #[.agg #[.int .i64 o, .int .i64 d, .int .i64 s, .int .i64 z, .int .i64 i]] w fun e w' => e = .returned (.bool ((isR d) && ((isM s) && (isW4 i)))) ∧ Below w.heap.size w w' := by
  have HB := Lib.hid ((Below.refl w.heap.size w).alloc (Nat.le_refl _) (.cells #[.int .i64 o, .int .i64 d, .int .i64 s, .int .i64 z, .int .i64 i] 157))
  have C0 := Lib.hid (fun w => isReg_any d w)
  have C1 := Lib.hid (fun w => isMemory_any s w)
  have C2 := Lib.hid (fun w => isWide_any i w)
  cases h0 : (isR d)
  · rw [h0] at C0
    clear h0
    go_enter Tryz.func235, Tryz.ntmps235
    go_wp2_with (first | ((go_at_call 206; (with_reducible refine (C0.out _).mono ?_)); rintro e w' ⟨rfl, rfl⟩) | ((go_at_call 236; (with_reducible refine (C1.out _).mono ?_)); rintro e w' ⟨rfl, rfl⟩) | ((go_at_call 237; (with_reducible refine (C2.out _).mono ?_)); rintro e w' ⟨rfl, rfl⟩))
    go_ret
    exact ⟨rfl, HB.out⟩
  · rw [h0] at C0
    clear h0
    cases h1 : (isM s)
    · rw [h1] at C1
      clear h1
      go_enter Tryz.func235, Tryz.ntmps235
      go_wp2_with (first | ((go_at_call 206; (with_reducible refine (C0.out _).mono ?_)); rintro e w' ⟨rfl, rfl⟩) | ((go_at_call 236; (with_reducible refine (C1.out _).mono ?_)); rintro e w' ⟨rfl, rfl⟩) | ((go_at_call 237; (with_reducible refine (C2.out _).mono ?_)); rintro e w' ⟨rfl, rfl⟩))
      go_ret
      exact ⟨rfl, HB.out⟩
    · rw [h1] at C1
      clear h1
      go_enter Tryz.func235, Tryz.ntmps235
      go_wp2_with (first | ((go_at_call 206; (with_reducible refine (C0.out _).mono ?_)); rintro e w' ⟨rfl, rfl⟩) | ((go_at_call 236; (with_reducible refine (C1.out _).mono ?_)); rintro e w' ⟨rfl, rfl⟩) | ((go_at_call 237; (with_reducible refine (C2.out _).mono ?_)); rintro e w' ⟨rfl, rfl⟩))
      go_ret
      exact ⟨rfl, HB.out⟩
theorem fit_single (o d s z i : Int) (w : World) : Calls Tryz.prog 245 #[.agg #[.int .i64 o, .int .i64 d, .int .i64 s, .int .i64 z, .int .i64 i]] w fun e w' => e = .returned (.bool ((isR d) && ((s == 0) && (i == 0)))) ∧ Below w.heap.size w w' := by
  have HB := Lib.hid ((Below.refl w.heap.size w).alloc (Nat.le_refl _) (.cells #[.int .i64 o, .int .i64 d, .int .i64 s, .int .i64 z, .int .i64 i] 157))
  have C0 := Lib.hid (fun w => isReg_any d w)
  cases h0 : (isR d)
  · rw [h0] at C0
    clear h0
    go_enter Tryz.func245, Tryz.ntmps245
    go_wp2_with (first | ((go_at_call 206; (with_reducible refine (C0.out _).mono ?_)); rintro e w' ⟨rfl, rfl⟩))
    go_ret
    exact ⟨rfl, HB.out⟩
  · rw [h0] at C0
    clear h0
    cases h1 : (s == 0)
    · skip
      go_enter Tryz.func245, Tryz.ntmps245
      go_wp2_with (first | ((go_at_call 206; (with_reducible refine (C0.out _).mono ?_)); rintro e w' ⟨rfl, rfl⟩))
      go_ret
      exact ⟨rfl, HB.out⟩
    · skip
      go_enter Tryz.func245, Tryz.ntmps245
      go_wp2_with (first | ((go_at_call 206; (with_reducible refine (C0.out _).mono ?_)); rintro e w' ⟨rfl, rfl⟩))
      go_ret
      exact ⟨rfl, HB.out⟩
theorem fit_bare (o d s z i : Int) (w : World) : Calls Tryz.prog 247 #[.agg #[.int .i64 o, .int .i64 d, .int .i64 s, .int .i64 z, .int .i64 i]] w fun e w' => e = .returned (.bool ((d == 0) && ((s == 0) && (i == 0)))) ∧ Below w.heap.size w w' := by
  have HB := Lib.hid ((Below.refl w.heap.size w).alloc (Nat.le_refl _) (.cells #[.int .i64 o, .int .i64 d, .int .i64 s, .int .i64 z, .int .i64 i] 157))
  cases h0 : (d == 0)
  · skip
    go_enter Tryz.func247, Tryz.ntmps247
    go_wp2_with fail
    go_ret
    exact ⟨rfl, HB.out⟩
  · skip
    cases h1 : (s == 0)
    · skip
      go_enter Tryz.func247, Tryz.ntmps247
      go_wp2_with fail
      go_ret
      exact ⟨rfl, HB.out⟩
    · skip
      go_enter Tryz.func247, Tryz.ntmps247
      go_wp2_with fail
      go_ret
      exact ⟨rfl, HB.out⟩
theorem fit_set (o d s z i : Int) (w : World) : Calls Tryz.prog 219 #[.agg #[.int .i64 o, .int .i64 d, .int .i64 s, .int .i64 z, .int .i64 i]] w fun e w' => e = .returned (.bool ((isL d) && ((isC s) && (i == 0)))) ∧ Below w.heap.size w w' := by
  have HB := Lib.hid ((Below.refl w.heap.size w).alloc (Nat.le_refl _) (.cells #[.int .i64 o, .int .i64 d, .int .i64 s, .int .i64 z, .int .i64 i] 157))
  have C0 := Lib.hid (fun w => isLow_any d w)
  have C1 := Lib.hid (fun w => isCond_any s w)
  cases h0 : (isL d)
  · rw [h0] at C0
    clear h0
    go_enter Tryz.func219, Tryz.ntmps219
    go_wp2_with (first | ((go_at_call 212; (with_reducible refine (C0.out _).mono ?_)); rintro e w' ⟨rfl, rfl⟩) | ((go_at_call 220; (with_reducible refine (C1.out _).mono ?_)); rintro e w' ⟨rfl, rfl⟩))
    go_ret
    exact ⟨rfl, HB.out⟩
  · rw [h0] at C0
    clear h0
    cases h1 : (isC s)
    · rw [h1] at C1
      clear h1
      go_enter Tryz.func219, Tryz.ntmps219
      go_wp2_with (first | ((go_at_call 212; (with_reducible refine (C0.out _).mono ?_)); rintro e w' ⟨rfl, rfl⟩) | ((go_at_call 220; (with_reducible refine (C1.out _).mono ?_)); rintro e w' ⟨rfl, rfl⟩))
      go_ret
      exact ⟨rfl, HB.out⟩
    · rw [h1] at C1
      clear h1
      go_enter Tryz.func219, Tryz.ntmps219
      go_wp2_with (first | ((go_at_call 212; (with_reducible refine (C0.out _).mono ?_)); rintro e w' ⟨rfl, rfl⟩) | ((go_at_call 220; (with_reducible refine (C1.out _).mono ?_)); rintro e w' ⟨rfl, rfl⟩))
      go_ret
      exact ⟨rfl, HB.out⟩
theorem fit_zero (o d s z i : Int) (w : World) : Calls Tryz.prog 222 #[.agg #[.int .i64 o, .int .i64 d, .int .i64 s, .int .i64 z, .int .i64 i]] w fun e w' => e = .returned (.bool ((isR d) && ((isL s) && (i == 0)))) ∧ Below w.heap.size w w' := by
  have HB := Lib.hid ((Below.refl w.heap.size w).alloc (Nat.le_refl _) (.cells #[.int .i64 o, .int .i64 d, .int .i64 s, .int .i64 z, .int .i64 i] 157))
  have C0 := Lib.hid (fun w => isReg_any d w)
  have C1 := Lib.hid (fun w => isLow_any s w)
  cases h0 : (isR d)
  · rw [h0] at C0
    clear h0
    go_enter Tryz.func222, Tryz.ntmps222
    go_wp2_with (first | ((go_at_call 206; (with_reducible refine (C0.out _).mono ?_)); rintro e w' ⟨rfl, rfl⟩) | ((go_at_call 212; (with_reducible refine (C1.out _).mono ?_)); rintro e w' ⟨rfl, rfl⟩))
    go_ret
    exact ⟨rfl, HB.out⟩
  · rw [h0] at C0
    clear h0
    cases h1 : (isL s)
    · rw [h1] at C1
      clear h1
      go_enter Tryz.func222, Tryz.ntmps222
      go_wp2_with (first | ((go_at_call 206; (with_reducible refine (C0.out _).mono ?_)); rintro e w' ⟨rfl, rfl⟩) | ((go_at_call 212; (with_reducible refine (C1.out _).mono ?_)); rintro e w' ⟨rfl, rfl⟩))
      go_ret
      exact ⟨rfl, HB.out⟩
    · rw [h1] at C1
      clear h1
      go_enter Tryz.func222, Tryz.ntmps222
      go_wp2_with (first | ((go_at_call 206; (with_reducible refine (C0.out _).mono ?_)); rintro e w' ⟨rfl, rfl⟩) | ((go_at_call 212; (with_reducible refine (C1.out _).mono ?_)); rintro e w' ⟨rfl, rfl⟩))
      go_ret
      exact ⟨rfl, HB.out⟩
theorem fit_cmov (o d s z i : Int) (w : World) : Calls Tryz.prog 224 #[.agg #[.int .i64 o, .int .i64 d, .int .i64 s, .int .i64 z, .int .i64 i]] w fun e w' => e = .returned (.bool ((isR d) && ((isR s) && (isC i)))) ∧ Below w.heap.size w w' := by
  have HB := Lib.hid ((Below.refl w.heap.size w).alloc (Nat.le_refl _) (.cells #[.int .i64 o, .int .i64 d, .int .i64 s, .int .i64 z, .int .i64 i] 157))
  have C0 := Lib.hid (fun w => isReg_any d w)
  have C1 := Lib.hid (fun w => isReg_any s w)
  have C2 := Lib.hid (fun w => isCond_any i w)
  cases h0 : (isR d)
  · rw [h0] at C0
    clear h0
    go_enter Tryz.func224, Tryz.ntmps224
    go_wp2_with (first | ((go_at_call 206; first | (with_reducible refine (C0.out _).mono ?_) | (with_reducible refine (C1.out _).mono ?_)); rintro e w' ⟨rfl, rfl⟩) | ((go_at_call 220; (with_reducible refine (C2.out _).mono ?_)); rintro e w' ⟨rfl, rfl⟩))
    go_ret
    exact ⟨rfl, HB.out⟩
  · rw [h0] at C0
    clear h0
    cases h1 : (isR s)
    · rw [h1] at C1
      clear h1
      go_enter Tryz.func224, Tryz.ntmps224
      go_wp2_with (first | ((go_at_call 206; first | (with_reducible refine (C0.out _).mono ?_) | (with_reducible refine (C1.out _).mono ?_)); rintro e w' ⟨rfl, rfl⟩) | ((go_at_call 220; (with_reducible refine (C2.out _).mono ?_)); rintro e w' ⟨rfl, rfl⟩))
      go_ret
      exact ⟨rfl, HB.out⟩
    · rw [h1] at C1
      clear h1
      go_enter Tryz.func224, Tryz.ntmps224
      go_wp2_with (first | ((go_at_call 206; first | (with_reducible refine (C0.out _).mono ?_) | (with_reducible refine (C1.out _).mono ?_)); rintro e w' ⟨rfl, rfl⟩) | ((go_at_call 220; (with_reducible refine (C2.out _).mono ?_)); rintro e w' ⟨rfl, rfl⟩))
      go_ret
      exact ⟨rfl, HB.out⟩
theorem fit_jcc (o d s z i : Int) (w : World) : Calls Tryz.prog 229 #[.agg #[.int .i64 o, .int .i64 d, .int .i64 s, .int .i64 z, .int .i64 i]] w fun e w' => e = .returned (.bool (isC s)) ∧ Below w.heap.size w w' := by
  have HB := Lib.hid ((Below.refl w.heap.size w).alloc (Nat.le_refl _) (.cells #[.int .i64 o, .int .i64 d, .int .i64 s, .int .i64 z, .int .i64 i] 157))
  have C0 := Lib.hid (fun w => isCond_any s w)
  go_enter Tryz.func229, Tryz.ntmps229
  go_wp2_with (first | ((go_at_call 220; (with_reducible refine (C0.out _).mono ?_)); rintro e w' ⟨rfl, rfl⟩))
  go_ret
  exact ⟨rfl, HB.out⟩
theorem fit_jmp (o d s z i : Int) (w : World) : Calls Tryz.prog 232 #[.agg #[.int .i64 o, .int .i64 d, .int .i64 s, .int .i64 z, .int .i64 i]] w fun e w' => e = .returned (.bool (s == 0)) ∧ Below w.heap.size w w' := by
  have HB := Lib.hid ((Below.refl w.heap.size w).alloc (Nat.le_refl _) (.cells #[.int .i64 o, .int .i64 d, .int .i64 s, .int .i64 z, .int .i64 i] 157))
  go_enter Tryz.func232, Tryz.ntmps232
  go_wp2_with fail
  go_ret
  exact ⟨rfl, HB.out⟩
theorem fit_storeR (o d s z i : Int) (b : Nat) (w : World) (hc : w.cell? ⟨b, 0, none⟩ = some (.func (.func 206) #[] #[])) : Calls Tryz.prog 240 #[.agg #[.int .i64 o, .int .i64 d, .int .i64 s, .int .i64 z, .int .i64 i], .pointer (some ⟨b, 0, none⟩)] w fun e w' => e = .returned (.bool ((isM d) && ((isR s) && (isW4 i)))) ∧ Below w.heap.size w w' := by
  have HB := Lib.hid ((Below.refl w.heap.size w).alloc (Nat.le_refl _) (.cells #[.int .i64 o, .int .i64 d, .int .i64 s, .int .i64 z, .int .i64 i] 157))
  have C0 := Lib.hid (fun w => isMemory_any d w)
  have C1 := Lib.hid (fun w => isReg_any s w)
  have C2 := Lib.hid (fun w => isWide_any i w)
  have hl := cell_lt hc
  have hn : ¬ b = w.heap.size := by omega
  cases h0 : (isM d)
  · rw [h0] at C0
    clear h0
    go_enter Tryz.func240, Tryz.ntmps240
    go_wp2_with (first | ((go_at_call 236; (with_reducible refine (C0.out _).mono ?_)); rintro e w' ⟨rfl, rfl⟩) | ((go_at_call 206; (with_reducible refine (C1.out _).mono ?_)); rintro e w' ⟨rfl, rfl⟩) | ((go_at_call 237; (with_reducible refine (C2.out _).mono ?_)); rintro e w' ⟨rfl, rfl⟩))
    go_ret
    exact ⟨rfl, HB.out⟩
  · rw [h0] at C0
    clear h0
    cases h1 : (isR s)
    · rw [h1] at C1
      clear h1
      go_enter Tryz.func240, Tryz.ntmps240
      go_wp2_with (first | ((go_at_call 236; (with_reducible refine (C0.out _).mono ?_)); rintro e w' ⟨rfl, rfl⟩) | ((go_at_call 206; (with_reducible refine (C1.out _).mono ?_)); rintro e w' ⟨rfl, rfl⟩) | ((go_at_call 237; (with_reducible refine (C2.out _).mono ?_)); rintro e w' ⟨rfl, rfl⟩))
      go_ret
      exact ⟨rfl, HB.out⟩
    · rw [h1] at C1
      clear h1
      go_enter Tryz.func240, Tryz.ntmps240
      go_wp2_with (first | ((go_at_call 236; (with_reducible refine (C0.out _).mono ?_)); rintro e w' ⟨rfl, rfl⟩) | ((go_at_call 206; (with_reducible refine (C1.out _).mono ?_)); rintro e w' ⟨rfl, rfl⟩) | ((go_at_call 237; (with_reducible refine (C2.out _).mono ?_)); rintro e w' ⟨rfl, rfl⟩))
      go_ret
      exact ⟨rfl, HB.out⟩
theorem fit_storeL (o d s z i : Int) (b : Nat) (w : World) (hc : w.cell? ⟨b, 0, none⟩ = some (.func (.func 212) #[] #[])) : Calls Tryz.prog 240 #[.agg #[.int .i64 o, .int .i64 d, .int .i64 s, .int .i64 z, .int .i64 i], .pointer (some ⟨b, 0, none⟩)] w fun e w' => e = .returned (.bool ((isM d) && ((isL s) && (isW4 i)))) ∧ Below w.heap.size w w' := by
  have HB := Lib.hid ((Below.refl w.heap.size w).alloc (Nat.le_refl _) (.cells #[.int .i64 o, .int .i64 d, .int .i64 s, .int .i64 z, .int .i64 i] 157))
  have C0 := Lib.hid (fun w => isMemory_any d w)
  have C1 := Lib.hid (fun w => isLow_any s w)
  have C2 := Lib.hid (fun w => isWide_any i w)
  have hl := cell_lt hc
  have hn : ¬ b = w.heap.size := by omega
  cases h0 : (isM d)
  · rw [h0] at C0
    clear h0
    go_enter Tryz.func240, Tryz.ntmps240
    go_wp2_with (first | ((go_at_call 236; (with_reducible refine (C0.out _).mono ?_)); rintro e w' ⟨rfl, rfl⟩) | ((go_at_call 212; (with_reducible refine (C1.out _).mono ?_)); rintro e w' ⟨rfl, rfl⟩) | ((go_at_call 237; (with_reducible refine (C2.out _).mono ?_)); rintro e w' ⟨rfl, rfl⟩))
    go_ret
    exact ⟨rfl, HB.out⟩
  · rw [h0] at C0
    clear h0
    cases h1 : (isL s)
    · rw [h1] at C1
      clear h1
      go_enter Tryz.func240, Tryz.ntmps240
      go_wp2_with (first | ((go_at_call 236; (with_reducible refine (C0.out _).mono ?_)); rintro e w' ⟨rfl, rfl⟩) | ((go_at_call 212; (with_reducible refine (C1.out _).mono ?_)); rintro e w' ⟨rfl, rfl⟩) | ((go_at_call 237; (with_reducible refine (C2.out _).mono ?_)); rintro e w' ⟨rfl, rfl⟩))
      go_ret
      exact ⟨rfl, HB.out⟩
    · rw [h1] at C1
      clear h1
      go_enter Tryz.func240, Tryz.ntmps240
      go_wp2_with (first | ((go_at_call 236; (with_reducible refine (C0.out _).mono ?_)); rintro e w' ⟨rfl, rfl⟩) | ((go_at_call 212; (with_reducible refine (C1.out _).mono ?_)); rintro e w' ⟨rfl, rfl⟩) | ((go_at_call 237; (with_reducible refine (C2.out _).mono ?_)); rintro e w' ⟨rfl, rfl⟩))
      go_ret
      exact ⟨rfl, HB.out⟩
theorem fit_num_32 (o d s i : Int) (w : World) : Calls Tryz.prog 242 #[.agg #[.int .i64 o, .int .i64 d, .int .i64 s, .int .i64 32, .int .i64 i]] w fun e w' => e = .returned (.bool (isR d && ((s == 0) && inZ i 32))) ∧ Below w.heap.size w w' := by
  have HB := Lib.hid ((Below.refl w.heap.size w).alloc (Nat.le_refl _) (.cells #[.int .i64 o, .int .i64 d, .int .i64 s, .int .i64 32, .int .i64 i] 157))
  have C0 := Lib.hid (fun w => isReg_any d w)
  have C1 : Hid (∀ w, Calls Tryz.prog 207 #[.int .i64 i, .int .i64 0, .int .i64 4294967295] w fun e w' => e = .returned (.bool (inZ i 32)) ∧ w = w') := fun w => within_ia i 0 4294967295 w
  generalize inZ i 32 = q at *
  cases h0 : isR d
  · rw [h0] at C0
    clear h0
    go_enter Tryz.func242, Tryz.ntmps242
    go_wp2_with fail
    go_quiet ((first | (go_at_call 206; exact quiet_same (C0.out _)) | (go_at_call 207; exact quiet_same (C1.out _))))
    go_wp2_with fail
    go_ret
    exact ⟨rfl, below_drewN HB.out _⟩
  · rw [h0] at C0
    clear h0
    cases h1 : (s == 0)
    · go_enter Tryz.func242, Tryz.ntmps242
      go_wp2_with fail
      go_quiet ((first | (go_at_call 206; exact quiet_same (C0.out _)) | (go_at_call 207; exact quiet_same (C1.out _))))
      go_wp2_with fail
      go_ret
      exact ⟨rfl, below_drewN HB.out _⟩
    · go_enter Tryz.func242, Tryz.ntmps242
      go_wp2_with fail
      go_quiet ((first | (go_at_call 206; exact quiet_same (C0.out _)) | (go_at_call 207; exact quiet_same (C1.out _))))
      go_wp2_with fail
      go_ret
      exact ⟨rfl, below_drewN HB.out _⟩
theorem fit_num_16 (o d s i : Int) (w : World) : Calls Tryz.prog 242 #[.agg #[.int .i64 o, .int .i64 d, .int .i64 s, .int .i64 16, .int .i64 i]] w fun e w' => e = .returned (.bool (isR d && ((s == 0) && inZ i 16))) ∧ Below w.heap.size w w' := by
  have HB := Lib.hid ((Below.refl w.heap.size w).alloc (Nat.le_refl _) (.cells #[.int .i64 o, .int .i64 d, .int .i64 s, .int .i64 16, .int .i64 i] 157))
  have C0 := Lib.hid (fun w => isReg_any d w)
  have C1 : Hid (∀ w, Calls Tryz.prog 207 #[.int .i64 i, .int .i64 0, .int .i64 65535] w fun e w' => e = .returned (.bool (inZ i 16)) ∧ w = w') := fun w => within_ia i 0 65535 w
  generalize inZ i 16 = q at *
  cases h0 : isR d
  · rw [h0] at C0
    clear h0
    go_enter Tryz.func242, Tryz.ntmps242
    go_wp2_with fail
    go_quiet ((first | (go_at_call 206; exact quiet_same (C0.out _)) | (go_at_call 207; exact quiet_same (C1.out _))))
    go_wp2_with fail
    go_ret
    exact ⟨rfl, below_drewN HB.out _⟩
  · rw [h0] at C0
    clear h0
    cases h1 : (s == 0)
    · go_enter Tryz.func242, Tryz.ntmps242
      go_wp2_with fail
      go_quiet ((first | (go_at_call 206; exact quiet_same (C0.out _)) | (go_at_call 207; exact quiet_same (C1.out _))))
      go_wp2_with fail
      go_ret
      exact ⟨rfl, below_drewN HB.out _⟩
    · go_enter Tryz.func242, Tryz.ntmps242
      go_wp2_with fail
      go_quiet ((first | (go_at_call 206; exact quiet_same (C0.out _)) | (go_at_call 207; exact quiet_same (C1.out _))))
      go_wp2_with fail
      go_ret
      exact ⟨rfl, below_drewN HB.out _⟩
theorem fit_movi_32 (o d s i : Int) (w : World) : Calls Tryz.prog 205 #[.agg #[.int .i64 o, .int .i64 d, .int .i64 s, .int .i64 32, .int .i64 i]] w fun e w' => e = .returned (.bool (isR d && ((s == 0) && inZ i 32))) ∧ Below w.heap.size w w' := by
  have HB := Lib.hid ((Below.refl w.heap.size w).alloc (Nat.le_refl _) (.cells #[.int .i64 o, .int .i64 d, .int .i64 s, .int .i64 32, .int .i64 i] 157))
  have C0 := Lib.hid (fun w => isReg_any d w)
  have C1 : Hid (∀ w, Calls Tryz.prog 207 #[.int .i64 i, .int .i64 0, .int .i64 4294967295] w fun e w' => e = .returned (.bool (inZ i 32)) ∧ w = w') := fun w => within_ia i 0 4294967295 w
  generalize inZ i 32 = q at *
  cases h0 : isR d
  · rw [h0] at C0
    clear h0
    go_enter Tryz.func205, Tryz.ntmps205
    go_wp2_with fail
    go_quiet ((first | (go_at_call 206; exact quiet_same (C0.out _)) | (go_at_call 207; exact quiet_same (C1.out _))))
    go_wp2_with fail
    go_ret
    exact ⟨rfl, below_drewN HB.out _⟩
  · rw [h0] at C0
    clear h0
    cases h1 : (s == 0)
    · go_enter Tryz.func205, Tryz.ntmps205
      go_wp2_with fail
      go_quiet ((first | (go_at_call 206; exact quiet_same (C0.out _)) | (go_at_call 207; exact quiet_same (C1.out _))))
      go_wp2_with fail
      go_ret
      exact ⟨rfl, below_drewN HB.out _⟩
    · go_enter Tryz.func205, Tryz.ntmps205
      go_wp2_with fail
      go_quiet ((first | (go_at_call 206; exact quiet_same (C0.out _)) | (go_at_call 207; exact quiet_same (C1.out _))))
      go_wp2_with fail
      go_ret
      exact ⟨rfl, below_drewN HB.out _⟩
theorem fit_movi_16 (o d s i : Int) (w : World) : Calls Tryz.prog 205 #[.agg #[.int .i64 o, .int .i64 d, .int .i64 s, .int .i64 16, .int .i64 i]] w fun e w' => e = .returned (.bool (isR d && ((s == 0) && inZ i 16))) ∧ Below w.heap.size w w' := by
  have HB := Lib.hid ((Below.refl w.heap.size w).alloc (Nat.le_refl _) (.cells #[.int .i64 o, .int .i64 d, .int .i64 s, .int .i64 16, .int .i64 i] 157))
  have C0 := Lib.hid (fun w => isReg_any d w)
  have C1 : Hid (∀ w, Calls Tryz.prog 207 #[.int .i64 i, .int .i64 0, .int .i64 65535] w fun e w' => e = .returned (.bool (inZ i 16)) ∧ w = w') := fun w => within_ia i 0 65535 w
  generalize inZ i 16 = q at *
  cases h0 : isR d
  · rw [h0] at C0
    clear h0
    go_enter Tryz.func205, Tryz.ntmps205
    go_wp2_with fail
    go_quiet ((first | (go_at_call 206; exact quiet_same (C0.out _)) | (go_at_call 207; exact quiet_same (C1.out _))))
    go_wp2_with fail
    go_ret
    exact ⟨rfl, below_drewN HB.out _⟩
  · rw [h0] at C0
    clear h0
    cases h1 : (s == 0)
    · go_enter Tryz.func205, Tryz.ntmps205
      go_wp2_with fail
      go_quiet ((first | (go_at_call 206; exact quiet_same (C0.out _)) | (go_at_call 207; exact quiet_same (C1.out _))))
      go_wp2_with fail
      go_ret
      exact ⟨rfl, below_drewN HB.out _⟩
    · go_enter Tryz.func205, Tryz.ntmps205
      go_wp2_with fail
      go_quiet ((first | (go_at_call 206; exact quiet_same (C0.out _)) | (go_at_call 207; exact quiet_same (C1.out _))))
      go_wp2_with fail
      go_ret
      exact ⟨rfl, below_drewN HB.out _⟩
theorem fit_jumpC_8 (o d s i : Int) (b : Nat) (w : World) (hc : w.cell? ⟨b, 0, none⟩ = some (.func (.func 229) #[] #[])) : Calls Tryz.prog 249 #[.agg #[.int .i64 o, .int .i64 d, .int .i64 s, .int .i64 8, .int .i64 i], .pointer (some ⟨b, 0, none⟩)] w fun e w' => e = .returned (.bool ((d == 0) && ((isC s) && isB i))) ∧ Below w.heap.size w w' := by
  have hl := cell_lt hc
  have hn : ¬ b = w.heap.size := by omega
  have HB := Lib.hid ((Below.refl w.heap.size w).alloc (Nat.le_refl _) (.cells #[.int .i64 o, .int .i64 d, .int .i64 s, .int .i64 8, .int .i64 i] 157))
  have C0 := Lib.hid (fun w => fit_jcc o d s 8 i w)
  have C1 : Hid (∀ w, Calls Tryz.prog 207 #[.int .i64 i, .int .i64 (-128), .int .i64 127] w fun e w' => e = .returned (.bool (isB i)) ∧ w = w') := fun w => within_ia i (-128) 127 w
  have C2 := Lib.hid (fun w => isWide_any i w)
  cases h0 : (d == 0)
  · go_enter Tryz.func249, Tryz.ntmps249
    go_wp2_with (first | ((go_at_call 229; with_reducible refine (C0.out _).mono ?_); rintro e w1 ⟨rfl, hb⟩; have q3 : w1.cell? ⟨w.heap.size, 3, none⟩ = some (.int .i64 8) := box_kept hb 3; have q4 : w1.cell? ⟨w.heap.size, 4, none⟩ = some (.int .i64 i) := box_kept hb 4) | ((go_at_call 207; with_reducible refine (C1.out _).mono ?_); rintro e w' ⟨rfl, rfl⟩) | ((go_at_call 237; with_reducible refine (C2.out _).mono ?_); rintro e w' ⟨rfl, rfl⟩))
    go_ret
    exact ⟨rfl, HB.out⟩
  · cases h1 : (isC s)
    · rw [h1] at C0
      clear h1
      go_enter Tryz.func249, Tryz.ntmps249
      go_wp2_with (first | ((go_at_call 229; with_reducible refine (C0.out _).mono ?_); rintro e w1 ⟨rfl, hb⟩; have q3 : w1.cell? ⟨w.heap.size, 3, none⟩ = some (.int .i64 8) := box_kept hb 3; have q4 : w1.cell? ⟨w.heap.size, 4, none⟩ = some (.int .i64 i) := box_kept hb 4) | ((go_at_call 207; with_reducible refine (C1.out _).mono ?_); rintro e w' ⟨rfl, rfl⟩) | ((go_at_call 237; with_reducible refine (C2.out _).mono ?_); rintro e w' ⟨rfl, rfl⟩))
      go_ret
      exact ⟨rfl, HB.out.trans (hb.mono (by simp))⟩
    · rw [h1] at C0
      clear h1
      cases h2 : isB i
      · rw [h2] at C1
        clear h2
        go_enter Tryz.func249, Tryz.ntmps249
        go_wp2_with (first | ((go_at_call 229; with_reducible refine (C0.out _).mono ?_); rintro e w1 ⟨rfl, hb⟩; have q3 : w1.cell? ⟨w.heap.size, 3, none⟩ = some (.int .i64 8) := box_kept hb 3; have q4 : w1.cell? ⟨w.heap.size, 4, none⟩ = some (.int .i64 i) := box_kept hb 4) | ((go_at_call 207; with_reducible refine (C1.out _).mono ?_); rintro e w' ⟨rfl, rfl⟩) | ((go_at_call 237; with_reducible refine (C2.out _).mono ?_); rintro e w' ⟨rfl, rfl⟩))
        go_ret
        exact ⟨rfl, HB.out.trans (hb.mono (by simp))⟩
      · rw [h2] at C1
        clear h2
        go_enter Tryz.func249, Tryz.ntmps249
        go_wp2_with (first | ((go_at_call 229; with_reducible refine (C0.out _).mono ?_); rintro e w1 ⟨rfl, hb⟩; have q3 : w1.cell? ⟨w.heap.size, 3, none⟩ = some (.int .i64 8) := box_kept hb 3; have q4 : w1.cell? ⟨w.heap.size, 4, none⟩ = some (.int .i64 i) := box_kept hb 4) | ((go_at_call 207; with_reducible refine (C1.out _).mono ?_); rintro e w' ⟨rfl, rfl⟩) | ((go_at_call 237; with_reducible refine (C2.out _).mono ?_); rintro e w' ⟨rfl, rfl⟩))
        go_ret
        exact ⟨rfl, HB.out.trans (hb.mono (by simp))⟩
theorem fit_jumpC_32 (o d s i : Int) (b : Nat) (w : World) (hc : w.cell? ⟨b, 0, none⟩ = some (.func (.func 229) #[] #[])) : Calls Tryz.prog 249 #[.agg #[.int .i64 o, .int .i64 d, .int .i64 s, .int .i64 32, .int .i64 i], .pointer (some ⟨b, 0, none⟩)] w fun e w' => e = .returned (.bool ((d == 0) && ((isC s) && isW4 i))) ∧ Below w.heap.size w w' := by
  have hl := cell_lt hc
  have hn : ¬ b = w.heap.size := by omega
  have HB := Lib.hid ((Below.refl w.heap.size w).alloc (Nat.le_refl _) (.cells #[.int .i64 o, .int .i64 d, .int .i64 s, .int .i64 32, .int .i64 i] 157))
  have C0 := Lib.hid (fun w => fit_jcc o d s 32 i w)
  have C1 : Hid (∀ w, Calls Tryz.prog 207 #[.int .i64 i, .int .i64 (-128), .int .i64 127] w fun e w' => e = .returned (.bool (isB i)) ∧ w = w') := fun w => within_ia i (-128) 127 w
  have C2 := Lib.hid (fun w => isWide_any i w)
  cases h0 : (d == 0)
  · go_enter Tryz.func249, Tryz.ntmps249
    go_wp2_with (first | ((go_at_call 229; with_reducible refine (C0.out _).mono ?_); rintro e w1 ⟨rfl, hb⟩; have q3 : w1.cell? ⟨w.heap.size, 3, none⟩ = some (.int .i64 32) := box_kept hb 3; have q4 : w1.cell? ⟨w.heap.size, 4, none⟩ = some (.int .i64 i) := box_kept hb 4) | ((go_at_call 207; with_reducible refine (C1.out _).mono ?_); rintro e w' ⟨rfl, rfl⟩) | ((go_at_call 237; with_reducible refine (C2.out _).mono ?_); rintro e w' ⟨rfl, rfl⟩))
    go_ret
    exact ⟨rfl, HB.out⟩
  · cases h1 : (isC s)
    · rw [h1] at C0
      clear h1
      go_enter Tryz.func249, Tryz.ntmps249
      go_wp2_with (first | ((go_at_call 229; with_reducible refine (C0.out _).mono ?_); rintro e w1 ⟨rfl, hb⟩; have q3 : w1.cell? ⟨w.heap.size, 3, none⟩ = some (.int .i64 32) := box_kept hb 3; have q4 : w1.cell? ⟨w.heap.size, 4, none⟩ = some (.int .i64 i) := box_kept hb 4) | ((go_at_call 207; with_reducible refine (C1.out _).mono ?_); rintro e w' ⟨rfl, rfl⟩) | ((go_at_call 237; with_reducible refine (C2.out _).mono ?_); rintro e w' ⟨rfl, rfl⟩))
      go_ret
      exact ⟨rfl, HB.out.trans (hb.mono (by simp))⟩
    · rw [h1] at C0
      clear h1
      go_enter Tryz.func249, Tryz.ntmps249
      go_wp2_with (first | ((go_at_call 229; with_reducible refine (C0.out _).mono ?_); rintro e w1 ⟨rfl, hb⟩; have q3 : w1.cell? ⟨w.heap.size, 3, none⟩ = some (.int .i64 32) := box_kept hb 3; have q4 : w1.cell? ⟨w.heap.size, 4, none⟩ = some (.int .i64 i) := box_kept hb 4) | ((go_at_call 207; with_reducible refine (C1.out _).mono ?_); rintro e w' ⟨rfl, rfl⟩) | ((go_at_call 237; with_reducible refine (C2.out _).mono ?_); rintro e w' ⟨rfl, rfl⟩))
      go_ret
      exact ⟨rfl, HB.out.trans (hb.mono (by simp))⟩
theorem fit_jumpJ_8 (o d s i : Int) (b : Nat) (w : World) (hc : w.cell? ⟨b, 0, none⟩ = some (.func (.func 232) #[] #[])) : Calls Tryz.prog 249 #[.agg #[.int .i64 o, .int .i64 d, .int .i64 s, .int .i64 8, .int .i64 i], .pointer (some ⟨b, 0, none⟩)] w fun e w' => e = .returned (.bool ((d == 0) && ((s == 0) && isB i))) ∧ Below w.heap.size w w' := by
  have hl := cell_lt hc
  have hn : ¬ b = w.heap.size := by omega
  have HB := Lib.hid ((Below.refl w.heap.size w).alloc (Nat.le_refl _) (.cells #[.int .i64 o, .int .i64 d, .int .i64 s, .int .i64 8, .int .i64 i] 157))
  have C0 := Lib.hid (fun w => fit_jmp o d s 8 i w)
  have C1 : Hid (∀ w, Calls Tryz.prog 207 #[.int .i64 i, .int .i64 (-128), .int .i64 127] w fun e w' => e = .returned (.bool (isB i)) ∧ w = w') := fun w => within_ia i (-128) 127 w
  have C2 := Lib.hid (fun w => isWide_any i w)
  cases h0 : (d == 0)
  · go_enter Tryz.func249, Tryz.ntmps249
    go_wp2_with (first | ((go_at_call 232; with_reducible refine (C0.out _).mono ?_); rintro e w1 ⟨rfl, hb⟩; have q3 : w1.cell? ⟨w.heap.size, 3, none⟩ = some (.int .i64 8) := box_kept hb 3; have q4 : w1.cell? ⟨w.heap.size, 4, none⟩ = some (.int .i64 i) := box_kept hb 4) | ((go_at_call 207; with_reducible refine (C1.out _).mono ?_); rintro e w' ⟨rfl, rfl⟩) | ((go_at_call 237; with_reducible refine (C2.out _).mono ?_); rintro e w' ⟨rfl, rfl⟩))
    go_ret
    exact ⟨rfl, HB.out⟩
  · cases h1 : (s == 0)
    · rw [h1] at C0
      clear h1
      go_enter Tryz.func249, Tryz.ntmps249
      go_wp2_with (first | ((go_at_call 232; with_reducible refine (C0.out _).mono ?_); rintro e w1 ⟨rfl, hb⟩; have q3 : w1.cell? ⟨w.heap.size, 3, none⟩ = some (.int .i64 8) := box_kept hb 3; have q4 : w1.cell? ⟨w.heap.size, 4, none⟩ = some (.int .i64 i) := box_kept hb 4) | ((go_at_call 207; with_reducible refine (C1.out _).mono ?_); rintro e w' ⟨rfl, rfl⟩) | ((go_at_call 237; with_reducible refine (C2.out _).mono ?_); rintro e w' ⟨rfl, rfl⟩))
      go_ret
      exact ⟨rfl, HB.out.trans (hb.mono (by simp))⟩
    · rw [h1] at C0
      clear h1
      cases h2 : isB i
      · rw [h2] at C1
        clear h2
        go_enter Tryz.func249, Tryz.ntmps249
        go_wp2_with (first | ((go_at_call 232; with_reducible refine (C0.out _).mono ?_); rintro e w1 ⟨rfl, hb⟩; have q3 : w1.cell? ⟨w.heap.size, 3, none⟩ = some (.int .i64 8) := box_kept hb 3; have q4 : w1.cell? ⟨w.heap.size, 4, none⟩ = some (.int .i64 i) := box_kept hb 4) | ((go_at_call 207; with_reducible refine (C1.out _).mono ?_); rintro e w' ⟨rfl, rfl⟩) | ((go_at_call 237; with_reducible refine (C2.out _).mono ?_); rintro e w' ⟨rfl, rfl⟩))
        go_ret
        exact ⟨rfl, HB.out.trans (hb.mono (by simp))⟩
      · rw [h2] at C1
        clear h2
        go_enter Tryz.func249, Tryz.ntmps249
        go_wp2_with (first | ((go_at_call 232; with_reducible refine (C0.out _).mono ?_); rintro e w1 ⟨rfl, hb⟩; have q3 : w1.cell? ⟨w.heap.size, 3, none⟩ = some (.int .i64 8) := box_kept hb 3; have q4 : w1.cell? ⟨w.heap.size, 4, none⟩ = some (.int .i64 i) := box_kept hb 4) | ((go_at_call 207; with_reducible refine (C1.out _).mono ?_); rintro e w' ⟨rfl, rfl⟩) | ((go_at_call 237; with_reducible refine (C2.out _).mono ?_); rintro e w' ⟨rfl, rfl⟩))
        go_ret
        exact ⟨rfl, HB.out.trans (hb.mono (by simp))⟩
theorem fit_jumpJ_32 (o d s i : Int) (b : Nat) (w : World) (hc : w.cell? ⟨b, 0, none⟩ = some (.func (.func 232) #[] #[])) : Calls Tryz.prog 249 #[.agg #[.int .i64 o, .int .i64 d, .int .i64 s, .int .i64 32, .int .i64 i], .pointer (some ⟨b, 0, none⟩)] w fun e w' => e = .returned (.bool ((d == 0) && ((s == 0) && isW4 i))) ∧ Below w.heap.size w w' := by
  have hl := cell_lt hc
  have hn : ¬ b = w.heap.size := by omega
  have HB := Lib.hid ((Below.refl w.heap.size w).alloc (Nat.le_refl _) (.cells #[.int .i64 o, .int .i64 d, .int .i64 s, .int .i64 32, .int .i64 i] 157))
  have C0 := Lib.hid (fun w => fit_jmp o d s 32 i w)
  have C1 : Hid (∀ w, Calls Tryz.prog 207 #[.int .i64 i, .int .i64 (-128), .int .i64 127] w fun e w' => e = .returned (.bool (isB i)) ∧ w = w') := fun w => within_ia i (-128) 127 w
  have C2 := Lib.hid (fun w => isWide_any i w)
  cases h0 : (d == 0)
  · go_enter Tryz.func249, Tryz.ntmps249
    go_wp2_with (first | ((go_at_call 232; with_reducible refine (C0.out _).mono ?_); rintro e w1 ⟨rfl, hb⟩; have q3 : w1.cell? ⟨w.heap.size, 3, none⟩ = some (.int .i64 32) := box_kept hb 3; have q4 : w1.cell? ⟨w.heap.size, 4, none⟩ = some (.int .i64 i) := box_kept hb 4) | ((go_at_call 207; with_reducible refine (C1.out _).mono ?_); rintro e w' ⟨rfl, rfl⟩) | ((go_at_call 237; with_reducible refine (C2.out _).mono ?_); rintro e w' ⟨rfl, rfl⟩))
    go_ret
    exact ⟨rfl, HB.out⟩
  · cases h1 : (s == 0)
    · rw [h1] at C0
      clear h1
      go_enter Tryz.func249, Tryz.ntmps249
      go_wp2_with (first | ((go_at_call 232; with_reducible refine (C0.out _).mono ?_); rintro e w1 ⟨rfl, hb⟩; have q3 : w1.cell? ⟨w.heap.size, 3, none⟩ = some (.int .i64 32) := box_kept hb 3; have q4 : w1.cell? ⟨w.heap.size, 4, none⟩ = some (.int .i64 i) := box_kept hb 4) | ((go_at_call 207; with_reducible refine (C1.out _).mono ?_); rintro e w' ⟨rfl, rfl⟩) | ((go_at_call 237; with_reducible refine (C2.out _).mono ?_); rintro e w' ⟨rfl, rfl⟩))
      go_ret
      exact ⟨rfl, HB.out.trans (hb.mono (by simp))⟩
    · rw [h1] at C0
      clear h1
      go_enter Tryz.func249, Tryz.ntmps249
      go_wp2_with (first | ((go_at_call 232; with_reducible refine (C0.out _).mono ?_); rintro e w1 ⟨rfl, hb⟩; have q3 : w1.cell? ⟨w.heap.size, 3, none⟩ = some (.int .i64 32) := box_kept hb 3; have q4 : w1.cell? ⟨w.heap.size, 4, none⟩ = some (.int .i64 i) := box_kept hb 4) | ((go_at_call 207; with_reducible refine (C1.out _).mono ?_); rintro e w' ⟨rfl, rfl⟩) | ((go_at_call 237; with_reducible refine (C2.out _).mono ?_); rintro e w' ⟨rfl, rfl⟩))
      go_ret
      exact ⟨rfl, HB.out.trans (hb.mono (by simp))⟩
theorem RowI.mono {w : World} {base base' : Nat} {e : TypeId} {k : IntKind} {v : Value} {xs : List Int} (h : RowI w base e k v xs) (hb : base' ≤ base) : RowI w base' e k v xs := World.ownsRow.mono h hb
theorem acc_r {P : Program} {f : FuncId} {args : Array Value} {w : World} {e0 : TypeId} {k : IntKind} {xs : List Int} (h : Calls P f args w fun e w' => ∃ v, e = .returned v ∧ RowI w' w.heap.size e0 k v xs ∧ Below w.heap.size w w') {w0 : World} (h0 : Since w0 w) :
    Calls P f args w fun e w' => ∃ v, e = .returned v ∧ RowI w' w0.heap.size e0 k v xs ∧ Below w.heap.size w w' ∧ Since w0 w' :=
  h.mono fun _ _ ⟨v, h1, h2, h3⟩ => ⟨v, h1, h2.mono h0.size, h3, below_hop h0 h3⟩
section
variable {P : Program} {w : World}
theorem step_app_row {ops : Array Oper} {o : Oper} {a : Act} {K : Act → World → Prop} {Q : Exit → Act → World → Prop} {E : Prop} {k : IntKind} (hgd : o.guard = none) (s x : Operand) (t : TypeId)
    (ho : o.op = .call { callee := .builtin .append, args := #[s, x], argTypes := #[t, t] }) (base : Nat) (e : TypeId) (i : TypeInfo) (bytes : Nat) (ht : P.underlying t = some (.slice e)) (hi : P.info? e = some i) (hz : i.zero = some (.int k 0))
    (hsize : i.size = 1) (hby : i.bytes = bytes) (hb8 : bytes ≤ 8) (v : Value) (xs : List Int) (hs : a.eval s = v) (hown : RowI w base e k v xs)
    (u : Value) (ys : List Int) (hx : a.eval x = u) (hu : Ints k w u ys) (hm : 0 < ys.length) (hl : xs.length + ys.length ≤ 100000) (hbase : base ≤ w.heap.size)
    (h : ∀ v' w', RowI w' base e k v' (xs ++ ys) → Below base w w' → K (a.put o.dst v') w') : if Region.wanted o (yielded ops a.tmps) = true then Oper.wp P o a w K Q else E := by
  obtain ⟨b, q, c, rfl, _, _⟩ := hu.at hm
  have hn := hu.newsK
  refine step_append_lies (w := w) hgd s x t ho base e i (.int k 0) 1 bytes ht hi hz hsize hby rfl (by decide) v xs.length (xs.map (Value.int k)) hs hown ⟨b, q, none⟩ ys.length c (ys.map (Value.int k)) hx (by simp) hn (fun u hu => by obtain ⟨x, _, rfl⟩ := List.mem_map.1 hu; rfl) hm (by unfold maxLen; omega) ?_ hbase w.heap.size rfl ?_
  · have : (xs.length + ys.length) * bytes ≤ 100000 * 8 := Nat.mul_le_mul hl hb8
    omega
  · intro g cap w' hown' hgrow _ _
    exact h _ w' (RowI.app hown' rfl rfl) ((Below.refl base w).grown hgrow hbase (own_ge hown))
theorem wpList_app_row {ops : Array Oper} {rest : List Oper} {o : Oper} {a : Act} {Q : Exit → Act → World → Prop} {k : IntKind} (hgd : o.guard = none) (s x : Operand) (t : TypeId)
    (ho : o.op = .call { callee := .builtin .append, args := #[s, x], argTypes := #[t, t] }) (base : Nat) (e : TypeId) (i : TypeInfo) (bytes : Nat) (ht : P.underlying t = some (.slice e)) (hi : P.info? e = some i) (hz : i.zero = some (.int k 0))
    (hsize : i.size = 1) (hby : i.bytes = bytes) (hb8 : bytes ≤ 8) (v : Value) (xs : List Int) (hs : a.eval s = v) (hown : RowI w base e k v xs)
    (u : Value) (ys : List Int) (hx : a.eval x = u) (hu : Ints k w u ys) (hm : 0 < ys.length) (hl : xs.length + ys.length ≤ 100000) (hbase : base ≤ w.heap.size)
    (h : ∀ v' w', RowI w' base e k v' (xs ++ ys) → Below base w w' → wpList P ops Q rest (a.put o.dst v') w') : wpList P ops Q (o :: rest) a w := by
  obtain ⟨b, q, c, rfl, _, _⟩ := hu.at hm
  have hn := hu.newsK
  refine wpList_append_own (w := w) hgd s x t ho base e i (.int k 0) 1 bytes ht hi hz hsize hby rfl (by decide) v xs.length (xs.map (Value.int k)) hs hown ⟨b, q, none⟩ ys.length c (ys.map (Value.int k)) hx (by simp) hn (fun u hu => by obtain ⟨x, _, rfl⟩ := List.mem_map.1 hu; rfl) (by unfold maxLen; omega) ?_ hbase ?_
  · have : (xs.length + ys.length) * bytes ≤ 100000 * 8 := Nat.mul_le_mul hl hb8
    omega
  · intro v' w' hown' hgrow _
    exact h _ w' (RowI.app hown' rfl rfl) ((Below.refl base w).grown hgrow hbase (own_ge hown))
end
theorem clone_any (xs : List Int) (v : Value) (w : World) (hv : Ints .u8 w v xs) (h0 : 0 < xs.length) (h1 : xs.length ≤ 50000) : Calls Tryz.prog 63 #[v] w fun e w' => ∃ v, e = .returned v ∧ RowI w' w.heap.size 5 .u8 v xs ∧ Below w.heap.size w w' := by
  obtain ⟨i0, hi0, hz0, hz1, hz2⟩ := info_parts info_u8
  have HV := Lib.hid hv
  obtain ⟨b, q, c, rfl, _, hbl, _⟩ := hv.at h0
  have HR0 := Lib.hid (RowI.lit w #[] [] .u8 5 w.heap.size 0 (Nat.le_refl _) rfl rfl (by unfold maxLen; simp))
  have HB := Lib.hid ((Below.refl w.heap.size w).alloc (Nat.le_refl _) (.cells #[] 5))
  clear hv
  have hnl : ∀ w, (binOp .eql 22 (.slice (some ⟨b, q, none⟩) xs.length c) (.slice none 0 0)).run Tryz.prog w = .ok (.bool false) w := fun w => Lib.run_eql_slice_nil w 22 5 (some ⟨b, q, none⟩) xs.length c 0 0 Tryz.underlying22
  go_enter Tryz.func63, Tryz.ntmps63
  go_wp2_with (at_builtin; go_must (refine wpList_app_row rfl _ _ 22 rfl w.heap.size 5 i0 1 Tryz.underlying22 hi0 hz0 hz1 hz2 (by decide) _ [] rfl HR0.out _ xs rfl (HV.out.stays HB.out) h0 ?c1 ?c2 ?_))
  case c1 => simp; omega
  case c2 => simp
  intro v' w' hr hb
  have HR := Lib.hid hr
  have HB2 := Lib.hid (HB.out.trans hb)
  clear hr hb
  go_wp2_with fail
  go_ret
  exact ⟨_, rfl, HR.out, HB2.out⟩
theorem wr_pair (o d s z i c : Int) (b : Nat) (w : World) (hc : w.cell? ⟨b, 0, none⟩ = some (.int .u8 c)) : Calls Tryz.prog 234 #[.agg #[.int .i64 o, .int .i64 d, .int .i64 s, .int .i64 z, .int .i64 i], .pointer (some ⟨b, 0, none⟩)] w fun e w' => ∃ v, e = .returned v ∧ RowI w' w.heap.size 5 .u8 v [c, mrB s d] ∧ Below w.heap.size w w' := by
  have hl := cell_lt hc
  have hn : ¬ b = w.heap.size := by omega
  have C0 := Lib.hid (fun w => mr_any s d w)
  have HB := Lib.hid ((Below.refl w.heap.size w).alloc (Nat.le_refl _) (.cells #[.int .i64 o, .int .i64 d, .int .i64 s, .int .i64 z, .int .i64 i] 157))
  obtain ⟨W0, hW0⟩ : ∃ W, w.alloc (.cells #[.int .i64 o, .int .i64 d, .int .i64 s, .int .i64 z, .int .i64 i] 157) = W := ⟨_, rfl⟩
  have p0 : ∀ wk, Since W0 wk → wk.cell? ⟨b, 0, none⟩ = some (.int .u8 c) := fun wk h => h.cell (by rw [← hW0]; exact cell_alloc hc)
  have p1 : ∀ wk, Since W0 wk → wk.cell? ⟨w.heap.size, 1, none⟩ = some (.int .i64 d) := fun wk h => h.cell (by rw [← hW0]; simp [go_sem])
  have p2 : ∀ wk, Since W0 wk → wk.cell? ⟨w.heap.size, 2, none⟩ = some (.int .i64 s) := fun wk h => h.cell (by rw [← hW0]; simp [go_sem])
  have h00 := Since.refl W0
  rw [hW0] at HB
  generalize mrB s d = q at *
  clear hc hl hn
  go_enter Tryz.func234, Tryz.ntmps234
  go_wp2_with fail
  clear hW0
  go_region_held3 (fun wk => Since W0 wk) (first | assumption | exact Since.drew (by assumption) | exact Since.next (by assumption) ((Below.refl _ _).alloc (Nat.le_refl _) _)) (first | (go_at_call 216; with_reducible refine (C0.out _).mono ?_; rintro e w' ⟨rfl, rfl⟩))
  go_wp2_with fail
  go_ret
  exact ⟨_, rfl, RowI.lit W0 #[_, _] [c, q] .u8 5 w.heap.size 2 HB.out.size rfl rfl (by unfold maxLen; simp), below_drewN (HB.out.trans (((Below.refl _ W0).alloc (Nat.le_refl _) _).mono HB.out.size)) 1⟩
end Go.Proofs.YtaegpeofecdhfaaGreat
namespace Go.Proofs.YtaegpeofecdhfaaGreat
open Go.RowKit
set_option linter.unusedVariables false
set_option linter.unusedSimpArgs false
theorem RowI.to {w : World} {base : Nat} {e : TypeId} {k : IntKind} {v : Value} {xs ys : List Int} (h : RowI w base e k v xs) (he : xs = ys) : RowI w base e k v ys := he ▸ h
theorem wr_single (o d s z i c n : Int) (b b2 : Nat) (w : World) (hc0 : w.cell? ⟨b, 0, none⟩ = some (.int .u8 c)) (hc1 : w.cell? ⟨b2, 0, none⟩ = some (.int .i64 n)) : Calls Tryz.prog 246 #[.agg #[.int .i64 o, .int .i64 d, .int .i64 s, .int .i64 z, .int .i64 i], .pointer (some ⟨b, 0, none⟩), .pointer (some ⟨b2, 0, none⟩)] w fun e w' => ∃ v, e = .returned v ∧ RowI w' w.heap.size 5 .u8 v [c, mrB n d] ∧ Below w.heap.size w w' := by
  have hl0 := cell_lt hc0
  have hn0 : ¬ b = w.heap.size := by omega
  have hl1 := cell_lt hc1
  have hn1 : ¬ b2 = w.heap.size := by omega
  have HB := Lib.hid ((Below.refl w.heap.size w).alloc (Nat.le_refl _) (.cells #[.int .i64 o, .int .i64 d, .int .i64 s, .int .i64 z, .int .i64 i] 157))
  obtain ⟨W0, hW0⟩ : ∃ W, w.alloc (.cells #[.int .i64 o, .int .i64 d, .int .i64 s, .int .i64 z, .int .i64 i] 157) = W := ⟨_, rfl⟩
  have p0 : ∀ wk, Since W0 wk → wk.cell? ⟨b, 0, none⟩ = some (.int .u8 c) := fun wk h => h.cell (by rw [← hW0]; exact cell_alloc hc0)
  have p1 : ∀ wk, Since W0 wk → wk.cell? ⟨b2, 0, none⟩ = some (.int .i64 n) := fun wk h => h.cell (by rw [← hW0]; exact cell_alloc hc1)
  have q1 : ∀ wk, Since W0 wk → wk.cell? ⟨w.heap.size, 1, none⟩ = some (.int .i64 d) := fun wk h => h.cell (by rw [← hW0]; simp [go_sem])
  have h00 := Since.refl W0
  rw [hW0] at HB
  have C0 := Lib.hid (fun w => mr_any n d w)
  generalize mrB n d = q at *
  clear hc0 hl0 hn0
  clear hc1 hl1 hn1
  go_enter Tryz.func246, Tryz.ntmps246
  go_wp2_with fail
  clear hW0
  go_region_held3 (fun wk => Since W0 wk) (first | assumption | exact Since.drew (by assumption) | exact Since.next (by assumption) ((Below.refl _ _).alloc (Nat.le_refl _) _)) (first | (go_at_call 216; with_reducible refine (C0.out _).mono ?_; rintro e w' ⟨rfl, rfl⟩))
  go_wp2_with fail
  go_ret
  exact ⟨_, rfl, RowI.to (RowI.lit W0 #[_, _] [_, _] .u8 5 w.heap.size 2 HB.out.size rfl rfl (by unfold maxLen; simp)) (rfl), below_drewN (HB.out.trans (((Below.refl _ W0).alloc (Nat.le_refl _) _).mono HB.out.size)) 1⟩
theorem wr_mul (o d s z i : Int) (w : World) : Calls Tryz.prog 215 #[.agg #[.int .i64 o, .int .i64 d, .int .i64 s, .int .i64 z, .int .i64 i]] w fun e w' => ∃ v, e = .returned v ∧ RowI w' w.heap.size 5 .u8 v [15, 175, mrB d s] ∧ Below w.heap.size w w' := by
  have HB := Lib.hid ((Below.refl w.heap.size w).alloc (Nat.le_refl _) (.cells #[.int .i64 o, .int .i64 d, .int .i64 s, .int .i64 z, .int .i64 i] 157))
  obtain ⟨W0, hW0⟩ : ∃ W, w.alloc (.cells #[.int .i64 o, .int .i64 d, .int .i64 s, .int .i64 z, .int .i64 i] 157) = W := ⟨_, rfl⟩
  have q1 : ∀ wk, Since W0 wk → wk.cell? ⟨w.heap.size, 1, none⟩ = some (.int .i64 d) := fun wk h => h.cell (by rw [← hW0]; simp [go_sem])
  have q2 : ∀ wk, Since W0 wk → wk.cell? ⟨w.heap.size, 2, none⟩ = some (.int .i64 s) := fun wk h => h.cell (by rw [← hW0]; simp [go_sem])
  have h00 := Since.refl W0
  rw [hW0] at HB
  have C0 := Lib.hid (fun w => mr_any d s w)
  generalize mrB d s = q at *
  go_enter Tryz.func215, Tryz.ntmps215
  go_wp2_with (go_at_call 216; with_reducible refine (C0.out _).mono ?_; rintro e w' ⟨rfl, rfl⟩)
  go_ret
  exact ⟨_, rfl, RowI.to (RowI.lit W0 #[_, _, _] [_, _, _] .u8 5 w.heap.size 3 HB.out.size rfl rfl (by unfold maxLen; simp)) (rfl), HB.out.trans (((Below.refl _ W0).alloc (Nat.le_refl _) _).mono HB.out.size)⟩
theorem wr_zero (o d s z i : Int) (w : World) : Calls Tryz.prog 223 #[.agg #[.int .i64 o, .int .i64 d, .int .i64 s, .int .i64 z, .int .i64 i]] w fun e w' => ∃ v, e = .returned v ∧ RowI w' w.heap.size 5 .u8 v [15, 182, mrB d s] ∧ Below w.heap.size w w' := by
  have HB := Lib.hid ((Below.refl w.heap.size w).alloc (Nat.le_refl _) (.cells #[.int .i64 o, .int .i64 d, .int .i64 s, .int .i64 z, .int .i64 i] 157))
  obtain ⟨W0, hW0⟩ : ∃ W, w.alloc (.cells #[.int .i64 o, .int .i64 d, .int .i64 s, .int .i64 z, .int .i64 i] 157) = W := ⟨_, rfl⟩
  have q1 : ∀ wk, Since W0 wk → wk.cell? ⟨w.heap.size, 1, none⟩ = some (.int .i64 d) := fun wk h => h.cell (by rw [← hW0]; simp [go_sem])
  have q2 : ∀ wk, Since W0 wk → wk.cell? ⟨w.heap.size, 2, none⟩ = some (.int .i64 s) := fun wk h => h.cell (by rw [← hW0]; simp [go_sem])
  have h00 := Since.refl W0
  rw [hW0] at HB
  have C0 := Lib.hid (fun w => mr_any d s w)
  generalize mrB d s = q at *
  go_enter Tryz.func223, Tryz.ntmps223
  go_wp2_with (go_at_call 216; with_reducible refine (C0.out _).mono ?_; rintro e w' ⟨rfl, rfl⟩)
  go_ret
  exact ⟨_, rfl, RowI.to (RowI.lit W0 #[_, _, _] [_, _, _] .u8 5 w.heap.size 3 HB.out.size rfl rfl (by unfold maxLen; simp)) (rfl), HB.out.trans (((Below.refl _ W0).alloc (Nat.le_refl _) _).mono HB.out.size)⟩
theorem wr_set (o d s z i : Int) (w : World) (h1 : 0 ≤ s) (h2 : s ≤ 15) : Calls Tryz.prog 221 #[.agg #[.int .i64 o, .int .i64 d, .int .i64 s, .int .i64 z, .int .i64 i]] w fun e w' => ∃ v, e = .returned v ∧ RowI w' w.heap.size 5 .u8 v [15, (144 + s) % 256, mrB 0 d] ∧ Below w.heap.size w w' := by
  have HB := Lib.hid ((Below.refl w.heap.size w).alloc (Nat.le_refl _) (.cells #[.int .i64 o, .int .i64 d, .int .i64 s, .int .i64 z, .int .i64 i] 157))
  obtain ⟨W0, hW0⟩ : ∃ W, w.alloc (.cells #[.int .i64 o, .int .i64 d, .int .i64 s, .int .i64 z, .int .i64 i] 157) = W := ⟨_, rfl⟩
  have q1 : ∀ wk, Since W0 wk → wk.cell? ⟨w.heap.size, 1, none⟩ = some (.int .i64 d) := fun wk h => h.cell (by rw [← hW0]; simp [go_sem])
  have q2 : ∀ wk, Since W0 wk → wk.cell? ⟨w.heap.size, 2, none⟩ = some (.int .i64 s) := fun wk h => h.cell (by rw [← hW0]; simp [go_sem])
  have h00 := Since.refl W0
  rw [hW0] at HB
  have C0 := Lib.hid (fun w => mr_any 0 d w)
  generalize mrB 0 d = q at *
  go_enter Tryz.func221, Tryz.ntmps221
  go_wp2_with fail
  clear hW0
  go_region_held3 (fun wk => Since W0 wk) (first | assumption | exact Since.drew (by assumption) | exact Since.next (by assumption) ((Below.refl _ _).alloc (Nat.le_refl _) _)) (first | (go_at_call 216; with_reducible refine (C0.out _).mono ?_; rintro e w' ⟨rfl, rfl⟩))
  go_wp2_with fail
  go_ret
  exact ⟨_, rfl, RowI.to (RowI.lit W0 #[_, _, _] [_, _, _] .u8 5 w.heap.size 3 HB.out.size rfl rfl (by unfold maxLen; simp)) (by first | rfl | ((try simp only [List.cons.injEq, and_true, true_and, IntKind.wrap_u8, IntKind.wrap_i64]); omega)), below_drewN (HB.out.trans (((Below.refl _ W0).alloc (Nat.le_refl _) _).mono HB.out.size)) 1⟩
theorem wr_cmov (o d s z i : Int) (w : World) (h1 : 0 ≤ i) (h2 : i ≤ 15) : Calls Tryz.prog 225 #[.agg #[.int .i64 o, .int .i64 d, .int .i64 s, .int .i64 z, .int .i64 i]] w fun e w' => ∃ v, e = .returned v ∧ RowI w' w.heap.size 5 .u8 v [15, (64 + i) % 256, mrB d s] ∧ Below w.heap.size w w' := by
  have HB := Lib.hid ((Below.refl w.heap.size w).alloc (Nat.le_refl _) (.cells #[.int .i64 o, .int .i64 d, .int .i64 s, .int .i64 z, .int .i64 i] 157))
  obtain ⟨W0, hW0⟩ : ∃ W, w.alloc (.cells #[.int .i64 o, .int .i64 d, .int .i64 s, .int .i64 z, .int .i64 i] 157) = W := ⟨_, rfl⟩
  have q1 : ∀ wk, Since W0 wk → wk.cell? ⟨w.heap.size, 1, none⟩ = some (.int .i64 d) := fun wk h => h.cell (by rw [← hW0]; simp [go_sem])
  have q2 : ∀ wk, Since W0 wk → wk.cell? ⟨w.heap.size, 2, none⟩ = some (.int .i64 s) := fun wk h => h.cell (by rw [← hW0]; simp [go_sem])
  have q4 : ∀ wk, Since W0 wk → wk.cell? ⟨w.heap.size, 4, none⟩ = some (.int .i64 i) := fun wk h => h.cell (by rw [← hW0]; simp [go_sem])
  have h00 := Since.refl W0
  rw [hW0] at HB
  have C0 := Lib.hid (fun w => mr_any d s w)
  generalize mrB d s = q at *
  go_enter Tryz.func225, Tryz.ntmps225
  go_wp2_with fail
  clear hW0
  go_region_held3 (fun wk => Since W0 wk) (first | assumption | exact Since.drew (by assumption) | exact Since.next (by assumption) ((Below.refl _ _).alloc (Nat.le_refl _) _)) (first | (go_at_call 216; with_reducible refine (C0.out _).mono ?_; rintro e w' ⟨rfl, rfl⟩))
  go_wp2_with fail
  go_ret
  exact ⟨_, rfl, RowI.to (RowI.lit W0 #[_, _, _] [_, _, _] .u8 5 w.heap.size 3 HB.out.size rfl rfl (by unfold maxLen; simp)) (by first | rfl | ((try simp only [List.cons.injEq, and_true, true_and, IntKind.wrap_u8, IntKind.wrap_i64]); omega)), below_drewN (HB.out.trans (((Below.refl _ W0).alloc (Nat.le_refl _) _).mono HB.out.size)) 1⟩
theorem wr_jccS (o d s z i : Int) (w : World) (h1 : 0 ≤ s) (h2 : s ≤ 15) : Calls Tryz.prog 227 #[.agg #[.int .i64 o, .int .i64 d, .int .i64 s, .int .i64 z, .int .i64 i]] w fun e w' => ∃ v, e = .returned v ∧ RowI w' w.heap.size 5 .u8 v [(112 + s) % 256] ∧ Below w.heap.size w w' := by
  have HB := Lib.hid ((Below.refl w.heap.size w).alloc (Nat.le_refl _) (.cells #[.int .i64 o, .int .i64 d, .int .i64 s, .int .i64 z, .int .i64 i] 157))
  obtain ⟨W0, hW0⟩ : ∃ W, w.alloc (.cells #[.int .i64 o, .int .i64 d, .int .i64 s, .int .i64 z, .int .i64 i] 157) = W := ⟨_, rfl⟩
  have q2 : ∀ wk, Since W0 wk → wk.cell? ⟨w.heap.size, 2, none⟩ = some (.int .i64 s) := fun wk h => h.cell (by rw [← hW0]; simp [go_sem])
  have h00 := Since.refl W0
  rw [hW0] at HB
  go_enter Tryz.func227, Tryz.ntmps227
  go_wp2_with fail
  go_ret
  exact ⟨_, rfl, RowI.to (RowI.lit W0 #[_] [_] .u8 5 w.heap.size 1 HB.out.size rfl rfl (by unfold maxLen; simp)) (by first | rfl | ((try simp only [List.cons.injEq, and_true, true_and, IntKind.wrap_u8, IntKind.wrap_i64]); omega)), HB.out.trans (((Below.refl _ W0).alloc (Nat.le_refl _) _).mono HB.out.size)⟩
theorem wr_jccL (o d s z i : Int) (w : World) (h1 : 0 ≤ s) (h2 : s ≤ 15) : Calls Tryz.prog 228 #[.agg #[.int .i64 o, .int .i64 d, .int .i64 s, .int .i64 z, .int .i64 i]] w fun e w' => ∃ v, e = .returned v ∧ RowI w' w.heap.size 5 .u8 v [15, (128 + s) % 256] ∧ Below w.heap.size w w' := by
  have HB := Lib.hid ((Below.refl w.heap.size w).alloc (Nat.le_refl _) (.cells #[.int .i64 o, .int .i64 d, .int .i64 s, .int .i64 z, .int .i64 i] 157))
  obtain ⟨W0, hW0⟩ : ∃ W, w.alloc (.cells #[.int .i64 o, .int .i64 d, .int .i64 s, .int .i64 z, .int .i64 i] 157) = W := ⟨_, rfl⟩
  have q2 : ∀ wk, Since W0 wk → wk.cell? ⟨w.heap.size, 2, none⟩ = some (.int .i64 s) := fun wk h => h.cell (by rw [← hW0]; simp [go_sem])
  have h00 := Since.refl W0
  rw [hW0] at HB
  go_enter Tryz.func228, Tryz.ntmps228
  go_wp2_with fail
  go_ret
  exact ⟨_, rfl, RowI.to (RowI.lit W0 #[_, _] [_, _] .u8 5 w.heap.size 2 HB.out.size rfl rfl (by unfold maxLen; simp)) (by first | rfl | ((try simp only [List.cons.injEq, and_true, true_and, IntKind.wrap_u8, IntKind.wrap_i64]); omega)), HB.out.trans (((Below.refl _ W0).alloc (Nat.le_refl _) _).mono HB.out.size)⟩
theorem wr_jmpS (o d s z i : Int) (w : World) : Calls Tryz.prog 230 #[.agg #[.int .i64 o, .int .i64 d, .int .i64 s, .int .i64 z, .int .i64 i]] w fun e w' => ∃ v, e = .returned v ∧ RowI w' w.heap.size 5 .u8 v [235] ∧ Below w.heap.size w w' := by
  have HB := Lib.hid ((Below.refl w.heap.size w).alloc (Nat.le_refl _) (.cells #[.int .i64 o, .int .i64 d, .int .i64 s, .int .i64 z, .int .i64 i] 157))
  obtain ⟨W0, hW0⟩ : ∃ W, w.alloc (.cells #[.int .i64 o, .int .i64 d, .int .i64 s, .int .i64 z, .int .i64 i] 157) = W := ⟨_, rfl⟩
  have q2 : ∀ wk, Since W0 wk → wk.cell? ⟨w.heap.size, 2, none⟩ = some (.int .i64 s) := fun wk h => h.cell (by rw [← hW0]; simp [go_sem])
  have h00 := Since.refl W0
  rw [hW0] at HB
  go_enter Tryz.func230, Tryz.ntmps230
  go_wp2_with fail
  go_ret
  exact ⟨_, rfl, RowI.to (RowI.lit W0 #[_] [_] .u8 5 w.heap.size 1 HB.out.size rfl rfl (by unfold maxLen; simp)) (rfl), HB.out.trans (((Below.refl _ W0).alloc (Nat.le_refl _) _).mono HB.out.size)⟩
theorem wr_jmpL (o d s z i : Int) (w : World) : Calls Tryz.prog 231 #[.agg #[.int .i64 o, .int .i64 d, .int .i64 s, .int .i64 z, .int .i64 i]] w fun e w' => ∃ v, e = .returned v ∧ RowI w' w.heap.size 5 .u8 v [233] ∧ Below w.heap.size w w' := by
  have HB := Lib.hid ((Below.refl w.heap.size w).alloc (Nat.le_refl _) (.cells #[.int .i64 o, .int .i64 d, .int .i64 s, .int .i64 z, .int .i64 i] 157))
  obtain ⟨W0, hW0⟩ : ∃ W, w.alloc (.cells #[.int .i64 o, .int .i64 d, .int .i64 s, .int .i64 z, .int .i64 i] 157) = W := ⟨_, rfl⟩
  have q2 : ∀ wk, Since W0 wk → wk.cell? ⟨w.heap.size, 2, none⟩ = some (.int .i64 s) := fun wk h => h.cell (by rw [← hW0]; simp [go_sem])
  have h00 := Since.refl W0
  rw [hW0] at HB
  go_enter Tryz.func231, Tryz.ntmps231
  go_wp2_with fail
  go_ret
  exact ⟨_, rfl, RowI.to (RowI.lit W0 #[_] [_] .u8 5 w.heap.size 1 HB.out.size rfl rfl (by unfold maxLen; simp)) (rfl), HB.out.trans (((Below.refl _ W0).alloc (Nat.le_refl _) _).mono HB.out.size)⟩
theorem RowI.litd (w : World) (cs : Array Value) (xs : List Int) (k : IntKind) (e : TypeId) (base n : Nat) (hb : base ≤ w.heap.size) (hc : cs.toList = xs.map (Value.int k)) (hn : n = xs.length) (hm : xs.length ≤ maxLen) :
    RowI (w.alloc (.cells cs e)).drew base e k (.slice (some ⟨w.heap.size, 0, none⟩) n n) xs := RowI.lit w cs xs k e base n hb hc hn hm
theorem since_step {w0 w w' : World} (h : Since w0 w) (h' : Below w0.heap.size w w') : Since w0 w' := h.trans h'
theorem wr_load (o d s z i : Int) (vop : Value) (ops : List Int) (b : Nat) (w : World) (hc0 : w.cell? ⟨b, 0, none⟩ = some (vop)) (hv : Ints .u8 w vop ops) (ho : 0 < ops.length) (ho2 : ops.length ≤ 50000) (hi : I64 i) : Calls Tryz.prog 238 #[.agg #[.int .i64 o, .int .i64 d, .int .i64 s, .int .i64 z, .int .i64 i], .pointer (some ⟨b, 0, none⟩)] w fun e w' => ∃ v, e = .returned v ∧ RowI w' w.heap.size 5 .u8 v (ops ++ mmB d s i) ∧ Below w.heap.size w w' := by
  have HV := Lib.hid hv
  obtain ⟨va, vc, rfl, _⟩ := hv.shape
  have hl0 := cell_lt hc0
  have hn0 : ¬ b = w.heap.size := by omega
  have HB := Lib.hid ((Below.refl w.heap.size w).alloc (Nat.le_refl _) (.cells #[.int .i64 o, .int .i64 d, .int .i64 s, .int .i64 z, .int .i64 i] 157))
  obtain ⟨W0, hW0⟩ : ∃ W, w.alloc (.cells #[.int .i64 o, .int .i64 d, .int .i64 s, .int .i64 z, .int .i64 i] 157) = W := ⟨_, rfl⟩
  have p0 : ∀ wk, Since W0 wk → wk.cell? ⟨b, 0, none⟩ = some (.slice va ops.length vc) := fun wk h => h.cell (by rw [← hW0]; exact cell_alloc hc0)
  have q1 : ∀ wk, Since W0 wk → wk.cell? ⟨w.heap.size, 1, none⟩ = some (.int .i64 d) := fun wk h => h.cell (by rw [← hW0]; simp [go_sem])
  have q2 : ∀ wk, Since W0 wk → wk.cell? ⟨w.heap.size, 2, none⟩ = some (.int .i64 s) := fun wk h => h.cell (by rw [← hW0]; simp [go_sem])
  have q4 : ∀ wk, Since W0 wk → wk.cell? ⟨w.heap.size, 4, none⟩ = some (.int .i64 i) := fun wk h => h.cell (by rw [← hW0]; simp [go_sem])
  have h00 := Since.refl W0
  rw [hW0] at HB
  obtain ⟨i0, hi0, hz0, hz1, hz2⟩ := info_parts info_u8
  have C0 : Hid (∀ wk, Since W0 wk → Calls Tryz.prog 63 #[.slice va ops.length vc] wk fun e w' => ∃ v, e = .returned v ∧ RowI w' W0.heap.size 5 .u8 v (ops) ∧ Below wk.heap.size wk w' ∧ Since W0 w') := fun wk h => acc_r (clone_any ops _ wk ((HV.out.stays (by rw [← hW0]; exact (Below.refl _ _).alloc (Nat.le_refl _) _)).stays h) ho ho2) h
  have C1 : Hid (∀ wk, Since W0 wk → Calls Tryz.prog 239 #[.int .i64 d, .int .i64 s, .int .i64 i] wk fun e w' => ∃ v, e = .returned v ∧ RowI w' W0.heap.size 5 .u8 v (mmB d s i) ∧ Below wk.heap.size wk w' ∧ Since W0 w') := fun wk h => acc_r (mm_any d s i wk hi) h
  have hml : (mmB d s i).length = 5 := by simp [mmB, leB_length]
  generalize mmB d s i = ys at *
  have HLEN : Hid (ops.length + ys.length ≤ 100000) := by show _ ≤ _; omega
  have HPOS : Hid (0 < ys.length) := by show 0 < _; omega
  have HY5 : Hid (ys.length ≤ 140737488351232) := by show _ ≤ _; omega
  clear ho ho2 hi hml
  clear hc0 hl0 hn0
  go_enter Tryz.func238, Tryz.ntmps238
  go_wp2_with fail
  clear hW0
  go_region_held3 (fun wk => Since W0 wk) (first | assumption | exact Since.drew (by assumption) | exact Since.next (by assumption) ((Below.refl _ _).alloc (Nat.le_refl _) _)) (first | ((go_at_call 63; with_reducible refine (C0.out _ (by first | assumption | exact Since.drew (by assumption) | exact Since.next (by assumption) ((Below.refl _ _).alloc (Nat.le_refl _) _))).mono ?_); rintro e w1 ⟨v1, rfl, hr1, hb1, hs1⟩; have HR1 := Lib.hid hr1; clear hr1) | ((go_at_call 239; with_reducible refine (C1.out _ (by first | assumption | exact Since.drew (by assumption) | exact Since.next (by assumption) ((Below.refl _ _).alloc (Nat.le_refl _) _))).mono ?_); rintro e w2 ⟨v2, rfl, hr2, hb2, hs2⟩; have HR2 := Lib.hid hr2; clear hr2) | ((refine step_app_row (by rfl) _ _ _ (by rfl) W0.heap.size 5 i0 1 Tryz.underlying22 hi0 hz0 hz1 hz2 (by decide) _ ops (by rfl) (HR1.out.below hb2) _ ys (by rfl) (HR2.out.ints HY5.out) HPOS.out HLEN.out hs2.size ?_); intro v9 w9 hr9 hb9; have hs9 := since_step (by assumption) hb9; have HR9 := Lib.hid hr9; clear hr9))
  go_wp2_with fail
  go_ret
  exact ⟨_, rfl, RowI.to (RowI.mono HR9.out HB.out.size) (rfl), below_hop HB.out (by first | exact hs9 | exact below_drewN hs9 1)⟩
theorem wr_store (o d s z i c : Int) (b : Nat) (w : World) (hc0 : w.cell? ⟨b, 0, none⟩ = some (.int .u8 c)) (hi : I64 i) : Calls Tryz.prog 241 #[.agg #[.int .i64 o, .int .i64 d, .int .i64 s, .int .i64 z, .int .i64 i], .pointer (some ⟨b, 0, none⟩)] w fun e w' => ∃ v, e = .returned v ∧ RowI w' w.heap.size 5 .u8 v (c :: mmB s d i) ∧ Below w.heap.size w w' := by
  have hl0 := cell_lt hc0
  have hn0 : ¬ b = w.heap.size := by omega
  have HB := Lib.hid ((Below.refl w.heap.size w).alloc (Nat.le_refl _) (.cells #[.int .i64 o, .int .i64 d, .int .i64 s, .int .i64 z, .int .i64 i] 157))
  obtain ⟨W0, hW0⟩ : ∃ W, w.alloc (.cells #[.int .i64 o, .int .i64 d, .int .i64 s, .int .i64 z, .int .i64 i] 157) = W := ⟨_, rfl⟩
  have p0 : ∀ wk, Since W0 wk → wk.cell? ⟨b, 0, none⟩ = some (.int .u8 c) := fun wk h => h.cell (by rw [← hW0]; exact cell_alloc hc0)
  have q1 : ∀ wk, Since W0 wk → wk.cell? ⟨w.heap.size, 1, none⟩ = some (.int .i64 d) := fun wk h => h.cell (by rw [← hW0]; simp [go_sem])
  have q2 : ∀ wk, Since W0 wk → wk.cell? ⟨w.heap.size, 2, none⟩ = some (.int .i64 s) := fun wk h => h.cell (by rw [← hW0]; simp [go_sem])
  have q4 : ∀ wk, Since W0 wk → wk.cell? ⟨w.heap.size, 4, none⟩ = some (.int .i64 i) := fun wk h => h.cell (by rw [← hW0]; simp [go_sem])
  have h00 := Since.refl W0
  rw [hW0] at HB
  obtain ⟨i0, hi0, hz0, hz1, hz2⟩ := info_parts info_u8
  have C1 : Hid (∀ wk, Since W0 wk → Calls Tryz.prog 239 #[.int .i64 s, .int .i64 d, .int .i64 i] wk fun e w' => ∃ v, e = .returned v ∧ RowI w' W0.heap.size 5 .u8 v (mmB s d i) ∧ Below wk.heap.size wk w' ∧ Since W0 w') := fun wk h => acc_r (mm_any s d i wk hi) h
  have hml : (mmB s d i).length = 5 := by simp [mmB, leB_length]
  generalize mmB s d i = ys at *
  have HLEN : Hid (([c]).length + ys.length ≤ 100000) := by show _ ≤ _; simp; omega
  have HPOS : Hid (0 < ys.length) := by show 0 < _; omega
  have HY5 : Hid (ys.length ≤ 140737488351232) := by show _ ≤ _; omega
  clear hml
  clear hi
  clear hc0 hl0 hn0
  go_enter Tryz.func241, Tryz.ntmps241
  go_wp2_with fail
  clear hW0
  go_region_held3 (fun wk => Since W0 wk) (first | assumption | exact Since.drew (by assumption) | exact Since.next (by assumption) ((Below.refl _ _).alloc (Nat.le_refl _) _)) (first | ((go_at_call 239; with_reducible refine (C1.out _ (by first | assumption | exact Since.drew (by assumption) | exact Since.next (by assumption) ((Below.refl _ _).alloc (Nat.le_refl _) _))).mono ?_); rintro e w2 ⟨v2, rfl, hr2, hb2, hs2⟩; have HR2 := Lib.hid hr2; clear hr2) | ((refine step_app_row (by rfl) _ _ _ (by rfl) W0.heap.size 5 i0 1 Tryz.underlying22 hi0 hz0 hz1 hz2 (by decide) _ [c] (by rfl) (RowI.below (RowI.lit _ #[.int .u8 c] [c] .u8 5 W0.heap.size 1 (by first | exact Nat.le_refl _ | exact (show Since W0 _ by assumption).size) rfl rfl (by unfold maxLen; simp)) hb2) _ ys (by rfl) (HR2.out.ints HY5.out) HPOS.out HLEN.out hs2.size ?_); intro v9 w9 hr9 hb9; have hs9 := since_step (by assumption) hb9; have HR9 := Lib.hid hr9; clear hr9) | ((refine step_app_row (by rfl) _ _ _ (by rfl) W0.heap.size 5 i0 1 Tryz.underlying22 hi0 hz0 hz1 hz2 (by decide) _ [c] (by rfl) (RowI.below (RowI.litd _ #[.int .u8 c] [c] .u8 5 W0.heap.size 1 (by first | exact Nat.le_refl _ | exact (show Since W0 _ by assumption).size) rfl rfl (by unfold maxLen; simp)) hb2) _ ys (by rfl) (HR2.out.ints HY5.out) HPOS.out HLEN.out hs2.size ?_); intro v9 w9 hr9 hb9; have hs9 := since_step (by assumption) hb9; have HR9 := Lib.hid hr9; clear hr9) | ((refine step_app_row (by rfl) _ _ _ (by rfl) W0.heap.size 5 i0 1 Tryz.underlying22 hi0 hz0 hz1 hz2 (by decide) _ [c] (by rfl) (RowI.lit _ #[.int .u8 c] [c] .u8 5 W0.heap.size 1 (by first | exact Nat.le_refl _ | exact (show Since W0 _ by assumption).size) rfl rfl (by unfold maxLen; simp)) _ ys (by rfl) ((HR2.out.below ((Below.refl _ _).alloc (Nat.le_refl _) _)).ints HY5.out) HPOS.out HLEN.out (Nat.le_trans hs2.size (by simp)) ?_); intro v9 w9 hr9 hb9; have hs9 := since_step (by assumption) hb9; have HR9 := Lib.hid hr9; clear hr9) | ((refine step_app_row (by rfl) _ _ _ (by rfl) W0.heap.size 5 i0 1 Tryz.underlying22 hi0 hz0 hz1 hz2 (by decide) _ [c] (by rfl) (RowI.litd _ #[.int .u8 c] [c] .u8 5 W0.heap.size 1 (by first | exact Nat.le_refl _ | exact (show Since W0 _ by assumption).size) rfl rfl (by unfold maxLen; simp)) _ ys (by rfl) ((HR2.out.below (below_drewN ((Below.refl _ _).alloc (Nat.le_refl _) _) 1)).ints HY5.out) HPOS.out HLEN.out (Nat.le_trans hs2.size (by simp)) ?_); intro v9 w9 hr9 hb9; have hs9 := since_step (by assumption) hb9; have HR9 := Lib.hid hr9; clear hr9))
  all_goals go_wp2_with fail
  all_goals go_ret
  all_goals exact ⟨_, rfl, RowI.to (RowI.mono HR9.out HB.out.size) rfl, below_hop HB.out (by first | exact hs9 | exact below_drewN hs9 1)⟩
theorem wr_movi_32 (o d s i : Int) (w : World) (hi : I64 i) : Calls Tryz.prog 208 #[.agg #[.int .i64 o, .int .i64 d, .int .i64 s, .int .i64 32, .int .i64 i]] w fun e w' => ∃ v, e = .returned v ∧ RowI w' w.heap.size 5 .u8 v ((184 + d) % 256 :: leB i 4) ∧ Below w.heap.size w w' := by
  have HB := Lib.hid ((Below.refl w.heap.size w).alloc (Nat.le_refl _) (.cells #[.int .i64 o, .int .i64 d, .int .i64 s, .int .i64 32, .int .i64 i] 157))
  obtain ⟨W0, hW0⟩ : ∃ W, w.alloc (.cells #[.int .i64 o, .int .i64 d, .int .i64 s, .int .i64 32, .int .i64 i] 157) = W := ⟨_, rfl⟩
  have q1 : ∀ wk, Since W0 wk → wk.cell? ⟨w.heap.size, 1, none⟩ = some (.int .i64 d) := fun wk h => h.cell (by rw [← hW0]; simp [go_sem])
  have q4 : ∀ wk, Since W0 wk → wk.cell? ⟨w.heap.size, 4, none⟩ = some (.int .i64 i) := fun wk h => h.cell (by rw [← hW0]; simp [go_sem])
  have q3 : ∀ wk, Since W0 wk → wk.cell? ⟨w.heap.size, 3, none⟩ = some (.int .i64 32) := fun wk h => h.cell (by rw [← hW0]; simp [go_sem])
  have h00 := Since.refl W0
  rw [hW0] at HB
  obtain ⟨i0, hi0, hz0, hz1, hz2⟩ := info_parts info_u8
  have C1 : Hid (∀ wk, Since W0 wk → Calls Tryz.prog 148 #[.int .i64 i, .int .i64 (IntKind.i64.wrap 4)] wk fun e w' => ∃ v, e = .returned v ∧ RowI w' W0.heap.size 5 .u8 v (leB i 4) ∧ Below wk.heap.size wk w' ∧ Since W0 w') := fun wk h => acc_r (number_any i 4 wk hi (by decide)) h
  have eq0 : IntKind.u8.wrap (IntKind.i64.wrap (184 + d)) = (184 + d) % 256 := by rw [IntKind.wrap_u8, IntKind.wrap_i64]; omega
  have EQ0 := Lib.hid eq0
  clear eq0
  have hml : (leB i 4).length = 4 := by simp [mmB, leB_length]
  generalize leB i 4 = ys at *
  have HLEN : Hid (([(0 : Int)]).length + ys.length ≤ 100000) := by show _ ≤ _; simp; omega
  have HPOS : Hid (0 < ys.length) := by show 0 < _; omega
  have HY5 : Hid (ys.length ≤ 140737488351232) := by show _ ≤ _; omega
  clear hml
  clear hi
  go_enter Tryz.func208, Tryz.ntmps208
  go_wp2_with fail
  clear hW0
  go_region_held3 (fun wk => Since W0 wk) (first | assumption | exact Since.drew (by assumption) | exact Since.next (by assumption) ((Below.refl _ _).alloc (Nat.le_refl _) _)) (first | ((go_at_call 148; with_reducible refine (C1.out _ (by first | assumption | exact Since.drew (by assumption) | exact Since.next (by assumption) ((Below.refl _ _).alloc (Nat.le_refl _) _))).mono ?_); rintro e w2 ⟨v2, rfl, hr2, hb2, hs2⟩; have HR2 := Lib.hid hr2; clear hr2) | ((refine step_app_row (by rfl) _ _ _ (by rfl) W0.heap.size 5 i0 1 Tryz.underlying22 hi0 hz0 hz1 hz2 (by decide) _ [IntKind.u8.wrap (IntKind.i64.wrap (184 + d))] (by rfl) (RowI.below (RowI.lit _ #[.int .u8 (IntKind.u8.wrap (IntKind.i64.wrap (184 + d)))] [(IntKind.u8.wrap (IntKind.i64.wrap (184 + d)))] .u8 5 W0.heap.size 1 (by first | exact Nat.le_refl _ | exact (show Since W0 _ by assumption).size) rfl rfl (by unfold maxLen; simp)) hb2) _ ys (by rfl) (HR2.out.ints HY5.out) HPOS.out HLEN.out hs2.size ?_); intro v9 w9 hr9 hb9; have hs9 := since_step (by assumption) hb9; have HR9 := Lib.hid hr9; clear hr9) | ((refine step_app_row (by rfl) _ _ _ (by rfl) W0.heap.size 5 i0 1 Tryz.underlying22 hi0 hz0 hz1 hz2 (by decide) _ [IntKind.u8.wrap (IntKind.i64.wrap (184 + d))] (by rfl) (RowI.below (RowI.litd _ #[.int .u8 (IntKind.u8.wrap (IntKind.i64.wrap (184 + d)))] [(IntKind.u8.wrap (IntKind.i64.wrap (184 + d)))] .u8 5 W0.heap.size 1 (by first | exact Nat.le_refl _ | exact (show Since W0 _ by assumption).size) rfl rfl (by unfold maxLen; simp)) hb2) _ ys (by rfl) (HR2.out.ints HY5.out) HPOS.out HLEN.out hs2.size ?_); intro v9 w9 hr9 hb9; have hs9 := since_step (by assumption) hb9; have HR9 := Lib.hid hr9; clear hr9) | ((refine step_app_row (by rfl) _ _ _ (by rfl) W0.heap.size 5 i0 1 Tryz.underlying22 hi0 hz0 hz1 hz2 (by decide) _ [IntKind.u8.wrap (IntKind.i64.wrap (184 + d))] (by rfl) (RowI.lit _ #[.int .u8 (IntKind.u8.wrap (IntKind.i64.wrap (184 + d)))] [(IntKind.u8.wrap (IntKind.i64.wrap (184 + d)))] .u8 5 W0.heap.size 1 (by first | exact Nat.le_refl _ | exact (show Since W0 _ by assumption).size) rfl rfl (by unfold maxLen; simp)) _ ys (by rfl) ((HR2.out.below ((Below.refl _ _).alloc (Nat.le_refl _) _)).ints HY5.out) HPOS.out HLEN.out (Nat.le_trans hs2.size (by simp)) ?_); intro v9 w9 hr9 hb9; have hs9 := since_step (by assumption) hb9; have HR9 := Lib.hid hr9; clear hr9) | ((refine step_app_row (by rfl) _ _ _ (by rfl) W0.heap.size 5 i0 1 Tryz.underlying22 hi0 hz0 hz1 hz2 (by decide) _ [IntKind.u8.wrap (IntKind.i64.wrap (184 + d))] (by rfl) (RowI.litd _ #[.int .u8 (IntKind.u8.wrap (IntKind.i64.wrap (184 + d)))] [(IntKind.u8.wrap (IntKind.i64.wrap (184 + d)))] .u8 5 W0.heap.size 1 (by first | exact Nat.le_refl _ | exact (show Since W0 _ by assumption).size) rfl rfl (by unfold maxLen; simp)) _ ys (by rfl) ((HR2.out.below (below_drewN ((Below.refl _ _).alloc (Nat.le_refl _) _) 1)).ints HY5.out) HPOS.out HLEN.out (Nat.le_trans hs2.size (by simp)) ?_); intro v9 w9 hr9 hb9; have hs9 := since_step (by assumption) hb9; have HR9 := Lib.hid hr9; clear hr9))
  all_goals go_wp2_with fail
  all_goals go_ret
  all_goals exact ⟨_, rfl, RowI.to (RowI.mono HR9.out HB.out.size) (by rw [EQ0.out]; rfl), below_hop HB.out (by first | exact hs9 | exact below_drewN hs9 1)⟩
theorem wr_movi_16 (o d s i : Int) (w : World) (hi : I64 i) : Calls Tryz.prog 208 #[.agg #[.int .i64 o, .int .i64 d, .int .i64 s, .int .i64 16, .int .i64 i]] w fun e w' => ∃ v, e = .returned v ∧ RowI w' w.heap.size 5 .u8 v ((184 + d) % 256 :: leB i 2) ∧ Below w.heap.size w w' := by
  have HB := Lib.hid ((Below.refl w.heap.size w).alloc (Nat.le_refl _) (.cells #[.int .i64 o, .int .i64 d, .int .i64 s, .int .i64 16, .int .i64 i] 157))
  obtain ⟨W0, hW0⟩ : ∃ W, w.alloc (.cells #[.int .i64 o, .int .i64 d, .int .i64 s, .int .i64 16, .int .i64 i] 157) = W := ⟨_, rfl⟩
  have q1 : ∀ wk, Since W0 wk → wk.cell? ⟨w.heap.size, 1, none⟩ = some (.int .i64 d) := fun wk h => h.cell (by rw [← hW0]; simp [go_sem])
  have q4 : ∀ wk, Since W0 wk → wk.cell? ⟨w.heap.size, 4, none⟩ = some (.int .i64 i) := fun wk h => h.cell (by rw [← hW0]; simp [go_sem])
  have q3 : ∀ wk, Since W0 wk → wk.cell? ⟨w.heap.size, 3, none⟩ = some (.int .i64 16) := fun wk h => h.cell (by rw [← hW0]; simp [go_sem])
  have h00 := Since.refl W0
  rw [hW0] at HB
  obtain ⟨i0, hi0, hz0, hz1, hz2⟩ := info_parts info_u8
  have C1 : Hid (∀ wk, Since W0 wk → Calls Tryz.prog 148 #[.int .i64 i, .int .i64 (IntKind.i64.wrap 2)] wk fun e w' => ∃ v, e = .returned v ∧ RowI w' W0.heap.size 5 .u8 v (leB i 2) ∧ Below wk.heap.size wk w' ∧ Since W0 w') := fun wk h => acc_r (number_any i 2 wk hi (by decide)) h
  have eq0 : IntKind.u8.wrap (IntKind.i64.wrap (184 + d)) = (184 + d) % 256 := by rw [IntKind.wrap_u8, IntKind.wrap_i64]; omega
  have EQ0 := Lib.hid eq0
  clear eq0
  have hml : (leB i 2).length = 2 := by simp [mmB, leB_length]
  generalize leB i 2 = ys at *
  have HLEN : Hid (([(0 : Int)]).length + ys.length ≤ 100000) := by show _ ≤ _; simp; omega
  have HPOS : Hid (0 < ys.length) := by show 0 < _; omega
  have HY5 : Hid (ys.length ≤ 140737488351232) := by show _ ≤ _; omega
  clear hml
  clear hi
  go_enter Tryz.func208, Tryz.ntmps208
  go_wp2_with fail
  clear hW0
  go_region_held3 (fun wk => Since W0 wk) (first | assumption | exact Since.drew (by assumption) | exact Since.next (by assumption) ((Below.refl _ _).alloc (Nat.le_refl _) _)) (first | ((go_at_call 148; with_reducible refine (C1.out _ (by first | assumption | exact Since.drew (by assumption) | exact Since.next (by assumption) ((Below.refl _ _).alloc (Nat.le_refl _) _))).mono ?_); rintro e w2 ⟨v2, rfl, hr2, hb2, hs2⟩; have HR2 := Lib.hid hr2; clear hr2) | ((refine step_app_row (by rfl) _ _ _ (by rfl) W0.heap.size 5 i0 1 Tryz.underlying22 hi0 hz0 hz1 hz2 (by decide) _ [IntKind.u8.wrap (IntKind.i64.wrap (184 + d))] (by rfl) (RowI.below (RowI.lit _ #[.int .u8 (IntKind.u8.wrap (IntKind.i64.wrap (184 + d)))] [(IntKind.u8.wrap (IntKind.i64.wrap (184 + d)))] .u8 5 W0.heap.size 1 (by first | exact Nat.le_refl _ | exact (show Since W0 _ by assumption).size) rfl rfl (by unfold maxLen; simp)) hb2) _ ys (by rfl) (HR2.out.ints HY5.out) HPOS.out HLEN.out hs2.size ?_); intro v9 w9 hr9 hb9; have hs9 := since_step (by assumption) hb9; have HR9 := Lib.hid hr9; clear hr9) | ((refine step_app_row (by rfl) _ _ _ (by rfl) W0.heap.size 5 i0 1 Tryz.underlying22 hi0 hz0 hz1 hz2 (by decide) _ [IntKind.u8.wrap (IntKind.i64.wrap (184 + d))] (by rfl) (RowI.below (RowI.litd _ #[.int .u8 (IntKind.u8.wrap (IntKind.i64.wrap (184 + d)))] [(IntKind.u8.wrap (IntKind.i64.wrap (184 + d)))] .u8 5 W0.heap.size 1 (by first | exact Nat.le_refl _ | exact (show Since W0 _ by assumption).size) rfl rfl (by unfold maxLen; simp)) hb2) _ ys (by rfl) (HR2.out.ints HY5.out) HPOS.out HLEN.out hs2.size ?_); intro v9 w9 hr9 hb9; have hs9 := since_step (by assumption) hb9; have HR9 := Lib.hid hr9; clear hr9) | ((refine step_app_row (by rfl) _ _ _ (by rfl) W0.heap.size 5 i0 1 Tryz.underlying22 hi0 hz0 hz1 hz2 (by decide) _ [IntKind.u8.wrap (IntKind.i64.wrap (184 + d))] (by rfl) (RowI.lit _ #[.int .u8 (IntKind.u8.wrap (IntKind.i64.wrap (184 + d)))] [(IntKind.u8.wrap (IntKind.i64.wrap (184 + d)))] .u8 5 W0.heap.size 1 (by first | exact Nat.le_refl _ | exact (show Since W0 _ by assumption).size) rfl rfl (by unfold maxLen; simp)) _ ys (by rfl) ((HR2.out.below ((Below.refl _ _).alloc (Nat.le_refl _) _)).ints HY5.out) HPOS.out HLEN.out (Nat.le_trans hs2.size (by simp)) ?_); intro v9 w9 hr9 hb9; have hs9 := since_step (by assumption) hb9; have HR9 := Lib.hid hr9; clear hr9) | ((refine step_app_row (by rfl) _ _ _ (by rfl) W0.heap.size 5 i0 1 Tryz.underlying22 hi0 hz0 hz1 hz2 (by decide) _ [IntKind.u8.wrap (IntKind.i64.wrap (184 + d))] (by rfl) (RowI.litd _ #[.int .u8 (IntKind.u8.wrap (IntKind.i64.wrap (184 + d)))] [(IntKind.u8.wrap (IntKind.i64.wrap (184 + d)))] .u8 5 W0.heap.size 1 (by first | exact Nat.le_refl _ | exact (show Since W0 _ by assumption).size) rfl rfl (by unfold maxLen; simp)) _ ys (by rfl) ((HR2.out.below (below_drewN ((Below.refl _ _).alloc (Nat.le_refl _) _) 1)).ints HY5.out) HPOS.out HLEN.out (Nat.le_trans hs2.size (by simp)) ?_); intro v9 w9 hr9 hb9; have hs9 := since_step (by assumption) hb9; have HR9 := Lib.hid hr9; clear hr9))
  all_goals go_wp2_with fail
  all_goals go_ret
  all_goals exact ⟨_, rfl, RowI.to (RowI.mono HR9.out HB.out.size) (by rw [EQ0.out]; rfl), below_hop HB.out (by first | exact hs9 | exact below_drewN hs9 1)⟩
theorem wr_bare (o d s z i : Int) (vop : Value) (ops : List Int) (b : Nat) (w : World) (hc0 : w.cell? ⟨b, 0, none⟩ = some (vop)) (hv : Ints .u8 w vop ops) (ho : 0 < ops.length) (ho2 : ops.length ≤ 50000) : Calls Tryz.prog 248 #[.agg #[.int .i64 o, .int .i64 d, .int .i64 s, .int .i64 z, .int .i64 i], .pointer (some ⟨b, 0, none⟩)] w fun e w' => ∃ v, e = .returned v ∧ RowI w' w.heap.size 5 .u8 v ops ∧ Below w.heap.size w w' := by
  have hl0 := cell_lt hc0
  have hn0 : ¬ b = w.heap.size := by omega
  have HB := Lib.hid ((Below.refl w.heap.size w).alloc (Nat.le_refl _) (.cells #[.int .i64 o, .int .i64 d, .int .i64 s, .int .i64 z, .int .i64 i] 157))
  obtain ⟨W0, hW0⟩ : ∃ W, w.alloc (.cells #[.int .i64 o, .int .i64 d, .int .i64 s, .int .i64 z, .int .i64 i] 157) = W := ⟨_, rfl⟩
  have p0 : ∀ wk, Since W0 wk → wk.cell? ⟨b, 0, none⟩ = some (vop) := fun wk h => h.cell (by rw [← hW0]; exact cell_alloc hc0)
  have h00 := Since.refl W0
  rw [hW0] at HB
  have C0 : Hid (∀ wk, Since W0 wk → Calls Tryz.prog 63 #[vop] wk fun e w' => ∃ v, e = .returned v ∧ RowI w' W0.heap.size 5 .u8 v (ops) ∧ Below wk.heap.size wk w' ∧ Since W0 w') := fun wk h => acc_r (clone_any ops vop wk ((hv.stays (by rw [← hW0]; exact (Below.refl _ _).alloc (Nat.le_refl _) _)).stays h) ho ho2) h
  have c0 := p0 _ h00
  clear hv ho ho2
  clear hc0 hl0 hn0
  go_enter Tryz.func248, Tryz.ntmps248
  go_wp2_with ((go_at_call 63; with_reducible refine (C0.out _ (by first | assumption)).mono ?_); rintro e w1 ⟨v1, rfl, hr1, hb1, hs1⟩; have HR1 := Lib.hid hr1; clear hr1)
  go_ret
  exact ⟨_, rfl, HR1.out.mono HB.out.size, below_hop HB.out hs1⟩
end Go.Proofs.YtaegpeofecdhfaaGreat
