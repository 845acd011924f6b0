/- guess of the program answers as the plain law says. -/
import Derived.Deep.CutRange
import Derived.Laws.BytesArg
import Derived.Laws.StructEq
import Derived.Test.YtdojafpjipcbjaaF9
import Derived.Test.YtdojafpjipcbjaaF12
namespace Go.Proofs.Ytdojafpjipcbjaa
open Go.RowKit
set_option linter.unusedVariables false
set_option linter.unusedSimpArgs false
theorem grp_any (c : Int) (hc : c = 129 ∨ c = 131 ∨ c = 211 ∨ c = 247) (v : Value) (B n : Nat) (l : List Int) (z : Int) (w : World) (h : RdL w B v l n) (hby : Byt l) (hz : z = 16 ∨ z = 32) (e : l.getD n 0 = c) : Calls Try.prog 25 #[.pointer (some ⟨B, 0, none⟩), .int .i64 z] w fun e w' => e = .returned (InsV (grpP (l.drop n) z).1) ∧ RdL w' B v l (n + (grpP (l.drop n) z).2) ∧ But B w w' := by
  unfold grpP
  simp only [getD_dr, drop_dr, Nat.add_zero, e]
  rcases hc with rfl | rfl | rfl | rfl
  · rw [if_pos rfl]
    by_cases hg : 0 ≤ grpI 129 (rF (l.getD (n + 1) 0))
    · rw [if_pos hg]
      rcases hz with rfl | rfl
      · exact gue_129_y_16 v B n l w h hby e (decide_eq_true hg)
      · exact gue_129_y_32 v B n l w h hby e (decide_eq_true hg)
    · rw [if_neg hg, grpI_neg (decide_eq_false hg)]
      rcases hz with rfl | rfl
      · exact gue_129_n_16 v B n l w h hby e (decide_eq_false hg)
      · exact gue_129_n_32 v B n l w h hby e (decide_eq_false hg)
  · rw [if_neg (by decide), if_pos rfl]
    by_cases hg : 0 ≤ grpI 131 (rF (l.getD (n + 1) 0))
    · rw [if_pos hg]
      rcases hz with rfl | rfl
      · exact gue_131_y_16 v B n l w h hby e (decide_eq_true hg)
      · exact gue_131_y_32 v B n l w h hby e (decide_eq_true hg)
    · rw [if_neg hg, grpI_neg (decide_eq_false hg)]
      rcases hz with rfl | rfl
      · exact gue_131_n_16 v B n l w h hby e (decide_eq_false hg)
      · exact gue_131_n_32 v B n l w h hby e (decide_eq_false hg)
  · rw [if_neg (by decide), if_neg (by decide)]
    by_cases hg : 0 ≤ grpI 211 (rF (l.getD (n + 1) 0))
    · rw [if_pos hg]; exact gue_211_y v B n l z w h hby e (decide_eq_true hg)
    · rw [if_neg hg, grpI_neg (decide_eq_false hg)]; exact gue_211_n v B n l z w h hby e (decide_eq_false hg)
  · rw [if_neg (by decide), if_neg (by decide)]
    by_cases hg : 0 ≤ grpI 247 (rF (l.getD (n + 1) 0))
    · rw [if_pos hg]; exact gue_247_y v B n l z w h hby e (decide_eq_true hg)
    · rw [if_neg hg, grpI_neg (decide_eq_false hg)]; exact gue_247_n v B n l z w h hby e (decide_eq_false hg)
theorem guess_any (v : Value) (B n : Nat) (l : List Int) (z : Int) (w : World) (h : RdL w B v l n) (hby : Byt l) (hz : z = 16 ∨ z = 32) : Calls Try.prog 25 #[.pointer (some ⟨B, 0, none⟩), .int .i64 z] w fun e w' => e = .returned (InsV (gsP (l.drop n) z).1) ∧ RdL w' B v l (n + (gsP (l.drop n) z).2) ∧ But B w w' := by
  have hc0 := (hby n).1
  have hc1 := (hby n).2
  unfold gsP
  simp only [getD_dr, drop_dr, Nat.add_zero]
  by_cases ho : 0 ≤ oneI (l.getD n 0)
  · rw [if_pos ho]
    by_cases hl : l.getD n 0 < 144
    · rw [if_pos hl]; exact gue_one_lo v B n l z w h hby ho (decide_eq_true hl)
    · rw [if_neg hl]; exact gue_one_hi v B n l z w h hby ho (decide_eq_false hl)
  rw [if_neg ho]
  by_cases c1 : l.getD n 0 = 137 ∨ l.getD n 0 = 136 ∨ l.getD n 0 = 139
  · rw [if_pos c1]
    rcases c1 with c | c | c
    · exact gue_137 v B n l z w h hby c
    · exact gue_136 v B n l z w h hby c
    · exact gue_139 v B n l z w h hby c
  rw [if_neg c1]
  by_cases c2 : 184 ≤ l.getD n 0 ∧ l.getD n 0 ≤ 191
  · rw [if_pos c2]
    rcases hz with rfl | rfl
    · exact gue_movi_16 v B n l w h hby ho c2.1 c2.2
    · exact gue_movi_32 v B n l w h hby ho c2.1 c2.2
  rw [if_neg c2]
  by_cases c3 : l.getD n 0 = 129 ∨ l.getD n 0 = 131 ∨ l.getD n 0 = 211 ∨ l.getD n 0 = 247
  · rw [if_pos c3]; exact grp_any _ c3 v B n l z w h hby hz rfl
  rw [if_neg c3]
  by_cases c4 : 112 ≤ l.getD n 0 ∧ l.getD n 0 ≤ 127
  · rw [if_pos c4]; exact gue_jcc8 v B n l z w h hby ho c4.1 c4.2
  rw [if_neg c4]
  by_cases c5 : l.getD n 0 = 235
  · rw [if_pos c5]; exact gue_235 v B n l z w h hby c5
  rw [if_neg c5]
  by_cases c6 : l.getD n 0 = 233
  · rw [if_pos c6]; exact gue_233 v B n l z w h hby c6
  rw [if_neg c6]
  by_cases c7 : l.getD n 0 = 15
  · rw [if_pos c7]; exact gue_15 v B n l z w h hby c7
  rw [if_neg c7]
  have N : ∀ k : Int, l.getD n 0 ≠ k → (l.getD n 0 == k) = false := fun k hk => beqF hk
  by_cases d1 : l.getD n 0 ≤ 111
  · exact gue_no_a v B n l z w h hby ho hc0 d1 (N _ (by omega)) (N _ (by omega)) (N _ (by omega)) (N _ (by omega)) (N _ (by omega)) (N _ (by omega)) (N _ (by omega)) (N _ (by omega)) (N _ (by omega)) (N _ (by omega))
  by_cases d2 : l.getD n 0 ≤ 183
  · exact gue_no_b v B n l z w h hby ho (by omega) d2 (N _ (by omega)) (N _ (by omega)) (N _ (by omega)) (N _ (by omega)) (N _ (by omega)) (N _ (by omega)) (N _ (by omega)) (N _ (by omega)) (N _ (by omega)) (N _ (by omega))
  · exact gue_no_c v B n l z w h hby ho (by omega) (by omega) (N _ (by omega)) (N _ (by omega)) (N _ (by omega)) (N _ (by omega)) (N _ (by omega)) (N _ (by omega)) (N _ (by omega)) (N _ (by omega)) (N _ (by omega)) (N _ (by omega))
end Go.Proofs.Ytdojafpjipcbjaa
namespace Go.Proofs.Ytdojafpjipcbjaa
open Go.RowKit
set_option linter.unusedVariables false
set_option linter.unusedSimpArgs false
theorem ext_getD {xs ys : List Int} (hl : xs.length = ys.length) (h : ∀ i, i < xs.length → xs.getD i 0 = ys.getD i 0) : xs = ys := by
  apply List.ext_getElem hl
  intro i h1 h2
  have := h i h1
  rw [List.getD_eq_getElem?_getD, List.getD_eq_getElem?_getD, List.getElem?_eq_getElem h1, List.getElem?_eq_getElem h2] at this
  exact this
set_option maxRecDepth 100000 in
set_option maxHeartbeats 4000000 in
theorem equal_any (xs ys : List Int) (v u : Value) (w : World) (hv : Ints .u8 w v xs) (hu : Ints .u8 w u ys) : Calls Try.prog 26 #[v, u] w fun e w' => e = .returned (.bool (decide (xs = ys))) ∧ Dr w w' := by
  have HX := Lib.hid hv
  have HY := Lib.hid hu
  obtain ⟨a, c, rfl, h1, h2⟩ := hv.shape
  obtain ⟨a2, c2, rfl, k1, k2⟩ := hu.shape
  clear hv hu
  cases hne : ((xs.length : Int) != ys.length)
  · have hl : xs.length = ys.length := by
      have h : (xs.length : Int) = ys.length := by simpa using hne
      omega
    have HL := Lib.hid hl
    clear hl
    go_enter Try.func26, Try.ntmps26
    go_wp2_with fail
    go_loopw [13] (fun i wr => ∃ j : Nat, j ≤ xs.length ∧ i = .int .i64 j ∧ Hid (∀ i, i < j → xs.getD i 0 = ys.getD i 0) ∧ Dr w wr) (fun i _ => xs.length - (intOf i).toNat)
    case atStart => exact ⟨0, Nat.zero_le _, rfl, (fun i hi => absurd hi (by omega)), Dr.refl _⟩
    case round =>
      obtain ⟨j, hj, rfl, hno, n, rfl⟩ := hrel
      by_cases hlt : j < xs.length
      · have hlt2 : j < ys.length := by have := HL.out; omega
        obtain ⟨b, q, c', e', _, _, d0⟩ := HX.out.at hlt
        cases e'
        obtain ⟨b2, q2, c2', e', _, _, d1⟩ := HY.out.at hlt2
        cases e'
        generalize hx : xs.getD j 0 = x at *
        generalize hy : ys.getD j 0 = y at *
        have HXJ := Lib.hid hx
        have HYJ := Lib.hid hy
        clear hx hy
        cases hc : (x != y)
        · have HC : Hid (x = y) := by have : x = y := by simpa using hc
                                      exact this
          go_wp2_with fail
          go_quiet (fail)
          go_wp2_with fail
          go_roundw
          case rel => exact ⟨j + 1, by omega, by go_num, (fun i hi => by
            by_cases e : i = j
            · rw [e, HXJ.out, HYJ.out]; exact HC.out
            · exact hno.out i (by omega)), _, rfl⟩
          case measure => simp [intOf]; omega
        · have HV : Hid (decide (xs = ys) = false) := by
            have hc' : x ≠ y := by simpa using hc
            show _ = _
            rw [decide_eq_false_iff_not]
            intro e
            exact hc' (by rw [← HXJ.out, ← HYJ.out, e])
          go_wp2_with fail
          go_quiet (fail)
          go_wp2_with fail
          go_ret
          exact ⟨ret_b HV.out.symm, _, by first | rfl | exact World.drewN_drewN _ _ _⟩
      · have HV : Hid (decide (xs = ys) = true) := by
          show _ = _
          rw [decide_eq_true_iff]
          exact ext_getD HL.out (fun i hi => hno.out i (by omega))
        go_wp2_with fail
        go_ret
        exact ⟨ret_b HV.out.symm, _, rfl⟩
  · have HV : Hid (decide (xs = ys) = false) := by
      have hl : xs.length ≠ ys.length := by intro e; rw [e] at hne; simp at hne
      show _ = _
      rw [decide_eq_false_iff_not]
      intro e
      exact hl (by rw [e])
    go_enter Try.func26, Try.ntmps26
    go_wp2_with fail
    go_ret
    exact ⟨ret_b HV.out.symm, 0, rfl⟩
end Go.Proofs.Ytdojafpjipcbjaa
namespace Go.Proofs.Ytdojafpjipcbjaa
open Go.RowKit
set_option linter.unusedVariables false
set_option linter.unusedSimpArgs false
section
variable {P : Program} {l : List Oper} {Q : Exit → Act → World → Prop} {md : Region.Mode} {S : World → Prop}
/-- The i-th operation is taken first; it is wanted. -/
theorem tk (i : Nat) {oi : Oper} {v : Value} {fuel : Nat} {listed : Array Bool} {a a' : Act} {w : World}
    (h : wpAnyH P md l.toArray Q S fuel (listed.setIfInBounds i true) a' w)
    (hi : (l.drop i).head? = some oi := by rfl)
    (hs : Region.noSelect l.toArray = true := by kernel_rfl) (hf : Region.free md l.toArray listed i = true := by kernel_rfl) (hr : (Region.ready md l.toArray listed).contains i = true := by kernel_rfl)
    (hw : Region.wanted oi (yielded l.toArray a.tmps) = true := by rfl)
    (hv : ∀ w, S w → (execOp a.eval oi).run P w = .ok (.value v) w := by (intro w hSw; (try dsimp only at hSw); go_simp; (try with_reducible rfl)))
    (hQ : ∀ c a w, Q (.panic c) (a.put oi.dst v) w → Q (.panic c) a w := by exact fun _ _ _ h => h)
    (hS : S w := by assumption)
    (ha : a.put oi.dst v = a' := by first | (go_frame; done) | (go_frame; rfl) | rfl) : wpAnyH P md l.toArray Q S (fuel + 1) listed a w := by
  subst ha
  exact wpAnyH_takeL i hi hs hf hr hQ (Or.inl ⟨hw, hv⟩) hS h
/-- The i-th operation is passed by: its guard is false. -/
theorem sk (i : Nat) {oi : Oper} {fuel : Nat} {listed : Array Bool} {a a' : Act} {w : World}
    (h : wpAnyH P md l.toArray Q S fuel (listed.setIfInBounds i true) a' w)
    (hi : (l.drop i).head? = some oi := by rfl)
    (hs : Region.noSelect l.toArray = true := by kernel_rfl) (hf : Region.free md l.toArray listed i = true := by kernel_rfl) (hr : (Region.ready md l.toArray listed).contains i = true := by kernel_rfl)
    (hw : Region.wanted oi (yielded l.toArray a.tmps) = false := by rfl)
    (hQ : ∀ c a w, Q (.panic c) (a.put oi.dst undef) w → Q (.panic c) a w := by exact fun _ _ _ h => h)
    (hS : S w := by assumption)
    (ha : a.put oi.dst undef = a' := by first | (go_frame; done) | (go_frame; rfl) | rfl) : wpAnyH P md l.toArray Q S (fuel + 1) listed a w := by
  subst ha
  exact wpAnyH_takeL i hi hs hf hr hQ (Or.inr ⟨hw, rfl⟩) hS h
/-- Only the i-th operation may come next. -/
theorem rd1 (i : Nat) {oi : Oper} {fuel : Nat} {listed : Array Bool} {a : Act} {w : World}
    (h : ∀ K' : Act → World → Prop, Shut (∀ a w, S w → (S w → wpAnyH P md l.toArray Q S fuel (listed.setIfInBounds i true) a w) → K' a w) → if Region.wanted oi (yielded l.toArray a.tmps) = true then Oper.wp P oi a w K' Q else K' (a.put oi.dst undef) w)
    (hi : (l.drop i).head? = some oi := by rfl) (hr : Region.ready md l.toArray listed = [i] := by kernel_rfl) : wpAnyH P md l.toArray Q S (fuel + 1) listed a w :=
  wpAnyH_ready hr (by simp) (AllReadyH_consL i hi h AllReadyH.nil)
end
section
variable {W0 w : World}
theorem kp (h : Since W0 w := by first | assumption | exact Since.drew (by assumption) | exact Since.next (by assumption) ((Below.refl _ _).alloc (Nat.le_refl _) _)) : Since W0 w := h
end
end Go.Proofs.Ytdojafpjipcbjaa
namespace Go.Proofs.Ytdojafpjipcbjaa
open Go.RowKit
set_option linter.unusedVariables false
set_option linter.unusedSimpArgs false
theorem But.out {B : Nat} {w W W' : World} (h : But B W W') (hw : Below w.heap.size w W) (hB : w.heap.size ≤ B) : Below w.heap.size w W' :=
  ⟨h.os.trans hw.os, h.tape.trans hw.tape, h.output.trans hw.output, Nat.le_trans hw.size h.size, fun k hk => (h.block k (Nat.lt_of_lt_of_le hk hw.size) (by omega)).trans (hw.block k hk)⟩
/-- The walk of Decode: the answer in the first new block, the reader in the second. -/
structure DSt (w : World) (v : Value) (l : List Int) (n : Nat) (W : World) : Prop where
  r : RdL W (w.heap.size + 1) v l n
  x : Box5 W w.heap.size 0 0 0 0 0
  b : Below w.heap.size w W
theorem DSt.call {w W W' : World} {v : Value} {l : List Int} {n n' : Nat} (h : DSt w v l n W) (hr : RdL W' (w.heap.size + 1) v l n') (hb : But (w.heap.size + 1) W W') : DSt w v l n' W' :=
  ⟨hr, h.x.but hb (by omega), hb.out h.b (by omega)⟩
theorem DSt.below {w W W' : World} {v : Value} {l : List Int} {n : Nat} (h : DSt w v l n W) (hb : Below W.heap.size W W') : DSt w v l n W' :=
  ⟨h.r.stays hb, (hb.block _ h.x.lt).trans h.x, below_hop h.b hb⟩
theorem DSt.drew {w W : World} {v : Value} {l : List Int} {n : Nat} (h : DSt w v l n W) : DSt w v l n W.drew := h.below (below_drewN (Below.refl _ _) 1)
theorem DSt.start {w : World} {v : Value} {l : List Int} (hv : Ints .u8 w v l) : DSt w v l 0 ((w.alloc (.cells #[.int .i64 0, .int .i64 0, .int .i64 0, .int .i64 0, .int .i64 0] 25)).alloc (.cells #[v, .int .i64 0, .bool false] 55)) := by
  have hb := ((Below.refl w.heap.size w).alloc (Nat.le_refl _) (.cells #[.int .i64 0, .int .i64 0, .int .i64 0, .int .i64 0, .int .i64 0] 25)).alloc (by simp) (.cells #[v, .int .i64 0, .bool false] 55)
  refine ⟨⟨?_, hv.stays hb, fun b q n c e hn => ?_⟩, ?_, hb⟩
  · unfold Rdr
    rw [show ((w.alloc (.cells #[.int .i64 0, .int .i64 0, .int .i64 0, .int .i64 0, .int .i64 0] 25)).alloc (.cells #[v, .int .i64 0, .bool false] 55)).heap = (w.heap.push (.cells #[.int .i64 0, .int .i64 0, .int .i64 0, .int .i64 0, .int .i64 0] 25)).push (.cells #[v, .int .i64 0, .bool false] 55) from rfl]
    rw [Array.getElem?_push]
    simp
  · obtain ⟨a, c', e', _⟩ := hv.shape
    have hl : 0 < l.length := by rw [e'] at e; injection e; omega
    obtain ⟨b', q', c2, e2, _, hlt, _⟩ := hv.at hl
    rw [e2] at e
    injection e with e3
    injection e3 with e4
    injection e4 with e5
    omega
  · exact (Box5.new w 0 0 0 0 0).but ((But.refl (w.heap.size + 1) _).alloc _) (by omega)
theorem DSt.one {w W : World} {v : Value} {l : List Int} (h : DSt w v l 0 W) (hl : 0 < l.length) : DSt w v l 1 (W.setCell ⟨w.heap.size + 1, 1, none⟩ (.int .i64 1)) := by
  have hb : But (w.heap.size + 1) W (W.setCell ⟨w.heap.size + 1, 1, none⟩ (.int .i64 1)) := (But.refl _ _).setCell 1 _
  exact h.call ⟨h.r.r.more hl, h.r.l.but hb h.r.off, h.r.off⟩ hb
/-- What Decode of the program answers. -/
def decX (l : List Int) : Ins := match decI l with | some (x, _) => x | none => ⟨0, 0, 0, 0, 0⟩
def decN (l : List Int) : Nat := match decI l with | some (_, n) => n | none => 0
def decB (l : List Int) : Bool := (decI l).isSome
theorem dec_none {l : List Int} (h : decI l = none) : decX l = ⟨0, 0, 0, 0, 0⟩ ∧ decN l = 0 ∧ decB l = false := by simp [decX, decN, decB, h]
theorem dec_some {l : List Int} {x : Ins} {n : Nat} (h : decI l = some (x, n)) : decX l = x ∧ decN l = n ∧ decB l = true := by simp [decX, decN, decB, h]
theorem Ints.take {k : IntKind} {w : World} {a : Option Addr} {c m : Nat} {xs : List Int} (h : Ints k w (.slice a xs.length c) xs) (hm : m ≤ xs.length) : Ints k w (.slice a m c) (xs.take m) := by
  obtain ⟨a', c', e, h1, h2, h3, h4⟩ := h
  cases e
  have hl : (xs.take m).length = m := by rw [List.length_take]; omega
  refine ⟨a, c, by rw [hl], by omega, by omega, h3, fun i hi => ?_⟩
  rw [hl] at hi
  obtain ⟨b, o, e', h5, h6⟩ := h4 i (by omega)
  refine ⟨b, o, e', h5, ?_⟩
  show w.cell? _ = _
  rw [h6]
  simp [List.getD_eq_getElem?_getD, List.getElem?_take, hi]
theorem below_set5 {w W : World} {b : Nat} (h : Below w.heap.size w W) (hb : w.heap.size ≤ b) (u0 u1 u2 u3 u4 : Value) : Below w.heap.size w (((((W.setCell ⟨b, 0, none⟩ u0).setCell ⟨b, 1, none⟩ u1).setCell ⟨b, 2, none⟩ u2).setCell ⟨b, 3, none⟩ u3).setCell ⟨b, 4, none⟩ u4) :=
  ((((h.setCell (p := ⟨b, 0, none⟩) hb u0).setCell (p := ⟨b, 1, none⟩) hb u1).setCell (p := ⟨b, 2, none⟩) hb u2).setCell (p := ⟨b, 3, none⟩) hb u3).setCell (p := ⟨b, 4, none⟩) hb u4
theorem sizI_two (l : List Int) : sizI l = 16 ∨ sizI l = 32 := by unfold sizI; split <;> simp
set_option maxRecDepth 100000 in
set_option maxHeartbeats 1000000 in
theorem decode_any (l : List Int) (v : Value) (w : World) (hv : Ints .u8 w v l) (hby : Byt l) : Calls Try.prog 9 #[v] w fun e w' => e = .returned (.tuple #[InsV (decX l), .int .i64 (decN l), .bool (decB l)]) ∧ Below w.heap.size w w' := by
  have HV := Lib.hid hv
  have HS := Lib.hid (DSt.start hv)
  have HBY := Lib.hid hby
  obtain ⟨va, vc, rfl, hl1, hl2⟩ := hv.shape
  obtain ⟨p, hp⟩ : ∃ p, (l.getD 0 0 == 102) = p := ⟨_, rfl⟩
  have hpre : preI l = (if p then 1 else 0) := by rw [← hp]; unfold preI; by_cases h : l.getD 0 0 = 102 <;> simp [h]
  have hsiz : sizI l = (if p then 16 else 32) := by rw [← hp]; unfold sizI; by_cases h : l.getD 0 0 = 102 <;> simp [h]
  have hp0 : p = true → 0 < l.length := fun h => by
    rcases l with _ | ⟨a, r⟩
    · rw [h] at hp; simp at hp
    · simp
  have HP0 := Lib.hid hp0
  have HPRE := Lib.hid hpre
  have HSIZ := Lib.hid hsiz
  have HZ := Lib.hid (sizI_two l)
  obtain ⟨x, hx⟩ : ∃ x, (gsP (l.drop (preI l)) (sizI l)).1 = x := ⟨_, rfl⟩
  obtain ⟨k, hk⟩ : ∃ k, (gsP (l.drop (preI l)) (sizI l)).2 = k := ⟨_, rfl⟩
  have HX := Lib.hid hx
  have HK := Lib.hid hk
  obtain ⟨z, hz⟩ : ∃ z, sizI l = z := ⟨_, rfl⟩
  obtain ⟨n, hn⟩ : ∃ n, preI l = n := ⟨_, rfl⟩
  have HG : Hid (∀ W, DSt w (.slice va l.length vc) l n W → Calls Try.prog 25 #[.pointer (some ⟨w.heap.size + 1, 0, none⟩), .int .i64 z] W fun e w' => e = .returned (InsV x) ∧ DSt w (.slice va l.length vc) l (n + k) w') := fun W h => by
    have := guess_any _ _ n l z W h.r HBY.out (hz ▸ HZ.out)
    rw [← hn, ← hz, HX.out, HK.out, hn, hz] at this
    exact this.mono fun e w' hh => ⟨hh.1, h.call hh.2.1 hh.2.2⟩
  have HZN := Lib.hid hz
  have HNN := Lib.hid hn
  clear hx hk hv hby hpre hsiz hp0 hz hn
  go_enter Try.func9, Try.ntmps9
  go_upto_region 3 with fail
  obtain ⟨W3, hW3⟩ : ∃ W, (w.alloc (.cells #[.int .i64 0, .int .i64 0, .int .i64 0, .int .i64 0, .int .i64 0] 25)).alloc (.cells #[.slice va l.length vc, .int .i64 0, .bool false] 55) = W := ⟨_, rfl⟩
  rw [hW3] at HS ⊢
  clear hW3
  go_cut [19] from 11 to 18 (fun b wx => b = .bool p ∧ W3 = wx)
  case first =>
    cases p
    · by_cases h0 : 0 < l.length
      · have d0 : decide (0 < l.length) = true := decide_eq_true h0
        obtain ⟨b, q, c, e', h5, h6, h7⟩ := HS.out.r.l.at h0
        cases e'; rw [Nat.add_zero] at h7
        generalize l.getD 0 0 = y at *
        go_wp2_with fail
        go_meet
        case rel => exact ⟨rfl, rfl⟩
      · have d0 : decide (0 < l.length) = false := decide_eq_false h0
        go_wp2_with fail
        go_meet
        case rel => exact ⟨rfl, rfl⟩
    · have h0 := HP0.out rfl
      have d0 : decide (0 < l.length) = true := decide_eq_true h0
      obtain ⟨b, q, c, e', h5, h6, h7⟩ := HS.out.r.l.at h0
      cases e'; rw [Nat.add_zero] at h7
      generalize l.getD 0 0 = y at *
      go_wp2_with fail
      go_meet
      case rel => exact ⟨rfl, rfl⟩
  case rest =>
    obtain ⟨rfl, rfl⟩ := hcut
    clear hp
    go_upto_if 19 with fail
    go_cut [6] from 20 to 22 (fun s wx => s = .int .i64 z ∧ DSt w (.slice va l.length vc) l n wx)
    case first =>
      cases p
      · have HQ : Hid (z = 32 ∧ n = 0) := ⟨by rw [← HZN.out, HSIZ.out]; rfl, by rw [← HNN.out, HPRE.out]; rfl⟩
        go_wp2_with fail
        go_meet
        case rel => exact ⟨by rw [HQ.out.1], by rw [HQ.out.2]; exact HS.out⟩
      · have HQ : Hid (z = 16 ∧ n = 1) := ⟨by rw [← HZN.out, HSIZ.out]; rfl, by rw [← HNN.out, HPRE.out]; rfl⟩
        have h0 := HP0.out rfl
        have c1 := HS.out.r.r.c1
        have f1 := HS.out.r.r.free 1
        have HD := Lib.hid (HS.out.one h0)
        go_wp2_with fail
        go_meet
        case rel => exact ⟨by rw [HQ.out.1], by rw [HQ.out.2]; exact HD.out⟩
    case rest =>
      obtain ⟨rfl, hd⟩ := hcut
      obtain ⟨o, d, s, z2, i⟩ := x
      have HG2 : Hid (∀ W, DSt w (.slice va l.length vc) l n W → Calls Try.prog 25 #[.pointer (some ⟨w.heap.size + 1, 0, none⟩), .int .i64 z] W fun e w' => e = .returned (.agg #[.int .i64 o, .int .i64 d, .int .i64 s, .int .i64 z2, .int .i64 i]) ∧ DSt w (.slice va l.length vc) l (n + k) w') := HG
      go_upto_region 7 with ((go_at_call 25; with_reducible refine (HG2.out _ hd).mono ?_); rintro e w5 ⟨rfl, hd5⟩)
      obtain ⟨W4, hW4⟩ : ∃ W, w5.alloc (.cells #[.int .i64 o, .int .i64 d, .int .i64 s, .int .i64 z2, .int .i64 i] 25) = W := ⟨_, rfl⟩
      have hb4 : Below w5.heap.size w5 W4 := by rw [← hW4]; exact (Below.refl _ _).alloc (Nat.le_refl _) _
      have hd4 := hd5.below hb4
      have hx4 : Box5 W4 w5.heap.size o d s z2 i := by rw [← hW4]; exact Box5.new w5 o d s z2 i
      have hlt5 : w5.heap.size < W4.heap.size := hx4.lt
      have hltR : w.heap.size + 1 < W4.heap.size := hd4.r.r.lt
      have hge5 : w.heap.size ≤ w5.heap.size := hd5.b.size
      rw [hW4]
      clear hW4 hb4 hd hd5
      obtain ⟨N, hN⟩ : ∃ N, n + k = N := ⟨_, rfl⟩
      rw [hN] at hd4
      have HD4 := Lib.hid hd4
      have HX4 := Lib.hid hx4
      have h00 := Since.refl W4
      have hcx := hx4.cells.1
      have hcq := hd4.x.cells
      have hr1 := hd4.r.r.c1
      have hr2 := hd4.r.r.c2
      have HDN : Hid (decI l = if (N ≤ l.length ∧ okI ⟨o, d, s, z2, i⟩ = true) ∧ encI ⟨o, d, s, z2, i⟩ = l.take N then some (⟨o, d, s, z2, i⟩, N) else none) := by
        show _ = _
        unfold decI
        rw [HX.out, HK.out, HNN.out, hN]
      clear HX HK HZN HNN HG HG2 HV HS HP0 HPRE HSIZ HZ hN hx4 hd4
      obtain ⟨x0, x1, x2, x3, x4⟩ := hcx
      obtain ⟨⟨q0, q1, q2, q3, q4⟩, qf⟩ := hcq
      have f0 := qf 0
      have f1 := qf 1
      have f2 := qf 2
      have f3 := qf 3
      have f4 := qf 4
      clear qf
      by_cases hsh : l.length < N
      · rw [decide_eq_true hsh] at hr2
        have HN0 := Lib.hid (dec_none (l := l) (by rw [HDN.out, if_neg (fun h => absurd h.1.1 (by omega))]))
        have hr2s : ∀ wk, Since W4 wk → wk.cell? ⟨w.heap.size + 1, 2, none⟩ = some (.bool true) := fun wk h => h.cell hr2
        refine wp_region_held_drew (S := (fun wk => Since W4 wk)) (by kernel_rfl) ?_ (fun hHeld => ?_)
        · (first | assumption | exact Since.drew (by assumption) | exact Since.next (by assumption) (by assumption))
        refine tk 0 ?_; refine tk 1 ?_; refine tk 2 ?_; refine tk 3 ?_; refine tk 4 ?_; refine sk 5 ?_; refine sk 6 ?_; refine sk 7 ?_
        refine tk 8 ?_; refine tk 9 ?_; refine sk 10 ?_; refine sk 11 ?_; refine sk 12 ?_; refine sk 13 ?_; refine sk 14 ?_; refine sk 15 ?_
        refine sk 16 ?_; refine sk 17 ?_; refine sk 18 ?_; refine sk 19 ?_; refine tk 20 ?_
        refine wpAnyH_done (by kernel_rfl) ?_ _
        have q0b := Since.cell h00 q0
        have q1b := Since.cell h00 q1
        have q2b := Since.cell h00 q2
        have q3b := Since.cell h00 q3
        have q4b := Since.cell h00 q4
        have f0b := Since.free h00 (Nat.lt_of_succ_lt hltR) f0
        have f1b := Since.free h00 (Nat.lt_of_succ_lt hltR) f1
        have f2b := Since.free h00 (Nat.lt_of_succ_lt hltR) f2
        have f3b := Since.free h00 (Nat.lt_of_succ_lt hltR) f3
        have f4b := Since.free h00 (Nat.lt_of_succ_lt hltR) f4
        have HBx := Lib.hid (below_hop HD4.out.b h00)
        go_wp2_with fail
        refine bodyPost_ret (v := .tuple #[InsV ⟨0, 0, 0, 0, 0⟩, .int .i64 0, .bool false]) (by simp [results, Try.results9, go_sem, InsV, q0b, q1b, q2b, q3b, q4b]) rfl ⟨?_, ?_⟩
        · rw [HN0.out.1, HN0.out.2.1, HN0.out.2.2]; rfl
        · (try with_reducible refine Below.drew ?_); exact below_set5 HBx.out (Nat.le_refl _) _ _ _ _ _
      · have hle : N ≤ l.length := by omega
        rw [decide_eq_false hsh] at hr2
        rw [Nat.min_eq_left hle] at hr1
        have hNc : N ≤ vc := by omega
        have hr2s : ∀ wk, Since W4 wk → wk.cell? ⟨w.heap.size + 1, 2, none⟩ = some (.bool false) := fun wk h => h.cell hr2
        have hr1s : ∀ wk, Since W4 wk → wk.cell? ⟨w.heap.size + 1, 1, none⟩ = some (.int .i64 N) := fun wk h => h.cell hr1
        have x0s : ∀ wk, Since W4 wk → wk.cell? ⟨w5.heap.size, 0, none⟩ = some (.int .i64 o) := fun wk h => h.cell x0
        have x1s : ∀ wk, Since W4 wk → wk.cell? ⟨w5.heap.size, 1, none⟩ = some (.int .i64 d) := fun wk h => h.cell x1
        have x2s : ∀ wk, Since W4 wk → wk.cell? ⟨w5.heap.size, 2, none⟩ = some (.int .i64 s) := fun wk h => h.cell x2
        have x3s : ∀ wk, Since W4 wk → wk.cell? ⟨w5.heap.size, 3, none⟩ = some (.int .i64 z2) := fun wk h => h.cell x3
        have x4s : ∀ wk, Since W4 wk → wk.cell? ⟨w5.heap.size, 4, none⟩ = some (.int .i64 i) := fun wk h => h.cell x4
        cases hok : okI ⟨o, d, s, z2, i⟩
        · have HN0 := Lib.hid (dec_none (l := l) (by rw [HDN.out, if_neg (fun h => by rw [hok] at h; exact absurd h.1.2 (by simp))]))
          have CV : Hid (∀ wk, Calls Try.prog 14 #[.agg #[.int .i64 o, .int .i64 d, .int .i64 s, .int .i64 z2, .int .i64 i]] wk fun e w' => e = .returned (.int .i64 1) ∧ Below wk.heap.size wk w') := fun wk => by
            have := validate_any ⟨o, d, s, z2, i⟩ wk
            rw [show vaI ⟨o, d, s, z2, i⟩ = 1 by unfold vaI; rw [hok]; rfl] at this
            exact this
          clear hok
          refine wp_region_held_drew (S := (fun wk => Since W4 wk)) (by kernel_rfl) ?_ (fun hHeld => ?_)
          · (first | assumption | exact Since.drew (by assumption) | exact Since.next (by assumption) (by assumption))
          refine tk 0 ?_; refine tk 1 ?_; refine tk 2 ?_; refine tk 3 ?_; refine tk 4 ?_; refine tk 5 ?_
          refine rd1 6 (fun K hK => ?_)
          (go_simp; first | ((go_at_call 14; with_reducible refine (CV.out _).mono ?_); rintro e w6 ⟨rfl, hb6⟩; have hs6 := Since.next (by assumption) hb6) | ((go_at_call 27; with_reducible refine (CB.out _).mono ?_); rintro e w7 ⟨v7, rfl, hr7, hb7⟩; have HR7 := Lib.hid hr7; have hs7 := Since.next (by assumption) hb7; clear hr7) | ((go_at_call 26; with_reducible refine (CE.out _ _ kp (HR7.out.ints HLB.out)).mono ?_); rintro e w8 ⟨rfl, hd8⟩; have hs8 := Since.dr (by assumption) hd8))
          refine hK.out _ _ ?_ (fun hHeld => ?_)
          · (first | assumption | exact Since.drew (by assumption) | exact Since.next (by assumption) (by assumption))
          clear hK K
          try go_frame
          refine tk 7 ?_; refine tk 8 ?_; refine tk 9 ?_; refine sk 10 ?_; refine sk 11 ?_; refine sk 12 ?_; refine sk 13 ?_; refine sk 14 ?_
          refine sk 15 ?_; refine sk 16 ?_; refine sk 17 ?_; refine sk 18 ?_; refine sk 19 ?_; refine tk 20 ?_
          refine wpAnyH_done (by kernel_rfl) ?_ _
          have q0b := Since.cell hs6 q0
          have q1b := Since.cell hs6 q1
          have q2b := Since.cell hs6 q2
          have q3b := Since.cell hs6 q3
          have q4b := Since.cell hs6 q4
          have f0b := Since.free hs6 (Nat.lt_of_succ_lt hltR) f0
          have f1b := Since.free hs6 (Nat.lt_of_succ_lt hltR) f1
          have f2b := Since.free hs6 (Nat.lt_of_succ_lt hltR) f2
          have f3b := Since.free hs6 (Nat.lt_of_succ_lt hltR) f3
          have f4b := Since.free hs6 (Nat.lt_of_succ_lt hltR) f4
          have HBx := Lib.hid (below_hop HD4.out.b hs6)
          go_wp2_with fail
          refine bodyPost_ret (v := .tuple #[InsV ⟨0, 0, 0, 0, 0⟩, .int .i64 0, .bool false]) (by simp [results, Try.results9, go_sem, InsV, q0b, q1b, q2b, q3b, q4b]) rfl ⟨?_, ?_⟩
          · rw [HN0.out.1, HN0.out.2.1, HN0.out.2.2]; rfl
          · (try with_reducible refine Below.drew ?_); exact below_set5 HBx.out (Nat.le_refl _) _ _ _ _ _
        · have CV : Hid (∀ wk, Calls Try.prog 14 #[.agg #[.int .i64 o, .int .i64 d, .int .i64 s, .int .i64 z2, .int .i64 i]] wk fun e w' => e = .returned (.int .i64 0) ∧ Below wk.heap.size wk w') := fun wk => by
            have := validate_any ⟨o, d, s, z2, i⟩ wk
            rw [show vaI ⟨o, d, s, z2, i⟩ = 0 by unfold vaI; rw [hok]; rfl] at this
            exact this
          have CB : Hid (∀ wk, Calls Try.prog 27 #[.agg #[.int .i64 o, .int .i64 d, .int .i64 s, .int .i64 z2, .int .i64 i]] wk fun e w' => ∃ v, e = .returned v ∧ RowI w' wk.heap.size 5 .u8 v (encI ⟨o, d, s, z2, i⟩) ∧ Below wk.heap.size wk w') := fun wk => bytes_any ⟨o, d, s, z2, i⟩ wk hok
          have HLB : Hid ((encI ⟨o, d, s, z2, i⟩).length ≤ 140737488351232) := by show _ ≤ _; have := (enc_len hok).2; omega
          have HTK : Hid (∀ wk, Since W4 wk → Ints .u8 wk (.slice va N vc) (l.take N)) := fun wk h => (HD4.out.r.l.stays h).take hle
          have HDN2 : Hid (decI l = if encI ⟨o, d, s, z2, i⟩ = l.take N then some (⟨o, d, s, z2, i⟩, N) else none) := by
            show _ = _
            rw [HDN.out]
            by_cases hq : encI ⟨o, d, s, z2, i⟩ = l.take N
            · rw [if_pos ⟨⟨hle, hok⟩, hq⟩, if_pos hq]
            · rw [if_neg (fun h => hq h.2), if_neg hq]
          clear hok HDN
          generalize encI ⟨o, d, s, z2, i⟩ = en at *
          have CE : Hid (∀ wk v, Since W4 wk → Ints .u8 wk v en → Calls Try.prog 26 #[v, .slice va N vc] wk fun e w' => e = .returned (.bool (decide (en = l.take N))) ∧ Dr wk w') := fun wk v h hi => equal_any en (l.take N) v _ wk hi (HTK.out wk h)
          obtain ⟨q, hq⟩ : ∃ q, decide (en = l.take N) = q := ⟨_, rfl⟩
          rw [hq] at CE
          have HQ := Lib.hid hq
          clear hq
          refine wp_region_held_drew (S := (fun wk => Since W4 wk)) (by kernel_rfl) ?_ (fun hHeld => ?_)
          · (first | assumption | exact Since.drew (by assumption) | exact Since.next (by assumption) (by assumption))
          refine tk 0 ?_; refine tk 1 ?_; refine tk 2 ?_; refine tk 3 ?_; refine tk 4 ?_; refine tk 5 ?_
          refine rd1 6 (fun K hK => ?_)
          (go_simp; first | ((go_at_call 14; with_reducible refine (CV.out _).mono ?_); rintro e w6 ⟨rfl, hb6⟩; have hs6 := Since.next (by assumption) hb6) | ((go_at_call 27; with_reducible refine (CB.out _).mono ?_); rintro e w7 ⟨v7, rfl, hr7, hb7⟩; have HR7 := Lib.hid hr7; have hs7 := Since.next (by assumption) hb7; clear hr7) | ((go_at_call 26; with_reducible refine (CE.out _ _ kp (HR7.out.ints HLB.out)).mono ?_); rintro e w8 ⟨rfl, hd8⟩; have hs8 := Since.dr (by assumption) hd8))
          refine hK.out _ _ ?_ (fun hHeld => ?_)
          · (first | assumption | exact Since.drew (by assumption) | exact Since.next (by assumption) (by assumption))
          clear hK K
          try go_frame
          refine tk 7 ?_; refine tk 8 ?_; refine tk 9 ?_; refine tk 10 ?_; refine tk 12 ?_; refine tk 13 ?_; refine tk 14 ?_; refine tk 15 ?_
          refine tk 16 ?_; refine tk 17 ?_
          refine rd1 11 (fun K hK => ?_)
          (go_simp; first | ((go_at_call 14; with_reducible refine (CV.out _).mono ?_); rintro e w6 ⟨rfl, hb6⟩; have hs6 := Since.next (by assumption) hb6) | ((go_at_call 27; with_reducible refine (CB.out _).mono ?_); rintro e w7 ⟨v7, rfl, hr7, hb7⟩; have HR7 := Lib.hid hr7; have hs7 := Since.next (by assumption) hb7; clear hr7) | ((go_at_call 26; with_reducible refine (CE.out _ _ kp (HR7.out.ints HLB.out)).mono ?_); rintro e w8 ⟨rfl, hd8⟩; have hs8 := Since.dr (by assumption) hd8))
          refine hK.out _ _ ?_ (fun hHeld => ?_)
          · (first | assumption | exact Since.drew (by assumption) | exact Since.next (by assumption) (by assumption))
          clear hK K
          try go_frame
          refine rd1 18 (fun K hK => ?_)
          (go_simp; first | ((go_at_call 14; with_reducible refine (CV.out _).mono ?_); rintro e w6 ⟨rfl, hb6⟩; have hs6 := Since.next (by assumption) hb6) | ((go_at_call 27; with_reducible refine (CB.out _).mono ?_); rintro e w7 ⟨v7, rfl, hr7, hb7⟩; have HR7 := Lib.hid hr7; have hs7 := Since.next (by assumption) hb7; clear hr7) | ((go_at_call 26; with_reducible refine (CE.out _ _ kp (HR7.out.ints HLB.out)).mono ?_); rintro e w8 ⟨rfl, hd8⟩; have hs8 := Since.dr (by assumption) hd8))
          refine hK.out _ _ ?_ (fun hHeld => ?_)
          · (first | assumption | exact Since.drew (by assumption) | exact Since.next (by assumption) (by assumption))
          clear hK K
          try go_frame
          refine tk 19 ?_; refine tk 20 ?_
          refine wpAnyH_done (by kernel_rfl) ?_ _
          cases q
          · have HN0 := Lib.hid (dec_none (l := l) (by rw [HDN2.out, if_neg (of_decide_eq_false HQ.out)]))
            have q0b := Since.cell hs8 q0
            have q1b := Since.cell hs8 q1
            have q2b := Since.cell hs8 q2
            have q3b := Since.cell hs8 q3
            have q4b := Since.cell hs8 q4
            have f0b := Since.free hs8 (Nat.lt_of_succ_lt hltR) f0
            have f1b := Since.free hs8 (Nat.lt_of_succ_lt hltR) f1
            have f2b := Since.free hs8 (Nat.lt_of_succ_lt hltR) f2
            have f3b := Since.free hs8 (Nat.lt_of_succ_lt hltR) f3
            have f4b := Since.free hs8 (Nat.lt_of_succ_lt hltR) f4
            have HBx := Lib.hid (below_hop HD4.out.b hs8)
            go_wp2_with fail
            refine bodyPost_ret (v := .tuple #[InsV ⟨0, 0, 0, 0, 0⟩, .int .i64 0, .bool false]) (by simp [results, Try.results9, go_sem, InsV, q0b, q1b, q2b, q3b, q4b]) rfl ⟨?_, ?_⟩
            · rw [HN0.out.1, HN0.out.2.1, HN0.out.2.2]; rfl
            · (try with_reducible refine Below.drew ?_); exact below_set5 HBx.out (Nat.le_refl _) _ _ _ _ _
          · have HN1 := Lib.hid (dec_some (l := l) (x := ⟨o, d, s, z2, i⟩) (n := N) (by rw [HDN2.out, if_pos (of_decide_eq_true HQ.out)]))
            have q0b := Since.cell hs8 q0
            have q1b := Since.cell hs8 q1
            have q2b := Since.cell hs8 q2
            have q3b := Since.cell hs8 q3
            have q4b := Since.cell hs8 q4
            have f0b := Since.free hs8 (Nat.lt_of_succ_lt hltR) f0
            have f1b := Since.free hs8 (Nat.lt_of_succ_lt hltR) f1
            have f2b := Since.free hs8 (Nat.lt_of_succ_lt hltR) f2
            have f3b := Since.free hs8 (Nat.lt_of_succ_lt hltR) f3
            have f4b := Since.free hs8 (Nat.lt_of_succ_lt hltR) f4
            have HBx := Lib.hid (below_hop HD4.out.b hs8)
            have x0b := x0s _ hs8
            have x1b := x1s _ hs8
            have x2b := x2s _ hs8
            have x3b := x3s _ hs8
            have x4b := x4s _ hs8
            have rb := hr1s _ hs8
            go_wp2_with go_region
            refine bodyPost_ret (v := .tuple #[InsV ⟨o, d, s, z2, i⟩, .int .i64 N, .bool true]) (by simp [results, Try.results9, go_sem, InsV, q0b, q1b, q2b, q3b, q4b]) rfl ⟨?_, ?_⟩
            · rw [HN1.out.1, HN1.out.2.1, HN1.out.2.2]
            · (try with_reducible refine Below.drew ?_); exact below_set5 HBx.out (Nat.le_refl _) _ _ _ _ _
end Go.Proofs.Ytdojafpjipcbjaa
namespace Go.Proofs.Ytdojafpjipcbjaa
open Go.RowKit
set_option linter.unusedVariables false
set_option linter.unusedSimpArgs false
/-- The string of a slice of bytes. -/
theorem Ints.str {w : World} {v : Value} {xs : List Int} (h : Ints .u8 w v xs) : (convert 22 9 v).run Try.prog w = .ok (.string (strOfNums xs)) w := by
  obtain ⟨a, c, rfl, h1, h2, h3, h4⟩ := h
  rcases a with _ | ⟨b, o, tg⟩
  · have hl : xs = [] := by
      rcases xs with _ | ⟨x, r⟩
      · rfl
      · obtain ⟨b, o, e, _⟩ := h4 0 (by simp); cases e
    subst hl
    exact run_convert_bytes_nil w _ 5 Try.underlying22 Try.underlying5 _ _ _ Try.underlying9
  · rcases Nat.eq_zero_or_pos xs.length with h0 | h0
    · have hl : xs = [] := List.length_eq_zero_iff.1 h0
      subst hl
      rw [run_convert_bytes_string w _ _ 5 _ _ _ Try.underlying22 Try.underlying5 Try.underlying9]
      have := run_bytesToString (P := Try.prog) w ⟨b, o, tg⟩ 0 c [] (by have := run_loadCells_list (P := Try.prog) w ⟨b, o, tg⟩ [] (by intro j v hj; simp at hj); simpa using this)
      exact this
    · obtain ⟨b', o', e, _⟩ := h4 0 h0
      cases e
      refine run_convert_bytes_arg w _ 5 Try.underlying22 Try.underlying5 b o xs.length c xs rfl (fun i hi => ?_) _ Try.underlying9
      obtain ⟨b2, o2, e2, _, h6⟩ := h4 i hi
      cases e2
      rw [Nat.mul_one] at h6
      exact h6
theorem str1 : strOfNums [131, 192, 255] = ⟨#[131, 192, 255]⟩ := by decide
theorem str2 : strOfNums [102, 131, 192, 255] = ⟨#[102, 131, 192, 255]⟩ := by decide
set_option maxRecDepth 100000 in
set_option maxHeartbeats 1000000 in
theorem known_any (w : World) : Calls Try.prog 8 #[] w fun e w' => e = .returned (.bool true) ∧ Below w.heap.size w w' := by
  have E1 : Hid (∀ wk, Calls Try.prog 11 #[.agg #[.int .i64 14, .int .i64 0, .int .i64 0, .int .i64 32, .int .i64 4294967295]] wk fun e w' => ∃ v, e = .returned (.tuple #[v, .int .i64 0]) ∧ RowI w' wk.heap.size 5 .u8 v [131, 192, 255] ∧ Below wk.heap.size wk w') := fun wk => encode_ok ⟨14, 0, 0, 32, 4294967295⟩ wk (by decide)
  have E2 : Hid (∀ wk, Calls Try.prog 11 #[.agg #[.int .i64 14, .int .i64 0, .int .i64 0, .int .i64 16, .int .i64 65535]] wk fun e w' => ∃ v, e = .returned (.tuple #[v, .int .i64 0]) ∧ RowI w' wk.heap.size 5 .u8 v [102, 131, 192, 255] ∧ Below wk.heap.size wk w') := fun wk => encode_ok ⟨14, 0, 0, 16, 65535⟩ wk (by decide)
  have hd : decI [139, 131, 16, 0, 0, 0] = some (⟨2, 0, 3, 32, 16⟩, 6) := by decide
  have D1 : Hid (∀ wk : World, Calls Try.prog 9 #[.slice (some ⟨wk.heap.size, 0, none⟩) 6 6] (wk.alloc (.cells #[.int .u8 139, .int .u8 131, .int .u8 16, .int .u8 0, .int .u8 0, .int .u8 0] 5)) fun e w' => e = .returned (.tuple #[.agg #[.int .i64 2, .int .i64 0, .int .i64 3, .int .i64 32, .int .i64 16], .int .i64 6, .bool true]) ∧ Since (wk.alloc (.cells #[.int .u8 139, .int .u8 131, .int .u8 16, .int .u8 0, .int .u8 0, .int .u8 0] 5)) w') := fun wk => by
    have h := decode_any [139, 131, 16, 0, 0, 0] (.slice (some ⟨wk.heap.size, 0, none⟩) 6 6) _ ((RowI.lit wk #[.int .u8 139, .int .u8 131, .int .u8 16, .int .u8 0, .int .u8 0, .int .u8 0] [139, 131, 16, 0, 0, 0] .u8 5 wk.heap.size 6 (Nat.le_refl _) rfl rfl (by unfold maxLen; simp)).ints (by simp)) (by
      intro i
      rcases i with _ | _ | _ | _ | _ | _ | i <;> simp)
    rw [(dec_some hd).1, (dec_some hd).2.1, (dec_some hd).2.2] at h
    exact h
  clear hd
  go_enter Try.func8, Try.ntmps8
  go_upto_region 4 with (first | ((go_at_call 11; with_reducible refine (E1.out _).mono ?_); rintro e w1 ⟨v1, rfl, hr1, hb1⟩; obtain ⟨a1, c1, rfl⟩ := hr1.shape; have HR1 := Lib.hid hr1; have HB1 := Lib.hid hb1; clear hr1 hb1) | ((go_at_call 11; with_reducible refine (E2.out _).mono ?_); rintro e w2 ⟨v2, rfl, hr2, hb2⟩; obtain ⟨a2, c2, rfl⟩ := hr2.shape; have HR2 := Lib.hid hr2; have HB2 := Lib.hid hb2; clear hr2 hb2) | ((go_at_call 9; with_reducible refine (D1.out _).mono ?_); rintro e w3 ⟨rfl, hs3⟩))
  obtain ⟨W4, hW4⟩ : ∃ W, w3.alloc (.cells #[.int .i64 2, .int .i64 0, .int .i64 3, .int .i64 32, .int .i64 16] 25) = W := ⟨_, rfl⟩
  have hb4 : Below w3.heap.size w3 W4 := by rw [← hW4]; exact (Below.refl _ _).alloc (Nat.le_refl _) _
  have hx4 : Box5 W4 w3.heap.size 2 0 3 32 16 := by rw [← hW4]; exact Box5.new w3 2 0 3 32 16
  obtain ⟨⟨q0, q1, q2, q3, q4⟩, _⟩ := hx4.cells
  have s23 : Below w2.heap.size w2 w3 := below_hop ((Below.refl _ _).alloc (Nat.le_refl _) _) hs3
  have s24 : Below w2.heap.size w2 W4 := below_hop s23 hb4
  have s14 : Below w1.heap.size w1 W4 := below_hop HB2.out s24
  have HF := Lib.hid (below_hop HB1.out s14)
  have t1 := ((HR1.out.below s14).ints (by simp)).str
  have t2 := ((HR2.out.below s24).ints (by simp)).str
  rw [str1] at t1
  rw [str2] at t2
  change (convert 22 9 (.slice a1 3 c1)).run Try.prog W4 = _ at t1
  change (convert 22 9 (.slice a2 4 c2)).run Try.prog W4 = _ at t2
  rw [hW4]
  clear hW4 hb4 s23 s24 s14 hs3 hx4
  go_wp2_with fail
  go_ret
  exact ⟨rfl, HF.out⟩
end Go.Proofs.Ytdojafpjipcbjaa
namespace Go.Proofs.Ytdojafpjipcbjaa
open Go.RowKit Go.Maps
set_option linter.unusedVariables false
set_option linter.unusedSimpArgs false
theorem byt_of {l : List Int} (h : ∀ b ∈ l, 0 ≤ b ∧ b < 256) : Byt l := fun k => by
  rcases Nat.lt_or_ge k l.length with hk | hk
  · rw [List.getD_eq_getElem?_getD, List.getElem?_eq_getElem hk]
    exact h _ (List.getElem_mem hk)
  · rw [List.getD_eq_getElem?_getD, List.getElem?_eq_none hk]; decide
/-! ### memory -/
def IaAt (w : World) (b o : Nat) (x : Ins) : Prop :=
  w.cell? ⟨b, o, none⟩ = some (.int .i64 x.o) ∧ w.cell? ⟨b, o + 1, none⟩ = some (.int .i64 x.d) ∧ w.cell? ⟨b, o + 2, none⟩ = some (.int .i64 x.s) ∧ w.cell? ⟨b, o + 3, none⟩ = some (.int .i64 x.z) ∧ w.cell? ⟨b, o + 4, none⟩ = some (.int .i64 x.i)
/-- A slice of instructions. -/
def Ias (w : World) (v : Value) (xs : List Ins) : Prop := Slc w v xs.length 5 fun i b o => IaAt w b o (xs.getD i default)
theorem Ias.stays {w w' : World} {v : Value} {xs : List Ins} (h : Ias w v xs) (hb : Below w.heap.size w w') : Ias w' v xs :=
  Slc.stays h hb fun _ _ _ hlt hc => ⟨below_cell hb hlt hc.1, below_cell hb hlt hc.2.1, below_cell hb hlt hc.2.2.1, below_cell hb hlt hc.2.2.2.1, below_cell hb hlt hc.2.2.2.2⟩
theorem Ias.shape {w : World} {v : Value} {xs : List Ins} (h : Ias w v xs) : ∃ a c, v = .slice a xs.length c ∧ xs.length ≤ c ∧ xs.length ≤ 140737488351232 := by
  obtain ⟨a, c, e, h1, h2, _⟩ := h
  exact ⟨a, c, e, h1, h2.1⟩
theorem Ias.at {w : World} {v : Value} {xs : List Ins} (h : Ias w v xs) {j : Nat} (hj : j < xs.length) : ∃ b q c, v = .slice (some ⟨b, q, none⟩) xs.length c ∧ xs.length ≤ c ∧ b < w.heap.size ∧ IaAt w b (q + j * 5) (xs.getD j default) := by
  obtain ⟨a, c, e, h1, h2, h3, h4⟩ := h
  obtain ⟨b, q, rfl, h5, h6⟩ := h4 j hj
  exact ⟨b, q, c, e, h1, h5, h6⟩
def iaC (x : Ins) : List Value := [.int .i64 x.o, .int .i64 x.d, .int .i64 x.s, .int .i64 x.z, .int .i64 x.i]
def iasC : List Ins → List Value
  | [] => []
  | x :: r => iaC x ++ iasC r
theorem iasC_snoc (xs : List Ins) (x : Ins) : iasC (xs ++ [x]) = iasC xs ++ iaC x := by
  induction xs with
  | nil => simp [iasC]
  | cons y r ih => simp only [List.cons_append, iasC, ih, List.append_assoc]
/-- A row of instructions of the call's own. -/
def RowA (w : World) (base : Nat) (v : Value) (xs : List Ins) : Prop := w.ownsRow base 25 5 v xs.length (iasC xs)
theorem RowA.nil (w : World) (base : Nat) : RowA w base (.slice none 0 0) [] := World.ownsRow_nil w base _ 5
theorem RowA.below {w w' : World} {base : Nat} {v : Value} {xs : List Ins} (h : RowA w base v xs) (hb : Below w.heap.size w w') : RowA w' base v xs := by
  obtain ⟨h0, ⟨e, h1⟩ | ⟨g, cap, cur, e, hb', hg, h1, h2, h3, h4⟩⟩ := h
  · exact ⟨h0, Or.inl ⟨e, h1⟩⟩
  · have hlt : g < w.heap.size := by
      rcases Nat.lt_or_ge g w.heap.size with h | h
      · exact h
      · rw [Array.getElem?_eq_none h] at hg; cases hg
    exact ⟨h0, Or.inr ⟨g, cap, cur, e, hb', by rw [hb.block g hlt]; exact hg, h1, h2, h3, h4⟩⟩
theorem RowA.shape {w : World} {base : Nat} {v : Value} {xs : List Ins} (h : RowA w base v xs) : ∃ a c, v = .slice a xs.length c := by
  obtain ⟨h0, ⟨e, h1⟩ | ⟨g, cap, cur, e, _⟩⟩ := h
  · exact ⟨none, 0, by rw [e, h1]⟩
  · exact ⟨_, _, e⟩
end Go.Proofs.Ytdojafpjipcbjaa
