/-
  The Go function TopWords of package backstaytop returns true for every input, and every argument reads behind the call as it read before. There is no condition.
-/
import Derived.Test.YtpgbepgbgpjmcaaDoorTz
import Derived.Test.YtpgbepgbgpjmcaaDoorLaw
import Derived.Lib.SmallJoins
import Derived.Test.YtpgbepgbgpjmcaaDoorTie
import Derived.Test.YtpgbepgbgpjmcaaDoorCards
import Derived.ProofKit
import Derived.LaidMore
import Derived.OpenShut
import Derived.Stop.Joined
import Derived.SevenTiedAt
namespace Go.Proofs.YtpgbepgbgpjmcaaDoor.topWords
open Go.ChangeShapes Go.WideShapes Go.ChangeAt Go.RowKit
set_option linter.unusedVariables false
theorem own : ownKnob Tryd.prog.godebug = none := by kernel_rfl
theorem readable : ∀ t ∈ Tryd.f4.params.toList, Tryd.prog.readableRec t = true ∧ t < Tryd.prog.types.size := by
  have h : (Tryd.f4.params.toList.all fun t => Tryd.prog.readableRec t && decide (t < Tryd.prog.types.size)) = true := by kernel_rfl
  intro t ht
  have := List.all_eq_true.1 h t ht
  simpa using this
def laidL {H : Type} : List (String × DataW H) := [("math/bits.deBruijn32tab", Rows.laid_math_bits_deBruijn32tab)]
/-- The door's own heap meets the condition: three closed facts. -/
theorem door_met (os : Os) (args : Array Value) : laidMetH Tryd.prog laidL ((World.doorLaid Tryd.prog 400 os).forCall (fun _ _ => 0) ⟨#[], args, []⟩).memory :=
  laidMetH_of_parts3 (fuel := 8) (laidMet_of_run' 8 (by kernel_rfl) (by kernel_rfl)) (by kernel_rfl) (by kernel_rfl)
theorem cell_lt {w : World} {b o : Nat} {v : Value} (h : w.cell? ⟨b, o, none⟩ = some v) : b < w.heap.size := by
  unfold World.cell? at h
  by_cases hb : b < w.heap.size
  · exact hb
  · simp [Array.getElem?_eq_none (Nat.le_of_not_lt hb)] at h
/-- The cells of an array of integers that reads as a datum. -/
theorem cells_of {P : Program} {H : Type} {enc : TypeId × Value → H} {W : World} {t e n : Nat} {k : IntKind} (ht : P.underlying t = some (.array n e)) (he : P.underlying e = some (.int k)) (hc : P.cellsOf e = 1) {base : Nat} {spare : Nat → Bool} {held : Bool} {fuel : Nat} {cs : List Value} {q : List MemPlace} {tab : List Nat}
    (h : DataW.trod enc P W base spare held fuel t cs = some (.agg (tab.map fun (x : Nat) => .lit (.int k (x : Int))), q)) (hl : tab.length = n) : ∀ j, j < n → cs[j]? = some (.int k (tab.getD j 0 : Nat)) := by
  intro j hj
  obtain ⟨xs, m, _, hx, _, hn, hel⟩ := DataW.trod_array ht h
  have h0 := hel j hj
  rw [hc, Nat.mul_one] at h0
  simp only [Prod.mk.injEq, DataW.agg.injEq] at hx
  have hjx : j < xs.length := by omega
  rw [List.getElem?_eq_getElem hjx] at h0
  obtain ⟨v, e1, e2, _⟩ := DataW.trod_int he h0
  have hv : (xs.map (·.1))[j]? = some (.lit (.int k v)) := by rw [List.getElem?_map, List.getElem?_eq_getElem hjx, e2]; rfl
  rw [← hx.1, List.getElem?_map, List.getElem?_eq_getElem (by omega)] at hv
  simp only [Option.map_some, Option.some.injEq, DataW.lit.injEq, Lit.int.injEq, true_and] at hv
  have e3 : (cs.drop j)[0]? = some (.int k v) := by
    have : ((cs.drop j).take 1)[0]? = some (.int k v) := by rw [e1]; rfl
    rw [List.getElem?_take] at this
    simpa using this
  rw [List.getElem?_drop, Nat.add_zero] at e3
  rw [e3, ← hv, List.getD_eq_getElem?_getD, List.getElem?_eq_getElem (by omega)]
  rfl
/-- What the condition gives the walks. -/
theorem of_laid {W : World} (h : laidMetH Tryd.prog laidL W) : Tab W := by
  rw [MakeChecks.laidMetH_plain _ _ _ (by kernel_rfl)] at h
  obtain ⟨ps, ⟨g0, t0, cs0, f0, p0, q0, hg0, ht0, hv0, hd0, _⟩, _, _⟩ := h
  obtain rfl := Option.some.inj ((show Tryd.prog.globalNamed "math/bits.deBruijn32tab" = some 0 by kernel_rfl).symm.trans hg0)
  obtain rfl := Option.some.inj ((show (Tryd.prog.globals[0]?).map (·.type) = some 62 by kernel_rfl).symm.trans ht0)
  have hc := cells_of (tab := Lib.deBruijn32tab) (k := .u8) Tryd.underlying62 Tryd.underlying5 (by kernel_rfl) hd0 rfl
  intro j hj
  have h1 := World.var?_cell hg0 hv0 j
  rw [← Array.getElem?_toList, hc j hj] at h1
  exact ⟨h1, cell_lt h1⟩
set_option maxRecDepth 100000 in
theorem lifted (os : Os) (started : os.Started) (H : Type) (enc : TypeId × Value → H) :
    ReturnsInHanded {} Tryd.checked os 4 .any (fun w args => (Rows.topWordsSpec.pre enc Tryd.prog Tryd.f4 [] false w args ∧ laidMetH Tryd.prog laidL w) ∧ sizedMet enc Tryd.prog Tryd.f4 (OpenSpec.ofChange Rows.topWordsSpec) false w args)
      (Rows.topWordsSpec.post enc Tryd.prog Tryd.f4 false true false false) := by
  refine returnsInHanded_of_change_and (C := Tryd.checked) (X := fun w _ => laidMetH Tryd.prog laidL w) (fun _ _ _ hh h => h.of_heap hh) own started (by kernel_rfl) Tryd.func4
    (ChangeSpec.witness_shaped (enc := enc) (C := Tryd.checked) (os := os) (X := fun w _ => laidMetH Tryd.prog laidL w) false (World.doorLaid Tryd.prog 400 os) #[.int .i64 0, .agg #[.int .u32 0, .int .u32 0, .int .i64 0, .int .i64 0]] 8 rfl (World.shaped_of_RefB (by kernel_rfl) (by kernel_rfl)) (by kernel_rfl) (by kernel_rfl) (by kernel_rfl) (door_met os _)) ?_
  intro W base args ds gs before hval0 hW _ _ hL _
  have hval : ∀ (j : Nat) t v, Tryd.f4.params[j]? = some t → args[j]? = some v → Value.okWide Tryd.prog W .any base t v := hval0
  have hW' := hW
  have hT := of_laid hL
  obtain ⟨p, q, hA0, hV, rfl, hfz, hnd⟩ := hW
  have hA : DataW.TrodAll enc Tryd.prog W 0 (fun _ => true) true Tryd.f4.params.toList args.toList ds p := hA0
  rw [Tryd.params4] at hA hval
  obtain ⟨v0, vs0, d0, ds0, p0, q0, hargs, rfl, rfl, h0, r0⟩ := trodAll_cons hA
  obtain ⟨v1, vs1, d1, ds1, p1, q1, rfl, rfl, rfl, h1, r1⟩ := trodAll_cons r0
  obtain ⟨rfl, rfl, rfl⟩ := trodAll_nil r1
  obtain rfl : args = #[v0, v1] := by cases args; simp_all
  obtain ⟨rfl, rfl⟩ := trodVars_none hV
  obtain ⟨a0, rfl, rfl, rfl, w0⟩ := open_int Tryd.underlying3 (hval 0 3 v0 rfl rfl) h0
  obtain ⟨c10, c11, c12, c13, y10, y11, y12, y13, m1, rfl, rfl, rfl, hy10, hy11, hy12, hy13⟩ := Joins.open_agg4 Tryd.underlying29 (by kernel_rfl) (show Tryd.prog.cellsOf 29 = 4 by kernel_rfl) (hval 1 29 v1 rfl rfl) h1
  obtain ⟨a10, e10, rfl, w10⟩ := DataW.trod_int Tryd.underlying22 hy10
  simp at e10
  subst e10
  obtain ⟨a11, e11, rfl, w11⟩ := DataW.trod_int Tryd.underlying22 hy11
  simp at e11
  subst e11
  obtain ⟨a12, e12, rfl, w12⟩ := DataW.trod_int Tryd.underlying3 hy12
  simp at e12
  subst e12
  obtain ⟨a13, e13, rfl, w13⟩ := DataW.trod_int Tryd.underlying3 hy13
  simp at e13
  subst e13
  have ba0 : -9223372036854775808 ≤ a0 ∧ a0 ≤ 9223372036854775807 := by simpa [Lit.wf, IntKind.min, IntKind.max, IntKind.signed, IntKind.bits] using w0
  have ba10 : 0 ≤ a10 ∧ a10 ≤ 4294967295 := by simpa [Lit.wf, IntKind.min, IntKind.max, IntKind.signed, IntKind.bits] using w10
  have ba11 : 0 ≤ a11 ∧ a11 ≤ 4294967295 := by simpa [Lit.wf, IntKind.min, IntKind.max, IntKind.signed, IntKind.bits] using w11
  have ba12 : -9223372036854775808 ≤ a12 ∧ a12 ≤ 9223372036854775807 := by simpa [Lit.wf, IntKind.min, IntKind.max, IntKind.signed, IntKind.bits] using w12
  have ba13 : -9223372036854775808 ≤ a13 ∧ a13 ≤ 9223372036854775807 := by simpa [Lit.wf, IntKind.min, IntKind.max, IntKind.signed, IntKind.bits] using w13
  refine (wTopAll a0 a10 a11 a12 a13 W hT (by omega) (by omega) (by omega) (by omega) (by omega) (by omega) (by omega) (by omega)).mono fun e W' ⟨he, hb⟩ => ?_
  subst he
  exact ⟨_, rfl, post_law (tb := 4) (by kernel_rfl) readable rfl Tryd.underlying4 rfl hW' rfl hb⟩
theorem over : Rows.topWordsRow.holds Tryd.pinned (OpenSpec.ofChange Rows.topWordsSpec) :=
  OpenClaim.holds_of_wide 4 Tryd.f4 rfl rfl rfl rfl rfl rfl rfl ⟨rfl, rfl, rfl, rfl, rfl⟩ rfl rfl rfl rfl rfl (by kernel_rfl) Tryd.func4 (by kernel_rfl)
    (of_decide_eq_true (by kernel_rfl)) (by unfold Func.isWrapper; rw [if_neg (by decide +kernel)]; exact ⟨rfl, rfl⟩)
    (fun os started H enc _ => lifted os started H enc)
theorem said : Rows.TopWordsSaid := over
/-- The statement: the tied card. -/
theorem proved : Rows.TopWordsCardSaid :=
  Claim7.holds_tied_plain_at .later [] [.data] true (true, "d600d4d37aa6bd3a079355703519d4e685bdf72ee6befd7dc9f0cfec62980bfe") false
    said (fun _ h => by cases h) (by kernel_rfl) (fun _ h => by cases h) topWords_row_tie rfl ⟨rfl, rfl⟩ (by kernel_rfl) rfl
    (fun f fn hf hfn => by
      obtain rfl : f = 4 := Option.some.inj ((show Tryd.prog.funcNamed "backstay/backstaytop.TopWords" = some 4 by kernel_rfl).symm.trans hf) |>.symm
      obtain rfl : fn = Tryd.f4 := (Option.some.inj (Tryd.func4.symm.trans hfn)).symm
      exact ⟨by kernel_rfl, fun j t ht => by
        rw [Tryd.params4] at ht
        have hm : t ∈ [3, 29] := by simpa using Array.mem_of_getElem? ht
        have hall : ([3, 29].all fun u => !Tryd.prog.wantsStandIn u) = true := by kernel_rfl
        exact (show Tryd.prog.wantsStandIn t = false by simpa using List.all_eq_true.1 hall t hm)⟩)
    (by kernel_rfl)
#print axioms proved
end Go.Proofs.YtpgbepgbgpjmcaaDoor.topWords
