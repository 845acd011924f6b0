/-
  The Go function TermTexts of package backstaylaw07 returns true for every input, and every argument reads behind the call as it read before. There is no condition.
-/
import Derived.Stop.LaidErr
import Derived.Test.YtgcfadnnajahhaaGreatDoorTie
import Derived.Test.YtgcfadnnajahhaaGreatDoorCards
import Derived.ProofKit
import Derived.LaidMore
import Derived.OpenShut
import Derived.Stop.Joined
import Derived.SevenTiedAt
import Derived.Test.YtgcfadnnajahhaaGreatDoorT3
namespace Go.Proofs.YtgcfadnnajahhaaGreatDoor.termTexts
open Go.ChangeShapes Go.WideShapes Go.ChangeAt Go.RowKit
set_option linter.unusedVariables false
theorem own : ownKnob Tryz.prog.godebug = none := by kernel_rfl
theorem readable : ∀ t ∈ Tryz.f4.params.toList, Tryz.prog.readableRec t = true ∧ t < Tryz.prog.types.size := by
  have h : (Tryz.f4.params.toList.all fun t => Tryz.prog.readableRec t && decide (t < Tryz.prog.types.size)) = true := by kernel_rfl
  intro t ht
  have := List.all_eq_true.1 h t ht
  simpa using this
theorem nodeTy : ∃ f0 f1 f2 f3 f4, NodeTy Tryz.prog 65 3 f0 f1 f2 f3 f4 :=
  ⟨_, _, _, _, _, ⟨(show Tryz.prog.underlying 65 = some (.struct #[_, _, _, _, _]) from Tryz.underlying65), ⟨rfl, rfl, rfl, rfl, rfl⟩, by kernel_rfl, by kernel_rfl, by kernel_rfl, by kernel_rfl, by kernel_rfl, by kernel_rfl, ⟨by kernel_rfl, by kernel_rfl, by kernel_rfl, by kernel_rfl, by kernel_rfl, by kernel_rfl, by kernel_rfl⟩, of_decide_eq_true (by kernel_rfl)⟩⟩
def laidL {H : Type} : List (String × DataW H) := [("math/bits.deBruijn32tab", Rows.laid_math_bits_deBruijn32tab), ("math/bits.deBruijn64tab", Rows.laid_math_bits_deBruijn64tab), ("internal/strconv.uint64pow10", Rows.laid_internal_strconv_uint64pow10)]
theorem door_met (os : Os) (args : Array Value) : laidMetH Tryz.prog laidL ((World.doorLaid Tryz.prog 400 os).forCall (fun _ _ => 0) ⟨#[], args, []⟩).memory :=
  laidMetH_of_parts3 (fuel := 8) (laidMet_of_run' 8 (by kernel_rfl) (by kernel_rfl)) (by kernel_rfl) (by kernel_rfl)
theorem of_laid {W : World} (h : laidMetH Tryz.prog laidL W) : Tab10 W := by
  rw [MakeChecks.laidMetH_plain _ _ _ (by kernel_rfl)] at h
  have h2 := h.tail.tail
  have e : (Rows.laid_internal_strconv_uint64pow10 : DataW Unit) = Lib.tabData .u64 Lib.pow10Tab := by kernel_rfl
  rw [e] at h2
  exact Lib.tabIs_of_head (g := 1) (t := 213) (e := 150) (n := 20) (by kernel_rfl) (by kernel_rfl) Tryz.underlying213 Tryz.underlying150 (by kernel_rfl) (by kernel_rfl) h2
set_option maxRecDepth 100000 in
theorem lifted (os : Os) (started : os.Started) (H : Type) (enc : TypeId × Value → H) :
    ReturnsInHanded {} Tryz.checked os 4 .any (fun w args => (Rows.termTextsSpec.pre enc Tryz.prog Tryz.f4 [] false w args ∧ laidMetH Tryz.prog laidL w) ∧ sizedMet enc Tryz.prog Tryz.f4 (OpenSpec.ofChange Rows.termTextsSpec) false w args)
      (Rows.termTextsSpec.post enc Tryz.prog Tryz.f4 false true false false) := by
  refine returnsInHanded_of_change_and (C := Tryz.checked) (X := fun w _ => laidMetH Tryz.prog laidL w) (fun _ _ _ hh h => h.of_heap hh) own started (by kernel_rfl) Tryz.func4
    (ChangeSpec.witness_shaped (enc := enc) (C := Tryz.checked) (os := os) (X := fun w _ => laidMetH Tryz.prog laidL w) false (World.doorLaid Tryz.prog 400 os) #[.slice none 0 0, .slice none 0 0] 8 rfl (World.shaped_of_RefB (by kernel_rfl) (by kernel_rfl)) (by kernel_rfl) (by kernel_rfl) (by kernel_rfl) (door_met os _)) ?_
  intro W base args ds gs before hval0 hW _ hsz0 hL _
  have hval : ∀ (j : Nat) t v, Tryz.f4.params[j]? = some t → args[j]? = some v → Value.okWide Tryz.prog W .any base t v := hval0
  have hsz : (DataW.weightsEach Tryz.prog (Tryz.f4.params.toList ++ Rows.termTextsSpec.plain.varTypes Tryz.prog) (ds ++ gs)).all (· ≤ reachBytes) = true := hsz0
  clear hsz0
  have hW' := hW
  have hT := of_laid hL
  obtain ⟨p, q, hA0, hV, rfl, hfz, hnd⟩ := hW
  have hA : DataW.TrodAll enc Tryz.prog W 0 (fun _ => true) true Tryz.f4.params.toList args.toList ds p := hA0
  rw [Tryz.params4] at hA hval hsz
  obtain ⟨v0, vs0, d0, ds0, p0, q0, hargs, rfl, rfl, h0, r0⟩ := trodAll_cons hA
  obtain ⟨v1, vs1, d1, ds1, p1, q1, rfl, rfl, rfl, h1, r1⟩ := trodAll_cons r0
  obtain ⟨rfl, rfl, rfl⟩ := trodAll_nil r1
  obtain rfl : args = #[v0, v1] := by cases args; simp_all
  obtain ⟨rfl, rfl⟩ := trodVars_none hV
  obtain ⟨f0, f1, f2, f3, f4, hTy⟩ := nodeTy
  obtain ⟨fu0, hf0⟩ := h0
  have hw0 : ∀ n ∈ d0.weights Tryz.prog 27, n ≤ reachBytes := fun n hn => by have := List.all_eq_true.1 hsz n (DataW.weights_mem_each (j := 0) rfl rfl n hn); simpa using this
  obtain ⟨sa0, sl0, sc0, rfl⟩ := okWide_slice Tryz.underlying27 (hval 0 27 v0 rfl rfl)
  obtain ⟨u0, t0, hcs0, hN0, hwf0⟩ := readN Tryz.underlying27 hTy (of_decide_eq_true (by kernel_rfl)) hf0 hw0
  have hu0 : u0 = .slice sa0 sl0 sc0 := by simpa [Value.cells] using hcs0.symm
  subst hu0
  obtain ⟨fu1, hf1⟩ := h1
  have hw1 : ∀ n ∈ d1.weights Tryz.prog 27, n ≤ reachBytes := fun n hn => by have := List.all_eq_true.1 hsz n (DataW.weights_mem_each (j := 1) rfl rfl n hn); simpa using this
  obtain ⟨sa1, sl1, sc1, rfl⟩ := okWide_slice Tryz.underlying27 (hval 1 27 v1 rfl rfl)
  obtain ⟨u1, t1, hcs1, hN1, hwf1⟩ := readN Tryz.underlying27 hTy (of_decide_eq_true (by kernel_rfl)) hf1 hw1
  have hu1 : u1 = .slice sa1 sl1 sc1 := by simpa [Value.cells] using hcs1.symm
  subst hu1
  refine (wTermTexts t0 t1 _ _ W hN0 hN1 (fun x hx => fits_u32 (hwf0 x hx).1) (fun x hx => fits_u32 (hwf1 x hx).1) hT).mono fun e W' ⟨he, hb⟩ => ?_
  subst he
  exact ⟨_, rfl, post_law (tb := 4) (by kernel_rfl) readable rfl Tryz.underlying4 rfl hW' rfl hb⟩
theorem over : Rows.termTextsRow.holds Tryz.pinned (OpenSpec.ofChange Rows.termTextsSpec) :=
  OpenClaim.holds_of_wide 4 Tryz.f4 rfl rfl rfl rfl rfl rfl rfl ⟨rfl, rfl, rfl, rfl, rfl⟩ rfl rfl rfl rfl rfl (by kernel_rfl) Tryz.func4 (by kernel_rfl)
    (of_decide_eq_true (by kernel_rfl)) (by unfold Func.isWrapper; rw [if_neg (by decide +kernel)]; exact ⟨rfl, rfl⟩)
    (fun os started H enc _ => lifted os started H enc)
theorem said : Rows.TermTextsSaid := over
theorem proved : Rows.TermTextsCardSaid :=
  Claim7.holds_tied_plain_at .later [] [.data, .data, .data] true (true, "7fa6903f542d8f3eb5e8cdd2f793a909b943e5949673ae1e6ee4e599917611c6") false
    said (fun _ h => by cases h) (by kernel_rfl) (fun _ h => by cases h) termTexts_row_tie rfl ⟨rfl, rfl⟩ (by kernel_rfl) rfl
    (fun f fn hf hfn => by
      obtain rfl : f = 4 := Option.some.inj ((show Tryz.prog.funcNamed "backstay/backstaylaw07.TermTexts" = some 4 by kernel_rfl).symm.trans hf) |>.symm
      obtain rfl : fn = Tryz.f4 := (Option.some.inj (Tryz.func4.symm.trans hfn)).symm
      exact ⟨by kernel_rfl, fun j t ht => by
        rw [Tryz.params4] at ht
        have hm : t ∈ [27, 27] := by simpa using Array.mem_of_getElem? ht
        have hall : ([27, 27].all fun u => !Tryz.prog.wantsStandIn u) = true := by kernel_rfl
        exact (show Tryz.prog.wantsStandIn t = false by simpa using List.all_eq_true.1 hall t hm)⟩)
    (by kernel_rfl)
#print axioms proved
end Go.Proofs.YtgcfadnnajahhaaGreatDoor.termTexts
