/-
  The Go function TermSimplifies of package backstaylaw07 returns true for every input, and every argument reads behind the call as it read before. There is no condition.
-/
import Derived.Test.YthopdfikikdcbaaZs11
import Derived.Test.YthopdfikikdcbaaZs12
namespace Go.Proofs.Ythopdfikikdcbaa.termSimplifies
open Go.ChangeShapes Go.WideShapes Go.ChangeAt Go.RowKit
set_option linter.unusedVariables false
theorem own : ownKnob Try.prog.godebug = none := by kernel_rfl
theorem readable : ∀ t ∈ Try.f10.params.toList, Try.prog.readableRec t = true ∧ t < Try.prog.types.size := by
  have h : (Try.f10.params.toList.all fun t => Try.prog.readableRec t && decide (t < Try.prog.types.size)) = true := by kernel_rfl
  intro t ht
  have := List.all_eq_true.1 h t ht
  simpa using this
theorem nodeTy : ∃ f0 f1 f2 f3 f4, NodeTy Try.prog 47 3 f0 f1 f2 f3 f4 :=
  ⟨_, _, _, _, _, ⟨(show Try.prog.underlying 47 = some (.struct #[_, _, _, _, _]) from Try.underlying47), ⟨rfl, rfl, rfl, rfl, rfl⟩, by kernel_rfl, by kernel_rfl, by kernel_rfl, by kernel_rfl, by kernel_rfl, by kernel_rfl, ⟨by kernel_rfl, by kernel_rfl, by kernel_rfl, by kernel_rfl, by kernel_rfl, by kernel_rfl, by kernel_rfl⟩, of_decide_eq_true (by kernel_rfl)⟩⟩
set_option maxRecDepth 100000 in
theorem lifted (os : Os) (started : os.Started) (H : Type) (enc : TypeId × Value → H) :
    ReturnsInHanded {} Try.checked os 10 .any (Rows.termSimplifiesSpec.pre6 enc Try.prog Try.f10 Rows.termSimplifiesRow.domain false) (Rows.termSimplifiesSpec.post enc Try.prog Try.f10 false true false false) := by
  refine returnsInHanded_of_change_sized (C := Try.checked) own started (by kernel_rfl) Try.func10
    (ChangeSpec.witness6 (enc := enc) (C := Try.checked) false ⟨#[], #[.slice none 0 0, .slice none 0 0], []⟩ 8 (by kernel_rfl) (by kernel_rfl) (by kernel_rfl) (by kernel_rfl)) ?_
  intro W base args ds gs before hval0 hW hcnd hsz0 _
  have hval : ∀ (j : Nat) t v, Try.f10.params[j]? = some t → args[j]? = some v → Value.okWide Try.prog W .any base t v := hval0
  have hsz : (DataW.weightsEach Try.prog (Try.f10.params.toList ++ Rows.termSimplifiesSpec.plain.varTypes Try.prog) (ds ++ gs)).all (· ≤ reachBytes) = true := hsz0
  clear hsz0
  have hW' := hW
  obtain ⟨p, q, hA0, hV, rfl, hfz, hnd⟩ := hW
  have hA : DataW.TrodAll enc Try.prog W 0 (fun _ => true) true Try.f10.params.toList args.toList ds p := hA0
  rw [Try.params10] at hA hval hsz
  obtain ⟨v0, vs0, d0, ds0, p0, q0, hargs, rfl, rfl, h0, r0⟩ := trodAll_cons hA
  obtain ⟨v1, vs1, d1, ds1, p1, q1, rfl, rfl, rfl, h1, r1⟩ := trodAll_cons r0
  obtain ⟨rfl, rfl, rfl⟩ := trodAll_nil r1
  obtain rfl : args = #[v0, v1] := by cases args; simp_all
  obtain ⟨rfl, rfl⟩ := trodVars_none hV
  obtain ⟨f0, f1, f2, f3, f4, hTy⟩ := nodeTy
  obtain ⟨fu0, hf0⟩ := h0
  have hw0 : ∀ n ∈ d0.weights Try.prog 22, n ≤ reachBytes := fun n hn => by have := List.all_eq_true.1 hsz n (DataW.weights_mem_each (j := 0) rfl rfl n hn); simpa using this
  obtain ⟨sa0, sl0, sc0, rfl⟩ := okWide_slice Try.underlying22 (hval 0 22 v0 rfl rfl)
  obtain ⟨u0, t0, hcs0, hN0, hwf0⟩ := readN Try.underlying22 hTy (of_decide_eq_true (by kernel_rfl)) hf0 hw0
  have hu0 : u0 = .slice sa0 sl0 sc0 := by simpa [Value.cells] using hcs0.symm
  subst hu0
  obtain ⟨fu1, hf1⟩ := h1
  have hw1 : ∀ n ∈ d1.weights Try.prog 33, n ≤ reachBytes := fun n hn => by have := List.all_eq_true.1 hsz n (DataW.weights_mem_each (j := 1) rfl rfl n hn); simpa using this
  obtain ⟨sa1, sl1, sc1, rfl⟩ := okWide_slice Try.underlying33 (hval 1 33 v1 rfl rfl)
  obtain ⟨u1, t1, hcs1, hN1, hwf1⟩ := readI (k := .u32) Try.underlying33 Try.underlying34 (by kernel_rfl) (of_decide_eq_true (by kernel_rfl)) hf1 hw1
  have hu1 : u1 = .slice sa1 sl1 sc1 := by simpa [Value.cells] using hcs1.symm
  subst hu1
  refine (wTermSimplifies t0 t1 _ _ W hN0 hN1 (fun x hx => fits_u32 (hwf0 x hx).1) (fun x hx => fits_u32 (hwf1 x hx))).mono fun e W' ⟨he, hb⟩ => ?_
  subst he
  exact ⟨_, rfl, post_law (tb := 4) (by kernel_rfl) readable rfl Try.underlying4 rfl hW' rfl hb⟩
theorem over : Rows.termSimplifiesRow.holds Try.pinned (OpenSpec.ofChange Rows.termSimplifiesSpec) :=
  OpenClaim.holds_of_wide 10 Try.f10 rfl rfl rfl rfl rfl rfl rfl ⟨rfl, rfl, rfl, rfl, rfl⟩ rfl rfl rfl rfl rfl (by kernel_rfl) Try.func10 (by kernel_rfl)
    (of_decide_eq_true (by kernel_rfl)) (by unfold Func.isWrapper; rw [if_neg (by decide +kernel)]; exact ⟨rfl, rfl⟩)
    (fun os started H enc _ => lifted os started H enc)
/-- The statement. -/
theorem proved : Rows.TermSimplifiesSaid := over
#print axioms proved
end Go.Proofs.Ythopdfikikdcbaa.termSimplifies
