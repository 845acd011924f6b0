/-
  The Go function TopTraces of package backstaytop returns true for every input, and every argument reads behind the call as it read before. There is no condition.
-/
import Derived.Test.YtgcfadnnajahhaaT2
namespace Go.Proofs.Ytgcfadnnajahhaa.topTraces
open Go.ChangeShapes Go.WideShapes Go.ChangeAt Go.RowKit
set_option linter.unusedVariables false
theorem own : ownKnob Try.prog.godebug = none := by kernel_rfl
theorem readable : ∀ t ∈ Try.f3.params.toList, Try.prog.readableRec t = true ∧ t < Try.prog.types.size := by
  have h : (Try.f3.params.toList.all fun t => Try.prog.readableRec t && decide (t < Try.prog.types.size)) = true := by kernel_rfl
  intro t ht
  have := List.all_eq_true.1 h t ht
  simpa using this
theorem plTy : ∃ f0 f1 f2 f3 f4, PlTy Try.prog 32 f0 f1 f2 f3 f4 :=
  ⟨_, _, _, _, _, ⟨(show Try.prog.underlying 32 = some (.struct #[_, _, _, _, _]) from Try.underlying32), ⟨rfl, rfl, rfl, rfl, rfl⟩, by kernel_rfl, by kernel_rfl, by kernel_rfl, by kernel_rfl, by kernel_rfl, ⟨by kernel_rfl, by kernel_rfl, by kernel_rfl, by kernel_rfl, by kernel_rfl, by kernel_rfl⟩⟩⟩
theorem macTy : ∃ f0 f1 f2 f3 f4, MacTy Try.prog 27 23 5 f0 f1 f2 f3 f4 :=
  ⟨_, _, _, _, _, ⟨(show Try.prog.underlying 27 = some (.struct #[_, _, _, _, _]) from Try.underlying27), ⟨rfl, rfl, rfl, rfl, rfl⟩, by kernel_rfl, by kernel_rfl, by kernel_rfl, by kernel_rfl, by kernel_rfl, by kernel_rfl, by kernel_rfl, ⟨by kernel_rfl, by kernel_rfl, by kernel_rfl, by kernel_rfl, by kernel_rfl, by kernel_rfl⟩, ⟨by kernel_rfl, by kernel_rfl⟩, of_decide_eq_true (by kernel_rfl)⟩⟩
set_option maxRecDepth 100000 in
theorem lifted (os : Os) (started : os.Started) (H : Type) (enc : TypeId × Value → H) :
    ReturnsInHanded {} Try.checked os 3 .any (Rows.topTracesSpec.pre6 enc Try.prog Try.f3 Rows.topTracesRow.domain false) (Rows.topTracesSpec.post enc Try.prog Try.f3 false true false false) := by
  refine returnsInHanded_of_change_sized (C := Try.checked) own started (by kernel_rfl) Try.func3
    (ChangeSpec.witness6 (enc := enc) (C := Try.checked) false ⟨#[], #[.slice none 0 0, .agg #[.int .u32 0, .int .u32 0, .int .u32 0, .int .u32 0, .int .u32 0, .int .u32 0, .int .u32 0, .int .u32 0, .int .u32 0, .int .u32 0, .int .u32 0, .int .u32 0, .int .u32 0, .int .u32 0, .int .u32 0, .int .u32 0, .int .u32 0, .int .u32 0, .int .u32 0, .int .u32 0, .int .u32 0, .int .u32 0, .int .u32 0, .int .u32 0, .int .u32 0, .int .u32 0, .int .u32 0, .int .u32 0, .int .u32 0, .int .u32 0, .int .u32 0, .int .u32 0, .int .i64 0, .int .u32 0, .slice none 0 0, .int .i64 0], .int .i64 0], []⟩ 8 (by kernel_rfl) (by kernel_rfl) (by kernel_rfl) (by kernel_rfl)) ?_
  intro W base args ds gs before hval0 hW hcnd hsz0 _
  have hval : ∀ (j : Nat) t v, Try.f3.params[j]? = some t → args[j]? = some v → Value.okWide Try.prog W .any base t v := hval0
  have hsz : (DataW.weightsEach Try.prog (Try.f3.params.toList ++ Rows.topTracesSpec.plain.varTypes Try.prog) (ds ++ gs)).all (· ≤ reachBytes) = true := hsz0
  clear hsz0
  have hW' := hW
  obtain ⟨p, q, hA0, hV, rfl, hfz, hnd⟩ := hW
  have hA : DataW.TrodAll enc Try.prog W 0 (fun _ => true) true Try.f3.params.toList args.toList ds p := hA0
  rw [Try.params3] at hA hval hsz
  obtain ⟨v0, vs0, d0, ds0, p0, q0, hargs, rfl, rfl, h0, r0⟩ := trodAll_cons hA
  obtain ⟨v1, vs1, d1, ds1, p1, q1, rfl, rfl, rfl, h1, r1⟩ := trodAll_cons r0
  obtain ⟨v2, vs2, d2, ds2, p2, q2, rfl, rfl, rfl, h2, r2⟩ := trodAll_cons r1
  obtain ⟨rfl, rfl, rfl⟩ := trodAll_nil r2
  obtain rfl : args = #[v0, v1, v2] := by cases args; simp_all
  obtain ⟨rfl, rfl⟩ := trodVars_none hV
  obtain ⟨fu0, hf0⟩ := h0
  have hw0 : ∀ n ∈ d0.weights Try.prog 22, n ≤ reachBytes := fun n hn => by have := List.all_eq_true.1 hsz n (DataW.weights_mem_each (j := 0) rfl rfl n hn); simpa using this
  obtain ⟨sa0, sl0, sc0, rfl⟩ := okWide_slice Try.underlying22 (hval 0 22 v0 rfl rfl)
  obtain ⟨f0, f1, f2, f3, f4, hTyP⟩ := plTy
  obtain ⟨u0, t0, hcs0, hN0, hwf0⟩ := readP Try.underlying22 hTyP (of_decide_eq_true (by kernel_rfl)) hf0 hw0
  have hu0 : u0 = .slice sa0 sl0 sc0 := by simpa [Value.cells] using hcs0.symm
  subst hu0
  obtain ⟨f0, f1, f2, f3, f4, hTyM⟩ := macTy
  have hw1 : ∀ n ∈ d1.weights Try.prog 27, n ≤ reachBytes := fun n hn => by have := List.all_eq_true.1 hsz n (DataW.weights_mem_each (j := 1) rfl rfl n hn); simpa using this
  obtain ⟨c1, mv1, rfl, hr1, hrb1, hfl1, ha1, he1, hN1, hwf1⟩ := readM hTyM (hval 1 27 v1 rfl rfl) h1 hw1
  obtain ⟨a2, rfl, rfl, rfl, w2⟩ := open_int Try.underlying3 (hval 2 3 v2 rfl rfl) h2
  have ba2 : -9223372036854775808 ≤ a2 ∧ a2 ≤ 9223372036854775807 := by simpa [Lit.wf, IntKind.min, IntKind.max, IntKind.signed, IntKind.bits] using w2
  refine (wTopTraces t0 c1 mv1 _ a2 W hN0 hN1 hr1 ha1 ba2).mono fun e W' ⟨he, hb⟩ => ?_
  subst he
  exact ⟨_, rfl, post_law (tb := 4) (by kernel_rfl) readable rfl Try.underlying4 rfl hW' rfl hb⟩
theorem over : Rows.topTracesRow.holds Try.pinned (OpenSpec.ofChange Rows.topTracesSpec) :=
  OpenClaim.holds_of_wide 3 Try.f3 rfl rfl rfl rfl rfl rfl rfl ⟨rfl, rfl, rfl, rfl, rfl⟩ rfl rfl rfl rfl rfl (by kernel_rfl) Try.func3 (by kernel_rfl)
    (of_decide_eq_true (by kernel_rfl)) (by unfold Func.isWrapper; rw [if_neg (by decide +kernel)]; exact ⟨rfl, rfl⟩)
    (fun os started H enc _ => lifted os started H enc)
theorem proved : Rows.TopTracesSaid := over
#print axioms proved
end Go.Proofs.Ytgcfadnnajahhaa.topTraces
