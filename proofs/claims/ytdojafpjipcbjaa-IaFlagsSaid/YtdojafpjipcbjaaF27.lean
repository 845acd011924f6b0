/- What the reading of an argument gives: a slice of integers, a list of nodes. -/
import Derived.Deep.Slices
import Derived.SizedLaws
import Derived.DataReads
import Derived.ChangeSlices
import Derived.OpenShut
import Derived.Test.YtdojafpjipcbjaaF1
import Derived.Test.YtdojafpjipcbjaaF13
import Derived.Test.YtdojafpjipcbjaaF14
import Derived.Test.YtdojafpjipcbjaaF26
namespace Go.Proofs.Ytdojafpjipcbjaa
open Go.RowKit Go.WideShapes Go.ChangeShapes Go.Deep
set_option linter.unusedVariables false
set_option linter.unusedSimpArgs false
section
variable {H : Type} {enc : TypeId × Value → H} {P : Program} {W : World} {base : Nat} {held : Bool}
/-- An integer's value fits its kind. -/
def FitsK (k : IntKind) (x : Int) : Prop := (Lit.int k x).wf = true
theorem weights_len {t e : TypeId} {elems spare : List (DataW H)} (ht : P.underlying t = some (.slice e)) (hb : 1 ≤ P.bytesOf e) (hw : ∀ n ∈ (DataW.slice elems spare).weights P t, n ≤ reachBytes) : elems.length + spare.length ≤ 140737488351232 := by
  have h := hw ((elems.length + spare.length) * P.bytesOf e) (by simp [DataW.weights, ht])
  have h2 : elems.length + spare.length ≤ (elems.length + spare.length) * P.bytesOf e := Nat.le_mul_of_pos_right _ hb
  unfold reachBytes at h
  omega
theorem readI {t e : TypeId} {k : IntKind} {fuel : Nat} {cs : List Value} {d : DataW H} {ps : List MemPlace} (ht : P.underlying t = some (.slice e)) (he : P.underlying e = some (.int k)) (hc : P.cellsOf e = 1) (hby : 1 ≤ P.bytesOf e)
    (h : DataW.trod enc P W base (fun _ => true) held fuel t cs = some (d, ps)) (hw : ∀ n ∈ d.weights P t, n ≤ reachBytes) : ∃ v xs, cs = [v] ∧ Ints k W v xs ∧ ∀ x ∈ xs, FitsK k x := by
  rcases open_ints ht he hc h with ⟨rfl, hx⟩ | ⟨a, len, cap, zs, rfl, hb, hl, hm, hz, hx, hcell, hwf⟩
  · exact ⟨_, [], rfl, ⟨none, 0, rfl, Nat.le_refl _, ⟨by simp, by omega⟩, fun _ => rfl, fun i hi => absurd hi (by simp)⟩, fun x hx => by cases hx⟩
  · simp only [if_true] at hz
    simp only [Prod.mk.injEq] at hx
    have hcap : cap ≤ 140737488351232 := by
      rw [hx.1] at hw
      have := weights_len ht hby hw
      simp [lits] at this
      omega
    have hlen : (zs.take len).length = len := by rw [List.length_take]; omega
    refine ⟨_, zs.take len, rfl, ⟨some a, cap, by rw [hlen], by omega, ⟨by omega, by unfold maxLen at hm; omega⟩, (fun hh => by cases hh), fun i hi => ?_⟩, fun x hx => hwf x (List.mem_of_mem_take hx)⟩
    rw [hlen] at hi
    have hc0 := hcell i (by omega)
    have hs := World.cell?_spot hc0
    obtain ⟨b, o, s⟩ := a
    have hsp : s = none := by
      by_cases e0 : i = 0
      · subst e0; exact World.cell?_spot (hcell 0 (by omega))
      · exact World.cell?_spot (hcell 0 (by omega))
    subst hsp
    have e1 : (⟨b, o, none⟩ : Addr).add i = ⟨b, o + i, none⟩ := by
      unfold Addr.add
      by_cases e0 : i = 0
      · rw [if_pos e0, e0]; rfl
      · rw [if_neg e0]
    rw [e1] at hc0
    refine ⟨b, o, rfl, cell_lt hc0, ?_⟩
    show W.cell? ⟨b, o + i * 1, none⟩ = _
    rw [Nat.mul_one, hc0, List.getD_eq_getElem?_getD, List.getD_eq_getElem?_getD, List.getElem?_take, if_pos hi]
theorem weights_mem {fs : Array Field} {t : TypeId} {parts : List (DataW H)} (ht : P.underlying t = some (.struct fs)) {i : Nat} {f : Field} {d : DataW H} (hf : fs[i]? = some f) (hd : parts[i]? = some d) {n : Nat} (hn : n ∈ d.weights P f.type) : n ∈ (DataW.agg parts).weights P t := by
  have h1 : (fs.toList.map (·.type))[i]? = some f.type := by rw [List.getElem?_map]; simp [hf]
  have := DataW.weights_mem_each h1 hd n hn
  simpa [DataW.weights, ht] using this
/-- The types of a node, told once. -/
structure NodeTy (P : Program) (e ei : TypeId) (f0 f1 f2 f3 f4 : Field) : Prop where
  st : P.underlying e = some (.struct #[f0, f1, f2, f3, f4])
  o : f0.offset = 0 ∧ f1.offset = 1 ∧ f2.offset = 2 ∧ f3.offset = 3 ∧ f4.offset = 4
  u0 : P.underlying f0.type = some (.int .i64)
  u1 : P.underlying f1.type = some (.int .i64)
  u2 : P.underlying f2.type = some (.int .i64)
  u3 : P.underlying f3.type = some (.slice ei)
  u4 : P.underlying f4.type = some (.int .u32)
  ui : P.underlying ei = some (.int .i64)
  c : P.cellsOf f0.type = 1 ∧ P.cellsOf f1.type = 1 ∧ P.cellsOf f2.type = 1 ∧ P.cellsOf f3.type = 1 ∧ P.cellsOf f4.type = 1 ∧ P.cellsOf ei = 1 ∧ P.cellsOf e = 5
  b : 1 ≤ P.bytesOf ei
theorem fits_i64 {x : Int} (h : FitsK .i64 x) : -9223372036854775808 ≤ x ∧ x ≤ 9223372036854775807 := by simpa [FitsK, Lit.wf, IntKind.min, IntKind.max, IntKind.signed, IntKind.bits] using h
end
end Go.Proofs.Ytdojafpjipcbjaa
namespace Go.Proofs.Ytdojafpjipcbjaa
open Go.RowKit Go.WideShapes Go.ChangeShapes Go.Deep
set_option linter.unusedVariables false
set_option linter.unusedSimpArgs false
theorem fits_u8 {x : Int} (h : FitsK .u8 x) : 0 ≤ x ∧ x < 256 := by
  have : 0 ≤ x ∧ x ≤ 255 := by simpa [FitsK, Lit.wf, IntKind.min, IntKind.max, IntKind.signed, IntKind.bits] using h
  omega
theorem fits_byt {l : List Int} (h : ∀ x ∈ l, FitsK .u8 x) : Byt l := byt_of fun b hb => fits_u8 (h b hb)
section
variable {H : Type} {enc : TypeId × Value → H} {P : Program} {W : World} {base : Nat} {held : Bool}
/-- The types of an instruction, told once. -/
structure InsTy (P : Program) (e : TypeId) (f0 f1 f2 f3 f4 : Field) : Prop where
  st : P.underlying e = some (.struct #[f0, f1, f2, f3, f4])
  o : f0.offset = 0 ∧ f1.offset = 1 ∧ f2.offset = 2 ∧ f3.offset = 3 ∧ f4.offset = 4
  u0 : P.underlying f0.type = some (.int .i64)
  u1 : P.underlying f1.type = some (.int .i64)
  u2 : P.underlying f2.type = some (.int .i64)
  u3 : P.underlying f3.type = some (.int .i64)
  u4 : P.underlying f4.type = some (.int .i64)
  c : P.cellsOf f0.type = 1 ∧ P.cellsOf f1.type = 1 ∧ P.cellsOf f2.type = 1 ∧ P.cellsOf f3.type = 1 ∧ P.cellsOf f4.type = 1 ∧ P.cellsOf e = 5
end
end Go.Proofs.Ytdojafpjipcbjaa
namespace Go.Proofs.Ytdojafpjipcbjaa
open Go.RowKit Go.WideShapes Go.ChangeShapes Go.Deep
set_option linter.unusedVariables false
set_option linter.unusedSimpArgs false
section
variable {H : Type} {enc : TypeId × Value → H} {P : Program} {W : World} {base : Nat} {held : Bool}
theorem one_get {α : Type} {l : List α} {k : Nat} {v : α} (h : (l.drop k).take 1 = [v]) : l[k]? = some v := by
  have := congrArg (fun l : List α => l[0]?) h
  simpa [List.getElem?_take, List.getElem?_drop] using this
/-- The types of a machine, told once. -/
structure MacTy (P : Program) (e er eb : TypeId) (f0 f1 f2 f3 f4 : Field) : Prop where
  st : P.underlying e = some (.struct #[f0, f1, f2, f3, f4])
  o : f0.offset = 0 ∧ f1.offset = 32 ∧ f2.offset = 33 ∧ f3.offset = 34 ∧ f4.offset = 35
  u0 : P.underlying f0.type = some (.array 32 er)
  ur : P.underlying er = some (.int .u32)
  u1 : P.underlying f1.type = some (.int .i64)
  u2 : P.underlying f2.type = some (.int .u32)
  u3 : P.underlying f3.type = some (.slice eb)
  ub : P.underlying eb = some (.int .u8)
  u4 : P.underlying f4.type = some (.int .i64)
  c : P.cellsOf f0.type = 32 ∧ P.cellsOf f1.type = 1 ∧ P.cellsOf f2.type = 1 ∧ P.cellsOf f3.type = 1 ∧ P.cellsOf f4.type = 1 ∧ P.cellsOf e = 36
  ce : P.cellsOf er = 1 ∧ P.cellsOf eb = 1
  b : 1 ≤ P.bytesOf eb
theorem fits_u32' {x : Int} (h : (Lit.int .u32 x).wf = true) : 0 ≤ x ∧ x < 4294967296 := by
  have := bounds_u32 h
  omega
theorem readM {e er eb : TypeId} {f0 f1 f2 f3 f4 : Field} (T : MacTy P e er eb f0 f1 f2 f3 f4) {r : Reach} {b0 : Nat} {v : Value} {d : DataW H} {p : List MemPlace} (hv : Value.okWide P W r b0 e v) (h : DataW.Trod enc P W base (fun _ => true) held e v d p) (hw : ∀ n ∈ d.weights P e, n ≤ reachBytes) :
    ∃ (c : Mac) (mv : Value), v = .agg (macC c mv).toArray ∧ c.r.length = 32 ∧ (∀ k, 0 ≤ c.r.getD k 0 ∧ c.r.getD k 0 < 4294967296) ∧ I64 c.f ∧ (0 ≤ c.a ∧ c.a < 4294967296) ∧ I64 c.e ∧ Ints .u8 W mv c.m ∧ Byt c.m := by
  obtain ⟨cs, rfl, hsz⟩ := okWide_struct T.st hv
  obtain ⟨fuel, hf⟩ := h
  obtain ⟨l⟩ := cs
  have hf1 : DataW.trod enc P W base (fun _ => true) held fuel e l = some (d, p) := hf
  obtain ⟨o0, o1, o2, o3, o4⟩ := T.o
  obtain ⟨k0, k1, k2, k3, k4, ke⟩ := T.c
  obtain ⟨kr, kb⟩ := T.ce
  have hl : l.length = 36 := by rw [← ke]; simpa using hsz
  obtain ⟨xs, n, _, hx, _, hn, hg⟩ := DataW.trod_struct T.st hf1
  match xs, hn with
  | [y0, y1, y2, y3, y4], _ =>
  have g0 := hg 0 f0 rfl
  have g1 := hg 1 f1 rfl
  have g2 := hg 2 f2 rfl
  have g3 := hg 3 f3 rfl
  have g4 := hg 4 f4 rfl
  rw [o0, k0] at g0
  rw [o1, k1] at g1
  rw [o2, k2] at g2
  rw [o3, k3] at g3
  rw [o4, k4] at g4
  obtain ⟨ys, m, _, _, _, hy, hr⟩ := DataW.trod_array T.u0 (show DataW.trod enc P W base (fun _ => true) held n f0.type ((l.drop 0).take 32) = some y0 from g0)
  obtain ⟨n1, a1, _, w1⟩ := DataW.trod_int T.u1 (show DataW.trod enc P W base (fun _ => true) held n f1.type ((l.drop 32).take 1) = some y1 from g1)
  obtain ⟨n2, a2, _, w2⟩ := DataW.trod_int T.u2 (show DataW.trod enc P W base (fun _ => true) held n f2.type ((l.drop 33).take 1) = some y2 from g2)
  obtain ⟨n4, a4, _, w4⟩ := DataW.trod_int T.u4 (show DataW.trod enc P W base (fun _ => true) held n f4.type ((l.drop 35).take 1) = some y4 from g4)
  obtain ⟨d3, p3⟩ := y3
  simp only [Prod.mk.injEq] at hx
  have hw3 : ∀ n ∈ d3.weights P f3.type, n ≤ reachBytes := fun n hn => hw n (by rw [hx.1]; exact weights_mem T.st (i := 3) (f := f3) rfl rfl hn)
  obtain ⟨mv, ms, a3, hi3, hwf3⟩ := readI T.u3 T.ub kb T.b (show DataW.trod enc P W base (fun _ => true) held n f3.type ((l.drop 34).take 1) = some (d3, p3) from g3) hw3
  obtain ⟨V, hV⟩ := choose_lt (α := Int) (n := 32) (p := fun i x => l[i]? = some (.int .u32 x) ∧ (Lit.int .u32 x).wf = true) (fun i hi => by
    have hri := hr i hi
    rw [kr] at hri
    obtain ⟨y, hy⟩ : ∃ y, ys[i]? = some y := ⟨_, List.getElem?_eq_getElem (by omega)⟩
    rw [hy] at hri
    obtain ⟨z, az, _, wz⟩ := DataW.trod_int T.ur hri
    have := one_get az
    rw [List.getElem?_take, if_pos (by omega)] at this
    simp only [Nat.mul_one] at this
    exact ⟨z, by simpa using this, wz⟩)
  have hml : ((List.range 32).map V).length = 32 := by simp
  refine ⟨⟨(List.range 32).map V, n1, n2, ms, n4⟩, mv, ?_, hml, fun k => ?_, fits_i64 w1, fits_u32' w2, fits_i64 w4, hi3, fits_byt hwf3⟩
  · refine congrArg (fun l : List Value => Value.agg l.toArray) (List.ext_getElem? fun i => ?_)
    show l[i]? = (((List.range 32).map V).map (Value.int .u32) ++ [.int .i64 n1, .int .u32 n2, mv, .int .i64 n4])[i]?
    by_cases hi : i < 32
    · rw [(hV i hi).1, List.getElem?_append_left (by simpa using hi), List.getElem?_map, List.getElem?_map, List.getElem?_range hi]
      rfl
    · rw [List.getElem?_append_right (by simpa using hi)]
      simp only [List.length_map, List.length_range]
      by_cases h1 : i = 32
      · subst h1; exact one_get a1
      by_cases h2 : i = 33
      · subst h2; exact one_get a2
      by_cases h3 : i = 34
      · subst h3; exact one_get a3
      by_cases h4 : i = 35
      · subst h4; exact one_get a4
      rw [List.getElem?_eq_none (by omega), List.getElem?_eq_none (by simp; omega)]
  · show 0 ≤ ((List.range 32).map V).getD k 0 ∧ _
    by_cases hk : k < 32
    · rw [List.getD_eq_getElem?_getD, List.getElem?_map, List.getElem?_range hk]
      exact fits_u32' (hV k hk).2
    · rw [List.getD_eq_getElem?_getD, List.getElem?_eq_none (by simp; omega)]
      exact ⟨by decide, by decide⟩
end
end Go.Proofs.Ytdojafpjipcbjaa
