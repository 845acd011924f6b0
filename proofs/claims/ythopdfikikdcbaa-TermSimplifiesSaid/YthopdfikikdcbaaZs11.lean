/- Walk of the builder's simple, where not all Args are constants. -/
import Derived.Deep.RegionLaw
import Derived.Deep.AppendLies
import Derived.Deep.DeepMust
import Derived.Test.YthopdfikikdcbaaRows
import Derived.WalkKit
import Derived.ProofKit
import Derived.OpenShut
import Derived.Below
import Derived.ChangeSame
import Derived.Lib.SmallJoins
import Derived.Test.YthopdfikikdcbaaZs7
import Derived.Test.YthopdfikikdcbaaZs10
namespace Go.Proofs.Ythopdfikikdcbaa
open Go.RowKit Go.Maps Wd
set_option linter.unusedVariables false
set_option linter.unusedSimpArgs false
def SmPost (bb : Nat) (o : List Nd) (T : Nat → Prop) (w : World) (av : Value) (t : Tr) (e : Ending) (w' : World) : Prop :=
  e = .returned (.int .i64 ((insT t o).2 : Int)) ∧ ∃ T', Bld bb (insT t o).1 T' w' ∧ (∀ b, T' b → T b ∨ w.heap.size ≤ b ∨ av.ownBlock = some b) ∧ Chg T w w'
section
variable {bb : Nat} {o : List Nd} {T : Nat → Prop} {w w1 w' : World} {av : Value} {t : Tr}
theorem smp_old {r : Nat} (hB : Bld bb o T w) (ho : Good o) (hr : r < o.length) (ht : t = tree o r) (hb : Below w.heap.size w w') : SmPost bb o T w av t (.returned (.int .i64 (r : Int))) w' := by
  subst ht
  refine ⟨by rw [ins_there ho r hr], T, by rw [ins_there ho r hr]; exact hB.next hb, fun b h => .inl h, Chg.of_below hb⟩
theorem smp_cst {wd n : Int} (ht : t = cst wd n) (hb : Below w.heap.size w w1) (hp : ∃ T', Bld bb (addN o ⟨0, wd, 0, [], n⟩).1 T' w' ∧ (∀ b, T' b → T b ∨ w1.heap.size ≤ b) ∧ Chg T w1 w') : SmPost bb o T w av t (.returned (.int .i64 ((addN o ⟨0, wd, 0, [], n⟩).2 : Int))) w' := by
  subst ht
  obtain ⟨T', p1, p2, p3⟩ := hp
  have hs := hb.size
  refine ⟨by rw [insT_cst], T', by rw [insT_cst]; exact p1, fun b hb => ?_, (Chg.of_below hb).trans p3 (fun _ _ h => h)⟩
  rcases p2 b hb with h | h
  · exact .inl h
  · exact .inr (.inl (by omega))
theorem smp_add {y : Nd} (ho : Good o) (hy : ∀ a ∈ y.args, 0 ≤ a ∧ a < (o.length : Int)) (ht : t = .mk y.op y.width y.flags (y.args.map fun a => tree o a.toNat) y.imm) (hb : Below w.heap.size w w1)
    (hp : ∃ T', Bld bb (stepA o y).1 T' w' ∧ (∀ b, T' b → T b ∨ w1.heap.size ≤ b ∨ av.ownBlock = some b) ∧ Chg T w1 w') : SmPost bb o T w av t (.returned (.int .i64 (stepA o y).2)) w' := by
  subst ht
  obtain ⟨T', p1, p2, p3⟩ := hp
  have hs := hb.size
  have e := insT_add (op := y.op) (w := y.width) (f := y.flags) (i := y.imm) ho hy
  refine ⟨by rw [e]; rfl, T', by rw [e]; exact p1, fun b hb => ?_, (Chg.of_below hb).trans p3 (fun _ _ h => h)⟩
  rcases p2 b hb with h | h | h
  · exact .inl h
  · exact .inr (.inl (by omega))
  · exact .inr (.inr h)
theorem smp_id {s : Tr} (hb : Below w.heap.size w w1) (hs : s = t) (hp : ∃ T', Bld bb (insT t o).1 T' w' ∧ (∀ b, T' b → T b ∨ w1.heap.size ≤ b) ∧ Chg T w1 w') : SmPost bb o T w av s (.returned (.int .i64 ((insT t o).2 : Int))) w' := by
  subst hs
  obtain ⟨T', p1, p2, p3⟩ := hp
  have hs := hb.size
  refine ⟨rfl, T', p1, fun b hb => ?_, (Chg.of_below hb).trans p3 (fun _ _ h => h)⟩
  rcases p2 b hb with h | h
  · exact .inl h
  · exact .inr (.inl (by omega))
end
/-- Whether the first j Args are constants. -/
def allC (o : List Nd) (args : List Int) (j : Nat) : Bool := decide (0 < args.length) && (args.take j).all fun a => (nd o a.toNat).op == 0
theorem allC_next {o : List Nd} {args : List Int} {j : Nat} (h : j < args.length) : allC o args (j + 1) = (allC o args j && ((nd o (args.getD j 0).toNat).op == 0)) := by
  unfold allC
  rw [List.take_succ_eq_append_getElem h, List.all_append, List.getD_eq_getElem?_getD, List.getElem?_eq_getElem h, Bool.and_assoc]
  simp
theorem allC_all {o : List Nd} (ho : Good o) {args : List Int} (hr : ∀ a ∈ args, 0 ≤ a ∧ a < (o.length : Int)) : (allC o args args.length = true) ↔ ((args.map fun a => tree o a.toNat) ≠ [] ∧ ∀ t ∈ args.map fun a => tree o a.toNat, t.op = 0) := by
  have hop : ∀ a ∈ args, (tree o a.toNat).op = (nd o a.toNat).op := fun a ha => by
    have := hr a ha
    rw [tree_eq ho.down (by omega)]; rfl
  unfold allC
  rw [List.take_length, Bool.and_eq_true, decide_eq_true_eq, List.all_eq_true]
  constructor
  · rintro ⟨h1, h2⟩
    refine ⟨fun e => ?_, fun t ht => ?_⟩
    · have := congrArg List.length e
      simp at this; subst this; simp at h1
    · obtain ⟨a, ha, rfl⟩ := List.mem_map.1 ht
      rw [hop a ha]; simpa using h2 a ha
  · rintro ⟨h1, h2⟩
    refine ⟨?_, fun a ha => ?_⟩
    · rcases Nat.eq_zero_or_pos args.length with h | h
      · exact absurd (by rw [List.length_eq_zero_iff.1 h]; rfl) h1
      · exact h
    · have := h2 _ (List.mem_map.2 ⟨a, ha, rfl⟩)
      rw [hop a ha] at this; simpa using this
section
variable {op w f i : Int} {l : List Tr}
theorem sg_pick (hn : ¬ (l ≠ [] ∧ ∀ t ∈ l, t.op = 0)) (ho : op = 15) (h0 : (l.getD 0 default).op = 0) {n : Int} (hi : (l.getD 0 default).imm = n) : simG op w f l i = l.getD (2 - n).toNat default := by
  unfold simG
  rw [if_neg hn, if_pos ⟨ho, h0⟩, hi]
theorem sg_same (hn : ¬ (l ≠ [] ∧ ∀ t ∈ l, t.op = 0)) (ho : op = 15) (h0 : ¬ (l.getD 0 default).op = 0) (e : l.getD 1 default = l.getD 2 default) : simG op w f l i = l.getD 1 default := by
  unfold simG
  rw [if_neg hn, if_neg (fun h => h0 h.2), if_pos ⟨ho, e⟩]
theorem sg_sel (hn : ¬ (l ≠ [] ∧ ∀ t ∈ l, t.op = 0)) (ho : op = 15) (h0 : ¬ (l.getD 0 default).op = 0) (e : ¬ l.getD 1 default = l.getD 2 default) : simG op w f l i = .mk op w f l i := by
  unfold simG
  rw [if_neg hn, if_neg (fun h => h0 h.2), if_neg (fun h => e h.2), if_neg (by omega), if_neg (by omega)]
theorem sg_cmp (hn : ¬ (l ≠ [] ∧ ∀ t ∈ l, t.op = 0)) (ho : op = 14) (e : l.getD 0 default = l.getD 1 default) {b : Bool} (hb : coX i 1 0 0 = b) : simG op w f l i = cst w (if b = true then 1 else 0) := by
  unfold simG
  rw [if_neg hn, if_neg (by omega), if_neg (by omega), if_pos ⟨ho, e⟩, hb]
theorem sg_cmp2 (hn : ¬ (l ≠ [] ∧ ∀ t ∈ l, t.op = 0)) (ho : op = 14) (e : ¬ l.getD 0 default = l.getD 1 default) : simG op w f l i = .mk op w f l i := by
  unfold simG
  rw [if_neg hn, if_neg (by omega), if_neg (by omega), if_neg (fun h => e h.2), if_neg (by omega)]
theorem sg_id (hn : ¬ (l ≠ [] ∧ ∀ t ∈ l, t.op = 0)) (ho : 1 ≤ op ∧ op ≤ 13) {p q : Tr} (hp : l.getD 0 default = p) (hq : l.getD 1 default = q) {r : Option Tr} (h : idG op w p q = r) : simG op w f l i = r.getD (.mk op w f l i) := by
  unfold simG
  rw [if_neg hn, if_neg (by omega), if_neg (by omega), if_neg (by omega), if_pos ho, hp, hq, h]
end
theorem ident_op {bb b2 b3 : Nat} {o : List Nd} {T : Nat → Prop} {w : World} {op wd flags imm : Int} {p q : Nat} {aa : Option Addr} {ac : Nat} (ho : 1 ≤ op ∧ op ≤ 13) (h : Bld bb o T w) (hg : Good o) (hpl : p < o.length) (hql : q < o.length) (hl : o.length ≤ 2000) (hav : Ints .i64 w (.slice aa 2 ac) [(p : Int), (q : Int)]) (h2 : w.cell? ⟨b2, 0, none⟩ = some (.pointer (some ⟨bb, 0, none⟩))) (h3 : w.cell? ⟨b3, 1, none⟩ = some (.int .i64 wd)) (hw : Sml wd) :
    Calls Try.prog 100 #[.pointer (some ⟨bb, 0, none⟩), .agg #[.int .i64 op, .int .i64 wd, .int .i64 flags, .slice aa 2 ac, .int .u32 imm], .func (.func 98) #[] #[.pointer (some ⟨b2, 0, none⟩), .pointer (some ⟨b3, 0, none⟩)]] w (IdPost bb o T w op wd p q) := by
  have hc : op = 1 ∨ op = 2 ∨ op = 3 ∨ op = 4 ∨ op = 5 ∨ op = 6 ∨ op = 7 ∨ op = 8 ∨ op = 9 ∨ op = 10 ∨ op = 11 ∨ op = 12 ∨ op = 13 := by omega
  rcases hc with rfl | rfl | rfl | rfl | rfl | rfl | rfl | rfl | rfl | rfl | rfl | rfl | rfl
  · exact ident_1 h hg hpl hql hl hav h2 h3 hw
  · exact ident_2 h hg hpl hql hl hav h2 h3 hw
  · exact ident_3 h hg hpl hql hl hav h2 h3 hw
  · exact ident_4 h hg hpl hql hl hav h2 h3 hw
  · exact ident_5 h hg hpl hql hl hav h2 h3 hw
  · exact ident_6 h hg hpl hql hl hav h2 h3 hw
  · exact ident_7 h hg hpl hql hl hav h2 h3 hw
  · exact ident_8 h hg hpl hql hl hav h2 h3 hw
  · exact ident_9 h hg hpl hql hl hav h2 h3 hw
  · exact ident_10 h hg hpl hql hl hav h2 h3 hw
  · exact ident_11 h hg hpl hql hl hav h2 h3 hw
  · exact ident_12 h hg hpl hql hl hav h2 h3 hw
  · exact ident_13 h hg hpl hql hl hav h2 h3 hw
set_option maxRecDepth 100000 in
set_option maxHeartbeats 4000000 in
theorem simple_other (bb : Nat) (o : List Nd) (T : Nat → Prop) (op wd flags imm : Int) (args : List Int) (aa : Option Addr) (ac : Nat) (w : World) (h : Bld bb o T w) (hg : Good o) (hr : ∀ a ∈ args, 0 ≤ a ∧ a < (o.length : Int)) (hpre : Pre op wd flags imm (args.map fun a => tree o a.toNat)) (hF : IntsF w (.slice aa args.length ac) args) (hav : ∀ b, (Value.slice aa args.length ac).ownBlock = some b → ¬ T b ∧ b < w.heap.size) (hx : NdK ⟨op, wd, flags, args, imm⟩) (hl : o.length ≤ 2000) (hnot : ¬ ((args.map fun a => tree o a.toNat) ≠ [] ∧ ∀ t ∈ args.map fun a => tree o a.toNat, t.op = 0)) (ho : op = 0 ∨ op = 33 ∨ 16 ≤ op) :
    Calls Try.prog 72 #[.pointer (some ⟨bb, 0, none⟩), .agg #[.int .i64 op, .int .i64 wd, .int .i64 flags, .slice aa args.length ac, .int .u32 imm]] w (SmPost bb o T w (.slice aa args.length ac) (simG op wd flags (args.map fun a => tree o a.toNat) imm)) := by
  have HBL := Lib.hid h
  have HGD := Lib.hid hg
  have HRG := Lib.hid hr
  have HPR := Lib.hid hpre
  have HFF := Lib.hid hF
  have HAV := Lib.hid hav
  have HXK := Lib.hid hx
  have hn3 : args.length ≤ 3 := hx.len
  have him := hx.imm
  simp only at him
  have hwdt := hx.width
  have hbbl : bb < w.heap.size := by
    obtain ⟨W, R, nv, fv, avs, hT, hb⟩ := h
    exact hb.Wlt bb hb.Wb
  have HROWA := Lib.hid (fun h0 => hF.ints.row h0)
  have HNU : Hid (∀ W, Below w.heap.size w W → ∀ r : Nat, r < o.length → Calls Try.prog 99 #[.pointer (some ⟨bb, 0, none⟩), .int .i64 (r : Int)] W fun e w' => e = .returned (.tuple #[.int .u32 (nd o r).imm, .bool ((nd o r).op == 0)]) ∧ Below W.heap.size W w') := fun W hW r hr => number_any bb o T W r (h.next hW) hr (by omega)
  have HADD : Hid (∀ W, Below w.heap.size w W → Calls Try.prog 67 #[.pointer (some ⟨bb, 0, none⟩), .agg #[.int .i64 op, .int .i64 wd, .int .i64 flags, .slice aa args.length ac, .int .u32 imm]] W fun e w' => e = .returned (.int .i64 (stepA o ⟨op, wd, flags, args, imm⟩).2) ∧
      ∃ T', Bld bb (stepA o ⟨op, wd, flags, args, imm⟩).1 T' w' ∧ (∀ b, T' b → T b ∨ W.heap.size ≤ b ∨ (Value.slice aa args.length ac).ownBlock = some b) ∧ Chg T W w') := fun W hW =>
    add_any bb o T ⟨op, wd, flags, args, imm⟩ (.slice aa args.length ac) W (h.next hW) hx (hF.below hW) (fun b hb => ⟨(hav b hb).1, by have := (hav b hb).2; have := hW.size; omega⟩) (by omega)
  have hbx : Below w.heap.size w ((w.alloc (.cells #[.pointer (some ⟨bb, 0, none⟩)] 103)).alloc (.cells #[.int .i64 op, .int .i64 wd, .int .i64 flags, .slice aa args.length ac, .int .u32 imm] 47)) := ((Below.refl _ _).alloc (Nat.le_refl _) _).alloc (by simp) _
  have HBX := Lib.hid hbx
  have HCN : Hid (∀ W, Below ((w.alloc (.cells #[.pointer (some ⟨bb, 0, none⟩)] 103)).alloc (.cells #[.int .i64 op, .int .i64 wd, .int .i64 flags, .slice aa args.length ac, .int .u32 imm] 47)).heap.size ((w.alloc (.cells #[.pointer (some ⟨bb, 0, none⟩)] 103)).alloc (.cells #[.int .i64 op, .int .i64 wd, .int .i64 flags, .slice aa args.length ac, .int .u32 imm] 47)) W → ∀ n : Int, 0 ≤ n ∧ n ≤ 4294967295 → Calls Try.prog 98 #[.int .u32 n, .pointer (some ⟨w.heap.size, 0, none⟩), .pointer (some ⟨w.heap.size + 1, 0, none⟩)] W fun e w' => e = .returned (.int .i64 ((addN o ⟨0, wd, 0, [], n⟩).2 : Int)) ∧
      ∃ T', Bld bb (addN o ⟨0, wd, 0, [], n⟩).1 T' w' ∧ (∀ b, T' b → T b ∨ W.heap.size ≤ b) ∧ Chg T W w') := fun W hW n hn => const_any bb w.heap.size (w.heap.size + 1) o T W wd n (h.next (hbx.trans (hW.mono (by simp; omega)))) (below_cell hW (by simp; omega) (by simp [go_sem])) (below_cell hW (by simp) (by simp [go_sem])) hwdt hn (by omega)
  have HHOP : Hid (∀ W, Below ((w.alloc (.cells #[.pointer (some ⟨bb, 0, none⟩)] 103)).alloc (.cells #[.int .i64 op, .int .i64 wd, .int .i64 flags, .slice aa args.length ac, .int .u32 imm] 47)).heap.size ((w.alloc (.cells #[.pointer (some ⟨bb, 0, none⟩)] 103)).alloc (.cells #[.int .i64 op, .int .i64 wd, .int .i64 flags, .slice aa args.length ac, .int .u32 imm] 47)) W → Below w.heap.size w W) := fun W hW => hbx.trans (hW.mono (by simp; omega))
  clear h hg hr hpre hF hav hx hbx hwdt
  go_enter Try.func72, Try.ntmps72
  go_wp2_with fail
  go_loopw [6, 30] (fun bv iv wx => ∃ j : Nat, iv = .int .i64 j ∧ j ≤ args.length ∧ bv = .bool (allC o args j) ∧ Below ((w.alloc (.cells #[.pointer (some ⟨bb, 0, none⟩)] 103)).alloc (.cells #[.int .i64 op, .int .i64 wd, .int .i64 flags, .slice aa args.length ac, .int .u32 imm] 47)).heap.size ((w.alloc (.cells #[.pointer (some ⟨bb, 0, none⟩)] 103)).alloc (.cells #[.int .i64 op, .int .i64 wd, .int .i64 flags, .slice aa args.length ac, .int .u32 imm] 47)) wx) (fun _ iv _ => args.length - (intOf iv).toNat)
  case atStart => exact ⟨0, rfl, Nat.zero_le _, by unfold allC; simp, Below.refl _ _⟩
  case round =>
    obtain ⟨j, rfl, hj, rfl, hb⟩ := hrel
    have hbs := hb.size
    simp only [World.size_alloc] at hbs
    have x0 := below_cell hb (b := w.heap.size + 1) (o := 0) (v := .int .i64 op) (by simp) (by simp [go_sem])
    have x1 := below_cell hb (b := w.heap.size + 1) (o := 1) (v := .int .i64 wd) (by simp) (by simp [go_sem])
    have x2 := below_cell hb (b := w.heap.size + 1) (o := 2) (v := .int .i64 flags) (by simp) (by simp [go_sem])
    have x3 := below_cell hb (b := w.heap.size + 1) (o := 3) (v := .slice aa args.length ac) (by simp) (by simp [go_sem])
    have x4 := below_cell hb (b := w.heap.size + 1) (o := 4) (v := .int .u32 imm) (by simp) (by simp [go_sem])
    have z0 := below_cell hb (b := w.heap.size) (o := 0) (v := .pointer (some ⟨bb, 0, none⟩)) (by simp; omega) (by simp [go_sem])
    have HBW := Lib.hid hb
    by_cases hlt : j < args.length
    · obtain ⟨ab, ao, rfl, hab, hcs⟩ := HROWA.out (by omega)
      have q1 := below_cell (HHOP.out wr HBW.out) hab (hcs j hlt)
      have hak := HRG.out (args.getD j 0) (mem_getD hlt)
      have HNX := Lib.hid (allC_next (o := o) hlt)
      clear hcs hb
      generalize args.getD j 0 = y at *
      obtain ⟨m, rfl⟩ := Int.eq_ofNat_of_zero_le hak.1
      have HNM := Lib.hid (HNU.out wr (HHOP.out wr HBW.out) m (by omega))
      rw [Int.toNat_natCast] at HNX
      generalize ((nd o m).op == 0) = ib at *
      generalize (nd o m).imm = im at *
      generalize hbj : allC o args j = bj at *
      clear hbj
      go_wp2_with fail
      refine HNM.out.mono ?_
      rintro e w5 ⟨rfl, hb5⟩
      have HB5 := Lib.hid (below_hop HBW.out hb5)
      clear hb5
      cases bj
      · go_wp2_with fail
        go_roundw
        case rel => exact ⟨j + 1, by go_num, by omega, by rw [HNX.out]; rfl, HB5.out⟩
        case measure => simp [intOf] <;> omega
      · go_wp2_with fail
        go_roundw
        case rel => exact ⟨j + 1, by go_num, by omega, by rw [HNX.out]; simp, HB5.out⟩
        case measure => simp [intOf] <;> omega
    · obtain rfl : j = args.length := by omega
      have hna : allC o args args.length = false := by
        rw [Bool.eq_false_iff]; exact fun h => hnot ((allC_all HGD.out HRG.out).1 h)
      rw [hna]
      have HNOT := Lib.hid hnot
      have HTL : Hid ((args.map fun a => tree o a.toNat).length = args.length) := by show _ = _; rw [List.length_map]
      have hfc := HPR.out.ok.facts.1
      rw [HTL.out] at hfc
      have hac := arV_cases op
      have HGT : Hid (∀ j, j < args.length → (args.map fun a => tree o a.toNat).getD j default = tree o (args.getD j 0).toNat) := fun j hj => by
        rw [List.getD_eq_getElem?_getD, List.getElem?_map, List.getElem?_eq_getElem hj, List.getD_eq_getElem?_getD, List.getElem?_eq_getElem hj]; rfl
      clear hna hnot hb
      have HSG : Hid (simG op wd flags (args.map fun a => tree o a.toNat) imm = .mk op wd flags (args.map fun a => tree o a.toNat) imm) := by
        show _ = _
        unfold simG
        rw [if_neg HNOT.out, if_neg (by omega), if_neg (by omega), if_neg (by omega), if_neg (by omega)]
      have h15 : (op == 15) = false := by simp; omega
      have h14 : (op == 14) = false := by simp; omega
      have h13 : (decide (1 ≤ op) && decide (op ≤ 13)) = false := by
        rw [Bool.and_eq_false_iff, decide_eq_false_iff_not, decide_eq_false_iff_not]; omega
      clear ho hac hfc
      rcases (show decide (1 ≤ op) = false ∨ (decide (1 ≤ op) = true ∧ decide (op ≤ 13) = false) by
        cases h1 : decide (1 ≤ op)
        · exact .inl rfl
        · rw [h1] at h13; exact .inr ⟨rfl, by simpa using h13⟩) with hA | ⟨hA, hBb⟩
      all_goals
        clear h13
        go_wp2_with fail
        go_quiet (fail)
        go_wp2_with fail
        refine (HADD.out _ (HHOP.out _ (below_drewN HBW.out _))).mono ?_
        rintro e w7 ⟨rfl, hp7⟩
        have HP7 := Lib.hid hp7
        clear hp7
        go_wp2_with fail
        go_ret
        exact smp_add HGD.out HRG.out HSG.out (HHOP.out _ (below_drewN HBW.out _)) HP7.out
set_option maxRecDepth 100000 in
set_option maxHeartbeats 4000000 in
theorem simple_sel (bb : Nat) (o : List Nd) (T : Nat → Prop) (wd flags imm : Int) (args : List Int) (aa : Option Addr) (ac : Nat) (w : World) (h : Bld bb o T w) (hg : Good o) (hr : ∀ a ∈ args, 0 ≤ a ∧ a < (o.length : Int)) (hpre : Pre 15 wd flags imm (args.map fun a => tree o a.toNat)) (hF : IntsF w (.slice aa args.length ac) args) (hav : ∀ b, (Value.slice aa args.length ac).ownBlock = some b → ¬ T b ∧ b < w.heap.size) (hx : NdK ⟨15, wd, flags, args, imm⟩) (hl : o.length ≤ 2000) (hnot : ¬ ((args.map fun a => tree o a.toNat) ≠ [] ∧ ∀ t ∈ args.map fun a => tree o a.toNat, t.op = 0))  :
    Calls Try.prog 72 #[.pointer (some ⟨bb, 0, none⟩), .agg #[.int .i64 15, .int .i64 wd, .int .i64 flags, .slice aa args.length ac, .int .u32 imm]] w (SmPost bb o T w (.slice aa args.length ac) (simG 15 wd flags (args.map fun a => tree o a.toNat) imm)) := by
  have HBL := Lib.hid h
  have HGD := Lib.hid hg
  have HRG := Lib.hid hr
  have HPR := Lib.hid hpre
  have HFF := Lib.hid hF
  have HAV := Lib.hid hav
  have HXK := Lib.hid hx
  have hn3 : args.length ≤ 3 := hx.len
  have him := hx.imm
  simp only at him
  have hwdt := hx.width
  have hbbl : bb < w.heap.size := by
    obtain ⟨W, R, nv, fv, avs, hT, hb⟩ := h
    exact hb.Wlt bb hb.Wb
  have HROWA := Lib.hid (fun h0 => hF.ints.row h0)
  have HNU : Hid (∀ W, Below w.heap.size w W → ∀ r : Nat, r < o.length → Calls Try.prog 99 #[.pointer (some ⟨bb, 0, none⟩), .int .i64 (r : Int)] W fun e w' => e = .returned (.tuple #[.int .u32 (nd o r).imm, .bool ((nd o r).op == 0)]) ∧ Below W.heap.size W w') := fun W hW r hr => number_any bb o T W r (h.next hW) hr (by omega)
  have HADD : Hid (∀ W, Below w.heap.size w W → Calls Try.prog 67 #[.pointer (some ⟨bb, 0, none⟩), .agg #[.int .i64 15, .int .i64 wd, .int .i64 flags, .slice aa args.length ac, .int .u32 imm]] W fun e w' => e = .returned (.int .i64 (stepA o ⟨15, wd, flags, args, imm⟩).2) ∧
      ∃ T', Bld bb (stepA o ⟨15, wd, flags, args, imm⟩).1 T' w' ∧ (∀ b, T' b → T b ∨ W.heap.size ≤ b ∨ (Value.slice aa args.length ac).ownBlock = some b) ∧ Chg T W w') := fun W hW =>
    add_any bb o T ⟨15, wd, flags, args, imm⟩ (.slice aa args.length ac) W (h.next hW) hx (hF.below hW) (fun b hb => ⟨(hav b hb).1, by have := (hav b hb).2; have := hW.size; omega⟩) (by omega)
  have hbx : Below w.heap.size w ((w.alloc (.cells #[.pointer (some ⟨bb, 0, none⟩)] 103)).alloc (.cells #[.int .i64 15, .int .i64 wd, .int .i64 flags, .slice aa args.length ac, .int .u32 imm] 47)) := ((Below.refl _ _).alloc (Nat.le_refl _) _).alloc (by simp) _
  have HBX := Lib.hid hbx
  have HCN : Hid (∀ W, Below ((w.alloc (.cells #[.pointer (some ⟨bb, 0, none⟩)] 103)).alloc (.cells #[.int .i64 15, .int .i64 wd, .int .i64 flags, .slice aa args.length ac, .int .u32 imm] 47)).heap.size ((w.alloc (.cells #[.pointer (some ⟨bb, 0, none⟩)] 103)).alloc (.cells #[.int .i64 15, .int .i64 wd, .int .i64 flags, .slice aa args.length ac, .int .u32 imm] 47)) W → ∀ n : Int, 0 ≤ n ∧ n ≤ 4294967295 → Calls Try.prog 98 #[.int .u32 n, .pointer (some ⟨w.heap.size, 0, none⟩), .pointer (some ⟨w.heap.size + 1, 0, none⟩)] W fun e w' => e = .returned (.int .i64 ((addN o ⟨0, wd, 0, [], n⟩).2 : Int)) ∧
      ∃ T', Bld bb (addN o ⟨0, wd, 0, [], n⟩).1 T' w' ∧ (∀ b, T' b → T b ∨ W.heap.size ≤ b) ∧ Chg T W w') := fun W hW n hn => const_any bb w.heap.size (w.heap.size + 1) o T W wd n (h.next (hbx.trans (hW.mono (by simp; omega)))) (below_cell hW (by simp; omega) (by simp [go_sem])) (below_cell hW (by simp) (by simp [go_sem])) hwdt hn (by omega)
  have HHOP : Hid (∀ W, Below ((w.alloc (.cells #[.pointer (some ⟨bb, 0, none⟩)] 103)).alloc (.cells #[.int .i64 15, .int .i64 wd, .int .i64 flags, .slice aa args.length ac, .int .u32 imm] 47)).heap.size ((w.alloc (.cells #[.pointer (some ⟨bb, 0, none⟩)] 103)).alloc (.cells #[.int .i64 15, .int .i64 wd, .int .i64 flags, .slice aa args.length ac, .int .u32 imm] 47)) W → Below w.heap.size w W) := fun W hW => hbx.trans (hW.mono (by simp; omega))
  clear h hg hr hpre hF hav hx hbx hwdt
  go_enter Try.func72, Try.ntmps72
  go_wp2_with fail
  go_loopw [6, 30] (fun bv iv wx => ∃ j : Nat, iv = .int .i64 j ∧ j ≤ args.length ∧ bv = .bool (allC o args j) ∧ Below ((w.alloc (.cells #[.pointer (some ⟨bb, 0, none⟩)] 103)).alloc (.cells #[.int .i64 15, .int .i64 wd, .int .i64 flags, .slice aa args.length ac, .int .u32 imm] 47)).heap.size ((w.alloc (.cells #[.pointer (some ⟨bb, 0, none⟩)] 103)).alloc (.cells #[.int .i64 15, .int .i64 wd, .int .i64 flags, .slice aa args.length ac, .int .u32 imm] 47)) wx) (fun _ iv _ => args.length - (intOf iv).toNat)
  case atStart => exact ⟨0, rfl, Nat.zero_le _, by unfold allC; simp, Below.refl _ _⟩
  case round =>
    obtain ⟨j, rfl, hj, rfl, hb⟩ := hrel
    have hbs := hb.size
    simp only [World.size_alloc] at hbs
    have x0 := below_cell hb (b := w.heap.size + 1) (o := 0) (v := .int .i64 15) (by simp) (by simp [go_sem])
    have x1 := below_cell hb (b := w.heap.size + 1) (o := 1) (v := .int .i64 wd) (by simp) (by simp [go_sem])
    have x2 := below_cell hb (b := w.heap.size + 1) (o := 2) (v := .int .i64 flags) (by simp) (by simp [go_sem])
    have x3 := below_cell hb (b := w.heap.size + 1) (o := 3) (v := .slice aa args.length ac) (by simp) (by simp [go_sem])
    have x4 := below_cell hb (b := w.heap.size + 1) (o := 4) (v := .int .u32 imm) (by simp) (by simp [go_sem])
    have z0 := below_cell hb (b := w.heap.size) (o := 0) (v := .pointer (some ⟨bb, 0, none⟩)) (by simp; omega) (by simp [go_sem])
    have HBW := Lib.hid hb
    by_cases hlt : j < args.length
    · obtain ⟨ab, ao, rfl, hab, hcs⟩ := HROWA.out (by omega)
      have q1 := below_cell (HHOP.out wr HBW.out) hab (hcs j hlt)
      have hak := HRG.out (args.getD j 0) (mem_getD hlt)
      have HNX := Lib.hid (allC_next (o := o) hlt)
      clear hcs hb
      generalize args.getD j 0 = y at *
      obtain ⟨m, rfl⟩ := Int.eq_ofNat_of_zero_le hak.1
      have HNM := Lib.hid (HNU.out wr (HHOP.out wr HBW.out) m (by omega))
      rw [Int.toNat_natCast] at HNX
      generalize ((nd o m).op == 0) = ib at *
      generalize (nd o m).imm = im at *
      generalize hbj : allC o args j = bj at *
      clear hbj
      go_wp2_with fail
      refine HNM.out.mono ?_
      rintro e w5 ⟨rfl, hb5⟩
      have HB5 := Lib.hid (below_hop HBW.out hb5)
      clear hb5
      cases bj
      · go_wp2_with fail
        go_roundw
        case rel => exact ⟨j + 1, by go_num, by omega, by rw [HNX.out]; rfl, HB5.out⟩
        case measure => simp [intOf] <;> omega
      · go_wp2_with fail
        go_roundw
        case rel => exact ⟨j + 1, by go_num, by omega, by rw [HNX.out]; simp, HB5.out⟩
        case measure => simp [intOf] <;> omega
    · obtain rfl : j = args.length := by omega
      have hna : allC o args args.length = false := by
        rw [Bool.eq_false_iff]; exact fun h => hnot ((allC_all HGD.out HRG.out).1 h)
      rw [hna]
      have HNOT := Lib.hid hnot
      have HTL : Hid ((args.map fun a => tree o a.toNat).length = args.length) := by show _ = _; rw [List.length_map]
      have hfc := HPR.out.ok.facts.1
      rw [HTL.out] at hfc
      have hac := arV_cases 15
      have HGT : Hid (∀ j, j < args.length → (args.map fun a => tree o a.toNat).getD j default = tree o (args.getD j 0).toNat) := fun j hj => by
        rw [List.getD_eq_getElem?_getD, List.getElem?_map, List.getElem?_eq_getElem hj, List.getD_eq_getElem?_getD, List.getElem?_eq_getElem hj]; rfl
      clear hna hnot hb
      have HLN : Hid (args.length = 3) := by
        show _ = _
        have e0 : arV 15 = 3 := rfl
        have e1 := arV_cases 15
        have e2 := HPR.out.len2
        rw [HTL.out] at e2
        have e3 := HPR.out.len3
        rw [HTL.out] at e3
        omega
      clear hac hfc
      obtain ⟨ab, ao, rfl, hab, hcs⟩ := HROWA.out (by have := HLN.out; omega)
      have q0 := below_cell (HHOP.out wr HBW.out) hab (hcs 0 (by have := HLN.out; omega))
      have b0 : (0 : Int) < (args.length : Int) := by have := HLN.out; omega
      have n0 : 0 < args.length := by have := HLN.out; omega
      have K0 := Lib.hid (HGT.out 0 (by have := HLN.out; omega))
      have k0 := HRG.out (args.getD 0 0) (mem_getD (by have := HLN.out; omega))
      have q1 := below_cell (HHOP.out wr HBW.out) hab (hcs 1 (by have := HLN.out; omega))
      have b1 : (1 : Int) < (args.length : Int) := by have := HLN.out; omega
      have n1 : 1 < args.length := by have := HLN.out; omega
      have K1 := Lib.hid (HGT.out 1 (by have := HLN.out; omega))
      have k1 := HRG.out (args.getD 1 0) (mem_getD (by have := HLN.out; omega))
      have q2 := below_cell (HHOP.out wr HBW.out) hab (hcs 2 (by have := HLN.out; omega))
      have b2 : (2 : Int) < (args.length : Int) := by have := HLN.out; omega
      have n2 : 2 < args.length := by have := HLN.out; omega
      have K2 := Lib.hid (HGT.out 2 (by have := HLN.out; omega))
      have k2 := HRG.out (args.getD 2 0) (mem_getD (by have := HLN.out; omega))
      clear hcs
      generalize args.getD 0 0 = y0 at *
      obtain ⟨m0, rfl⟩ := Int.eq_ofNat_of_zero_le k0.1
      rw [Int.toNat_natCast] at K0
      have L0 : Hid (m0 < o.length) := by show _ < _; omega
      clear k0
      generalize args.getD 1 0 = y1 at *
      obtain ⟨m1, rfl⟩ := Int.eq_ofNat_of_zero_le k1.1
      rw [Int.toNat_natCast] at K1
      have L1 : Hid (m1 < o.length) := by show _ < _; omega
      clear k1
      generalize args.getD 2 0 = y2 at *
      obtain ⟨m2, rfl⟩ := Int.eq_ofNat_of_zero_le k2.1
      rw [Int.toNat_natCast] at K2
      have L2 : Hid (m2 < o.length) := by show _ < _; omega
      clear k2
      have KP : (nd o m0).imm = (tree o m0).imm ∧ (nd o m0).op = (tree o m0).op := by rw [tree_eq HGD.out.down L0.out]; exact ⟨rfl, rfl⟩
      have HNM := Lib.hid (fun W hW => HNU.out W (HHOP.out W hW) m0 L0.out)
      obtain ⟨im, hm⟩ : ∃ m, (nd o m0).imm = m := ⟨_, rfl⟩
      obtain ⟨ib, hbb⟩ : ∃ b, ((nd o m0).op == 0) = b := ⟨_, rfl⟩
      have HI0 : Hid (((args.map fun a => tree o a.toNat).getD 0 default).imm = im) := by show _ = _; rw [K0.out, ← KP.1, hm]
      have HO0 : Hid (((args.map fun a => tree o a.toNat).getD 0 default).op = 0 ↔ ib = true) := by show _ ↔ _; rw [K0.out, ← KP.2, ← hbb]; simp
      have HTE : Hid (tree o m1 = tree o m2 → m1 = m2) := fun e => tree_inj HGD.out L1.out L2.out e
      rw [hm, hbb] at HNM
      clear hm hbb KP
      have r0 : ∀ wk, Since wr wk → wk.cell? ⟨w.heap.size, 0, none⟩ = some (.pointer (some ⟨bb, 0, none⟩)) := fun wk h => h.cell z0
      have r3 : ∀ wk, Since wr wk → wk.cell? ⟨w.heap.size + 1, 3, none⟩ = some (.slice (some ⟨ab, ao, none⟩) args.length ac) := fun wk h => h.cell x3
      have s0 : ∀ wk, Since wr wk → wk.cell? ⟨ab, ao + 0, none⟩ = some (.int .i64 (m0 : Int)) := fun wk h => h.cell q0
      have HX : Hid (∀ wk, Since wr wk → wk.cell? ⟨w.heap.size + 1, 0, none⟩ = some (.int .i64 15) ∧ wk.cell? ⟨w.heap.size + 1, 1, none⟩ = some (.int .i64 wd) ∧ wk.cell? ⟨w.heap.size + 1, 2, none⟩ = some (.int .i64 flags) ∧ wk.cell? ⟨w.heap.size + 1, 4, none⟩ = some (.int .u32 imm) ∧ wk.cell? ⟨ab, ao + 1, none⟩ = some (.int .i64 (m1 : Int)) ∧ wk.cell? ⟨ab, ao + 2, none⟩ = some (.int .i64 (m2 : Int))) := fun wk h => ⟨h.cell x0, h.cell x1, h.cell x2, h.cell x4, h.cell q1, h.cell q2⟩
      have HNS : Hid (∀ wk, Since wr wk → Calls Try.prog 99 #[.pointer (some ⟨bb, 0, none⟩), .int .i64 (m0 : Int)] wk fun e w' => e = .returned (.tuple #[.int .u32 im, .bool ib]) ∧ Below wk.heap.size wk w') := fun wk h => HNM.out wk (below_hop HBW.out h)
      have h00 := Since.refl wr
      clear q0 q1 q2 x1 x2 x4 HNM
      rw [Nat.add_zero] at s0
      go_wp2_with fail
      go_region_held3 (fun wk => Since wr wk) (first | assumption | exact Since.drew (by assumption) | exact Since.next (by assumption) (by assumption)) (first | (go_at_call 99; (with_reducible refine (HNS.out _ (by assumption)).mono ?_); rintro e w' ⟨rfl, hb⟩))
      clear h00
      have HS5 := Lib.hid (show Since wr _ by assumption)
      have z0' := r0 _ HS5.out
      have x3' := r3 _ HS5.out
      obtain ⟨x0', x1', x2', x4', q1', q2'⟩ := HX.out _ HS5.out
      have HB5 := Lib.hid (HHOP.out _ (below_hop HBW.out HS5.out))
      clear r0 r3 s0 x0 x3 z0
      cases ib
      · have HO : Hid (¬ ((args.map fun a => tree o a.toNat).getD 0 default).op = 0) := fun h => by have := HO0.out.1 h; cases this
        cases hpq : ((m1 : Int) == (m2 : Int))
        · have HSG := Lib.hid (sg_sel (op := 15) (w := wd) (f := flags) (i := imm) HNOT.out rfl HO.out (by rw [K1.out, K2.out]; intro e; have := HTE.out e; subst this; simp at hpq))
          go_wp2_with fail
          go_quiet (fail)
          go_wp2_with fail
          refine (HADD.out _ (below_drewN HB5.out _)).mono ?_
          rintro e w7 ⟨rfl, hp7⟩
          have HP7 := Lib.hid hp7
          clear hp7
          go_wp2_with fail
          go_ret
          exact smp_add HGD.out HRG.out HSG.out (below_drewN HB5.out _) HP7.out
        · have hm2 : m1 = m2 := by have : (m1 : Int) = (m2 : Int) := (by simpa using hpq); omega
          have HSG := Lib.hid (sg_same (op := 15) (w := wd) (f := flags) (i := imm) HNOT.out rfl HO.out (by rw [K1.out, K2.out, hm2]))
          clear hm2
          go_wp2_with fail
          go_quiet (fail)
          go_wp2_with fail
          go_ret
          exact smp_old HBL.out HGD.out L1.out (HSG.out.trans K1.out) (below_drewN HB5.out _)
      · have HO := Lib.hid (HO0.out.2 rfl)
        have hpk := (HPR.out.pick rfl HO.out).1
        rw [HI0.out] at hpk
        rcases hpk with rfl | rfl
        · have HSG := Lib.hid (sg_pick (op := 15) (w := wd) (f := flags) (i := imm) HNOT.out rfl HO.out HI0.out)
          go_wp2_with fail
          go_ret
          exact smp_old HBL.out HGD.out L2.out (HSG.out.trans K2.out) HB5.out
        · have HSG := Lib.hid (sg_pick (op := 15) (w := wd) (f := flags) (i := imm) HNOT.out rfl HO.out HI0.out)
          go_wp2_with fail
          go_ret
          exact smp_old HBL.out HGD.out L1.out (HSG.out.trans K1.out) HB5.out
set_option maxRecDepth 100000 in
set_option maxHeartbeats 4000000 in
theorem simple_cmp (bb : Nat) (o : List Nd) (T : Nat → Prop) (wd flags imm : Int) (args : List Int) (aa : Option Addr) (ac : Nat) (w : World) (h : Bld bb o T w) (hg : Good o) (hr : ∀ a ∈ args, 0 ≤ a ∧ a < (o.length : Int)) (hpre : Pre 14 wd flags imm (args.map fun a => tree o a.toNat)) (hF : IntsF w (.slice aa args.length ac) args) (hav : ∀ b, (Value.slice aa args.length ac).ownBlock = some b → ¬ T b ∧ b < w.heap.size) (hx : NdK ⟨14, wd, flags, args, imm⟩) (hl : o.length ≤ 2000) (hnot : ¬ ((args.map fun a => tree o a.toNat) ≠ [] ∧ ∀ t ∈ args.map fun a => tree o a.toNat, t.op = 0))  :
    Calls Try.prog 72 #[.pointer (some ⟨bb, 0, none⟩), .agg #[.int .i64 14, .int .i64 wd, .int .i64 flags, .slice aa args.length ac, .int .u32 imm]] w (SmPost bb o T w (.slice aa args.length ac) (simG 14 wd flags (args.map fun a => tree o a.toNat) imm)) := by
  have HBL := Lib.hid h
  have HGD := Lib.hid hg
  have HRG := Lib.hid hr
  have HPR := Lib.hid hpre
  have HFF := Lib.hid hF
  have HAV := Lib.hid hav
  have HXK := Lib.hid hx
  have hn3 : args.length ≤ 3 := hx.len
  have him := hx.imm
  simp only at him
  have hwdt := hx.width
  have hbbl : bb < w.heap.size := by
    obtain ⟨W, R, nv, fv, avs, hT, hb⟩ := h
    exact hb.Wlt bb hb.Wb
  have HROWA := Lib.hid (fun h0 => hF.ints.row h0)
  have HNU : Hid (∀ W, Below w.heap.size w W → ∀ r : Nat, r < o.length → Calls Try.prog 99 #[.pointer (some ⟨bb, 0, none⟩), .int .i64 (r : Int)] W fun e w' => e = .returned (.tuple #[.int .u32 (nd o r).imm, .bool ((nd o r).op == 0)]) ∧ Below W.heap.size W w') := fun W hW r hr => number_any bb o T W r (h.next hW) hr (by omega)
  have HADD : Hid (∀ W, Below w.heap.size w W → Calls Try.prog 67 #[.pointer (some ⟨bb, 0, none⟩), .agg #[.int .i64 14, .int .i64 wd, .int .i64 flags, .slice aa args.length ac, .int .u32 imm]] W fun e w' => e = .returned (.int .i64 (stepA o ⟨14, wd, flags, args, imm⟩).2) ∧
      ∃ T', Bld bb (stepA o ⟨14, wd, flags, args, imm⟩).1 T' w' ∧ (∀ b, T' b → T b ∨ W.heap.size ≤ b ∨ (Value.slice aa args.length ac).ownBlock = some b) ∧ Chg T W w') := fun W hW =>
    add_any bb o T ⟨14, wd, flags, args, imm⟩ (.slice aa args.length ac) W (h.next hW) hx (hF.below hW) (fun b hb => ⟨(hav b hb).1, by have := (hav b hb).2; have := hW.size; omega⟩) (by omega)
  have hbx : Below w.heap.size w ((w.alloc (.cells #[.pointer (some ⟨bb, 0, none⟩)] 103)).alloc (.cells #[.int .i64 14, .int .i64 wd, .int .i64 flags, .slice aa args.length ac, .int .u32 imm] 47)) := ((Below.refl _ _).alloc (Nat.le_refl _) _).alloc (by simp) _
  have HBX := Lib.hid hbx
  have HCN : Hid (∀ W, Below ((w.alloc (.cells #[.pointer (some ⟨bb, 0, none⟩)] 103)).alloc (.cells #[.int .i64 14, .int .i64 wd, .int .i64 flags, .slice aa args.length ac, .int .u32 imm] 47)).heap.size ((w.alloc (.cells #[.pointer (some ⟨bb, 0, none⟩)] 103)).alloc (.cells #[.int .i64 14, .int .i64 wd, .int .i64 flags, .slice aa args.length ac, .int .u32 imm] 47)) W → ∀ n : Int, 0 ≤ n ∧ n ≤ 4294967295 → Calls Try.prog 98 #[.int .u32 n, .pointer (some ⟨w.heap.size, 0, none⟩), .pointer (some ⟨w.heap.size + 1, 0, none⟩)] W fun e w' => e = .returned (.int .i64 ((addN o ⟨0, wd, 0, [], n⟩).2 : Int)) ∧
      ∃ T', Bld bb (addN o ⟨0, wd, 0, [], n⟩).1 T' w' ∧ (∀ b, T' b → T b ∨ W.heap.size ≤ b) ∧ Chg T W w') := fun W hW n hn => const_any bb w.heap.size (w.heap.size + 1) o T W wd n (h.next (hbx.trans (hW.mono (by simp; omega)))) (below_cell hW (by simp; omega) (by simp [go_sem])) (below_cell hW (by simp) (by simp [go_sem])) hwdt hn (by omega)
  have HHOP : Hid (∀ W, Below ((w.alloc (.cells #[.pointer (some ⟨bb, 0, none⟩)] 103)).alloc (.cells #[.int .i64 14, .int .i64 wd, .int .i64 flags, .slice aa args.length ac, .int .u32 imm] 47)).heap.size ((w.alloc (.cells #[.pointer (some ⟨bb, 0, none⟩)] 103)).alloc (.cells #[.int .i64 14, .int .i64 wd, .int .i64 flags, .slice aa args.length ac, .int .u32 imm] 47)) W → Below w.heap.size w W) := fun W hW => hbx.trans (hW.mono (by simp; omega))
  clear h hg hr hpre hF hav hx hbx hwdt
  go_enter Try.func72, Try.ntmps72
  go_wp2_with fail
  go_loopw [6, 30] (fun bv iv wx => ∃ j : Nat, iv = .int .i64 j ∧ j ≤ args.length ∧ bv = .bool (allC o args j) ∧ Below ((w.alloc (.cells #[.pointer (some ⟨bb, 0, none⟩)] 103)).alloc (.cells #[.int .i64 14, .int .i64 wd, .int .i64 flags, .slice aa args.length ac, .int .u32 imm] 47)).heap.size ((w.alloc (.cells #[.pointer (some ⟨bb, 0, none⟩)] 103)).alloc (.cells #[.int .i64 14, .int .i64 wd, .int .i64 flags, .slice aa args.length ac, .int .u32 imm] 47)) wx) (fun _ iv _ => args.length - (intOf iv).toNat)
  case atStart => exact ⟨0, rfl, Nat.zero_le _, by unfold allC; simp, Below.refl _ _⟩
  case round =>
    obtain ⟨j, rfl, hj, rfl, hb⟩ := hrel
    have hbs := hb.size
    simp only [World.size_alloc] at hbs
    have x0 := below_cell hb (b := w.heap.size + 1) (o := 0) (v := .int .i64 14) (by simp) (by simp [go_sem])
    have x1 := below_cell hb (b := w.heap.size + 1) (o := 1) (v := .int .i64 wd) (by simp) (by simp [go_sem])
    have x2 := below_cell hb (b := w.heap.size + 1) (o := 2) (v := .int .i64 flags) (by simp) (by simp [go_sem])
    have x3 := below_cell hb (b := w.heap.size + 1) (o := 3) (v := .slice aa args.length ac) (by simp) (by simp [go_sem])
    have x4 := below_cell hb (b := w.heap.size + 1) (o := 4) (v := .int .u32 imm) (by simp) (by simp [go_sem])
    have z0 := below_cell hb (b := w.heap.size) (o := 0) (v := .pointer (some ⟨bb, 0, none⟩)) (by simp; omega) (by simp [go_sem])
    have HBW := Lib.hid hb
    by_cases hlt : j < args.length
    · obtain ⟨ab, ao, rfl, hab, hcs⟩ := HROWA.out (by omega)
      have q1 := below_cell (HHOP.out wr HBW.out) hab (hcs j hlt)
      have hak := HRG.out (args.getD j 0) (mem_getD hlt)
      have HNX := Lib.hid (allC_next (o := o) hlt)
      clear hcs hb
      generalize args.getD j 0 = y at *
      obtain ⟨m, rfl⟩ := Int.eq_ofNat_of_zero_le hak.1
      have HNM := Lib.hid (HNU.out wr (HHOP.out wr HBW.out) m (by omega))
      rw [Int.toNat_natCast] at HNX
      generalize ((nd o m).op == 0) = ib at *
      generalize (nd o m).imm = im at *
      generalize hbj : allC o args j = bj at *
      clear hbj
      go_wp2_with fail
      refine HNM.out.mono ?_
      rintro e w5 ⟨rfl, hb5⟩
      have HB5 := Lib.hid (below_hop HBW.out hb5)
      clear hb5
      cases bj
      · go_wp2_with fail
        go_roundw
        case rel => exact ⟨j + 1, by go_num, by omega, by rw [HNX.out]; rfl, HB5.out⟩
        case measure => simp [intOf] <;> omega
      · go_wp2_with fail
        go_roundw
        case rel => exact ⟨j + 1, by go_num, by omega, by rw [HNX.out]; simp, HB5.out⟩
        case measure => simp [intOf] <;> omega
    · obtain rfl : j = args.length := by omega
      have hna : allC o args args.length = false := by
        rw [Bool.eq_false_iff]; exact fun h => hnot ((allC_all HGD.out HRG.out).1 h)
      rw [hna]
      have HNOT := Lib.hid hnot
      have HTL : Hid ((args.map fun a => tree o a.toNat).length = args.length) := by show _ = _; rw [List.length_map]
      have hfc := HPR.out.ok.facts.1
      rw [HTL.out] at hfc
      have hac := arV_cases 14
      have HGT : Hid (∀ j, j < args.length → (args.map fun a => tree o a.toNat).getD j default = tree o (args.getD j 0).toNat) := fun j hj => by
        rw [List.getD_eq_getElem?_getD, List.getElem?_map, List.getElem?_eq_getElem hj, List.getD_eq_getElem?_getD, List.getElem?_eq_getElem hj]; rfl
      clear hna hnot hb
      have HLN : Hid (args.length = 2) := by
        show _ = _
        have e0 : arV 15 = 3 := rfl
        have e1 := arV_cases 14
        have e2 := HPR.out.len2
        rw [HTL.out] at e2
        have e3 := HPR.out.len3
        rw [HTL.out] at e3
        omega
      clear hac hfc
      obtain ⟨ab, ao, rfl, hab, hcs⟩ := HROWA.out (by have := HLN.out; omega)
      have q0 := below_cell (HHOP.out wr HBW.out) hab (hcs 0 (by have := HLN.out; omega))
      have b0 : (0 : Int) < (args.length : Int) := by have := HLN.out; omega
      have n0 : 0 < args.length := by have := HLN.out; omega
      have K0 := Lib.hid (HGT.out 0 (by have := HLN.out; omega))
      have k0 := HRG.out (args.getD 0 0) (mem_getD (by have := HLN.out; omega))
      have q1 := below_cell (HHOP.out wr HBW.out) hab (hcs 1 (by have := HLN.out; omega))
      have b1 : (1 : Int) < (args.length : Int) := by have := HLN.out; omega
      have n1 : 1 < args.length := by have := HLN.out; omega
      have K1 := Lib.hid (HGT.out 1 (by have := HLN.out; omega))
      have k1 := HRG.out (args.getD 1 0) (mem_getD (by have := HLN.out; omega))
      have HA2 : Hid (args = [args.getD 0 0, args.getD 1 0]) := by
        show _ = _
        have := HLN.out
        match args, this with
        | [a, b], _ => rfl
      clear hcs
      generalize args.getD 0 0 = y0 at *
      obtain ⟨m0, rfl⟩ := Int.eq_ofNat_of_zero_le k0.1
      rw [Int.toNat_natCast] at K0
      have L0 : Hid (m0 < o.length) := by show _ < _; omega
      clear k0
      generalize args.getD 1 0 = y1 at *
      obtain ⟨m1, rfl⟩ := Int.eq_ofNat_of_zero_le k1.1
      rw [Int.toNat_natCast] at K1
      have L1 : Hid (m1 < o.length) := by show _ < _; omega
      clear k1
      have HTE : Hid (tree o m0 = tree o m1 → m0 = m1) := fun e => tree_inj HGD.out L0.out L1.out e
      have hw4 : IntKind.i64.wrap imm = imm := IntWalk.i64_in _ (by omega)
      have HC := Lib.hid (fun W => pCompare imm 1 0 0 (by omega) (by omega) (by omega) (by omega) W)
      obtain ⟨cb, HCB⟩ : ∃ b, Hid (coX imm 1 0 0 = b) := ⟨_, rfl⟩
      rw [HCB.out] at HC
      rw [Nat.add_zero] at q0
      cases hpq : ((m0 : Int) == (m1 : Int))
      · have HSG := Lib.hid (sg_cmp2 (op := 14) (w := wd) (f := flags) (i := imm) HNOT.out rfl (by rw [K0.out, K1.out]; intro e; have := HTE.out e; subst this; simp at hpq))
        go_wp2_with fail
        go_quiet (fail)
        go_wp2_with fail
        refine (HADD.out _ (HHOP.out _ (below_drewN HBW.out _))).mono ?_
        rintro e w7 ⟨rfl, hp7⟩
        have HP7 := Lib.hid hp7
        clear hp7
        go_wp2_with fail
        go_ret
        exact smp_add HGD.out HRG.out HSG.out (HHOP.out _ (below_drewN HBW.out _)) HP7.out
      · have hm2 : m0 = m1 := by have : (m0 : Int) = (m1 : Int) := (by simpa using hpq); omega
        have HSG := Lib.hid (sg_cmp (op := 14) (w := wd) (f := flags) (i := imm) HNOT.out rfl (by rw [K0.out, K1.out, hm2]) HCB.out)
        clear hm2
        go_wp2_with fail
        go_quiet (fail)
        have HBQ := Lib.hid (below_drewN HBW.out nq)
        go_wp2_with fail
        refine (HC.out _).mono ?_
        rintro e w7 ⟨rfl, hb7⟩
        have HB7 := Lib.hid (below_hop HBQ.out hb7)
        clear hb7
        cases cb
        · go_wp2_with fail
          refine (HCN.out _ HB7.out 0 (by omega)).mono ?_
          rintro e w8 ⟨rfl, hp8⟩
          have HP8 := Lib.hid hp8
          clear hp8
          go_wp2_with fail
          go_ret
          exact smp_cst HSG.out (HHOP.out _ HB7.out) HP8.out
        · go_wp2_with fail
          refine (HCN.out _ HB7.out 1 (by omega)).mono ?_
          rintro e w8 ⟨rfl, hp8⟩
          have HP8 := Lib.hid hp8
          clear hp8
          go_wp2_with fail
          go_ret
          exact smp_cst HSG.out (HHOP.out _ HB7.out) HP8.out
set_option maxRecDepth 100000 in
set_option maxHeartbeats 4000000 in
theorem simple_ari (bb : Nat) (o : List Nd) (T : Nat → Prop) (op wd flags imm : Int) (args : List Int) (aa : Option Addr) (ac : Nat) (w : World) (h : Bld bb o T w) (hg : Good o) (hr : ∀ a ∈ args, 0 ≤ a ∧ a < (o.length : Int)) (hpre : Pre op wd flags imm (args.map fun a => tree o a.toNat)) (hF : IntsF w (.slice aa args.length ac) args) (hav : ∀ b, (Value.slice aa args.length ac).ownBlock = some b → ¬ T b ∧ b < w.heap.size) (hx : NdK ⟨op, wd, flags, args, imm⟩) (hl : o.length ≤ 2000) (hnot : ¬ ((args.map fun a => tree o a.toNat) ≠ [] ∧ ∀ t ∈ args.map fun a => tree o a.toNat, t.op = 0)) (ho : 1 ≤ op ∧ op ≤ 13) :
    Calls Try.prog 72 #[.pointer (some ⟨bb, 0, none⟩), .agg #[.int .i64 op, .int .i64 wd, .int .i64 flags, .slice aa args.length ac, .int .u32 imm]] w (SmPost bb o T w (.slice aa args.length ac) (simG op wd flags (args.map fun a => tree o a.toNat) imm)) := by
  have HLL := Lib.hid hl
  have HBL := Lib.hid h
  have HGD := Lib.hid hg
  have HRG := Lib.hid hr
  have HPR := Lib.hid hpre
  have HFF := Lib.hid hF
  have HAV := Lib.hid hav
  have HXK := Lib.hid hx
  have hn3 : args.length ≤ 3 := hx.len
  have him := hx.imm
  simp only at him
  have hwdt := hx.width
  have hbbl : bb < w.heap.size := by
    obtain ⟨W, R, nv, fv, avs, hT, hb⟩ := h
    exact hb.Wlt bb hb.Wb
  have HROWA := Lib.hid (fun h0 => hF.ints.row h0)
  have HNU : Hid (∀ W, Below w.heap.size w W → ∀ r : Nat, r < o.length → Calls Try.prog 99 #[.pointer (some ⟨bb, 0, none⟩), .int .i64 (r : Int)] W fun e w' => e = .returned (.tuple #[.int .u32 (nd o r).imm, .bool ((nd o r).op == 0)]) ∧ Below W.heap.size W w') := fun W hW r hr => number_any bb o T W r (h.next hW) hr (by omega)
  have HADD : Hid (∀ W, Below w.heap.size w W → Calls Try.prog 67 #[.pointer (some ⟨bb, 0, none⟩), .agg #[.int .i64 op, .int .i64 wd, .int .i64 flags, .slice aa args.length ac, .int .u32 imm]] W fun e w' => e = .returned (.int .i64 (stepA o ⟨op, wd, flags, args, imm⟩).2) ∧
      ∃ T', Bld bb (stepA o ⟨op, wd, flags, args, imm⟩).1 T' w' ∧ (∀ b, T' b → T b ∨ W.heap.size ≤ b ∨ (Value.slice aa args.length ac).ownBlock = some b) ∧ Chg T W w') := fun W hW =>
    add_any bb o T ⟨op, wd, flags, args, imm⟩ (.slice aa args.length ac) W (h.next hW) hx (hF.below hW) (fun b hb => ⟨(hav b hb).1, by have := (hav b hb).2; have := hW.size; omega⟩) (by omega)
  have hbx : Below w.heap.size w ((w.alloc (.cells #[.pointer (some ⟨bb, 0, none⟩)] 103)).alloc (.cells #[.int .i64 op, .int .i64 wd, .int .i64 flags, .slice aa args.length ac, .int .u32 imm] 47)) := ((Below.refl _ _).alloc (Nat.le_refl _) _).alloc (by simp) _
  have HBX := Lib.hid hbx
  have HCN : Hid (∀ W, Below ((w.alloc (.cells #[.pointer (some ⟨bb, 0, none⟩)] 103)).alloc (.cells #[.int .i64 op, .int .i64 wd, .int .i64 flags, .slice aa args.length ac, .int .u32 imm] 47)).heap.size ((w.alloc (.cells #[.pointer (some ⟨bb, 0, none⟩)] 103)).alloc (.cells #[.int .i64 op, .int .i64 wd, .int .i64 flags, .slice aa args.length ac, .int .u32 imm] 47)) W → ∀ n : Int, 0 ≤ n ∧ n ≤ 4294967295 → Calls Try.prog 98 #[.int .u32 n, .pointer (some ⟨w.heap.size, 0, none⟩), .pointer (some ⟨w.heap.size + 1, 0, none⟩)] W fun e w' => e = .returned (.int .i64 ((addN o ⟨0, wd, 0, [], n⟩).2 : Int)) ∧
      ∃ T', Bld bb (addN o ⟨0, wd, 0, [], n⟩).1 T' w' ∧ (∀ b, T' b → T b ∨ W.heap.size ≤ b) ∧ Chg T W w') := fun W hW n hn => const_any bb w.heap.size (w.heap.size + 1) o T W wd n (h.next (hbx.trans (hW.mono (by simp; omega)))) (below_cell hW (by simp; omega) (by simp [go_sem])) (below_cell hW (by simp) (by simp [go_sem])) hwdt hn (by omega)
  have HHOP : Hid (∀ W, Below ((w.alloc (.cells #[.pointer (some ⟨bb, 0, none⟩)] 103)).alloc (.cells #[.int .i64 op, .int .i64 wd, .int .i64 flags, .slice aa args.length ac, .int .u32 imm] 47)).heap.size ((w.alloc (.cells #[.pointer (some ⟨bb, 0, none⟩)] 103)).alloc (.cells #[.int .i64 op, .int .i64 wd, .int .i64 flags, .slice aa args.length ac, .int .u32 imm] 47)) W → Below w.heap.size w W) := fun W hW => hbx.trans (hW.mono (by simp; omega))
  clear h hg hr hpre hF hav hx hbx hwdt
  go_enter Try.func72, Try.ntmps72
  go_wp2_with fail
  go_loopw [6, 30] (fun bv iv wx => ∃ j : Nat, iv = .int .i64 j ∧ j ≤ args.length ∧ bv = .bool (allC o args j) ∧ Below ((w.alloc (.cells #[.pointer (some ⟨bb, 0, none⟩)] 103)).alloc (.cells #[.int .i64 op, .int .i64 wd, .int .i64 flags, .slice aa args.length ac, .int .u32 imm] 47)).heap.size ((w.alloc (.cells #[.pointer (some ⟨bb, 0, none⟩)] 103)).alloc (.cells #[.int .i64 op, .int .i64 wd, .int .i64 flags, .slice aa args.length ac, .int .u32 imm] 47)) wx) (fun _ iv _ => args.length - (intOf iv).toNat)
  case atStart => exact ⟨0, rfl, Nat.zero_le _, by unfold allC; simp, Below.refl _ _⟩
  case round =>
    obtain ⟨j, rfl, hj, rfl, hb⟩ := hrel
    have hbs := hb.size
    simp only [World.size_alloc] at hbs
    have x0 := below_cell hb (b := w.heap.size + 1) (o := 0) (v := .int .i64 op) (by simp) (by simp [go_sem])
    have x1 := below_cell hb (b := w.heap.size + 1) (o := 1) (v := .int .i64 wd) (by simp) (by simp [go_sem])
    have x2 := below_cell hb (b := w.heap.size + 1) (o := 2) (v := .int .i64 flags) (by simp) (by simp [go_sem])
    have x3 := below_cell hb (b := w.heap.size + 1) (o := 3) (v := .slice aa args.length ac) (by simp) (by simp [go_sem])
    have x4 := below_cell hb (b := w.heap.size + 1) (o := 4) (v := .int .u32 imm) (by simp) (by simp [go_sem])
    have z0 := below_cell hb (b := w.heap.size) (o := 0) (v := .pointer (some ⟨bb, 0, none⟩)) (by simp; omega) (by simp [go_sem])
    have HBW := Lib.hid hb
    by_cases hlt : j < args.length
    · obtain ⟨ab, ao, rfl, hab, hcs⟩ := HROWA.out (by omega)
      have q1 := below_cell (HHOP.out wr HBW.out) hab (hcs j hlt)
      have hak := HRG.out (args.getD j 0) (mem_getD hlt)
      have HNX := Lib.hid (allC_next (o := o) hlt)
      clear hcs hb
      generalize args.getD j 0 = y at *
      obtain ⟨m, rfl⟩ := Int.eq_ofNat_of_zero_le hak.1
      have HNM := Lib.hid (HNU.out wr (HHOP.out wr HBW.out) m (by omega))
      rw [Int.toNat_natCast] at HNX
      generalize ((nd o m).op == 0) = ib at *
      generalize (nd o m).imm = im at *
      generalize hbj : allC o args j = bj at *
      clear hbj
      go_wp2_with fail
      refine HNM.out.mono ?_
      rintro e w5 ⟨rfl, hb5⟩
      have HB5 := Lib.hid (below_hop HBW.out hb5)
      clear hb5
      cases bj
      · go_wp2_with fail
        go_roundw
        case rel => exact ⟨j + 1, by go_num, by omega, by rw [HNX.out]; rfl, HB5.out⟩
        case measure => simp [intOf] <;> omega
      · go_wp2_with fail
        go_roundw
        case rel => exact ⟨j + 1, by go_num, by omega, by rw [HNX.out]; simp, HB5.out⟩
        case measure => simp [intOf] <;> omega
    · obtain rfl : j = args.length := by omega
      have hna : allC o args args.length = false := by
        rw [Bool.eq_false_iff]; exact fun h => hnot ((allC_all HGD.out HRG.out).1 h)
      rw [hna]
      have HNOT := Lib.hid hnot
      have HTL : Hid ((args.map fun a => tree o a.toNat).length = args.length) := by show _ = _; rw [List.length_map]
      have hfc := HPR.out.ok.facts.1
      rw [HTL.out] at hfc
      have hac := arV_cases op
      have HGT : Hid (∀ j, j < args.length → (args.map fun a => tree o a.toNat).getD j default = tree o (args.getD j 0).toNat) := fun j hj => by
        rw [List.getD_eq_getElem?_getD, List.getElem?_map, List.getElem?_eq_getElem hj, List.getD_eq_getElem?_getD, List.getElem?_eq_getElem hj]; rfl
      clear hna hnot hb
      have HLN : Hid (args.length = 2) := by
        show _ = _
        have e0 : arV 15 = 3 := rfl
        have e1 := arV_cases op
        have e2 := HPR.out.len2
        rw [HTL.out] at e2
        have e3 := HPR.out.len3
        rw [HTL.out] at e3
        omega
      clear hac hfc
      obtain ⟨ab, ao, rfl, hab, hcs⟩ := HROWA.out (by have := HLN.out; omega)
      have q0 := below_cell (HHOP.out wr HBW.out) hab (hcs 0 (by have := HLN.out; omega))
      have b0 : (0 : Int) < (args.length : Int) := by have := HLN.out; omega
      have n0 : 0 < args.length := by have := HLN.out; omega
      have K0 := Lib.hid (HGT.out 0 (by have := HLN.out; omega))
      have k0 := HRG.out (args.getD 0 0) (mem_getD (by have := HLN.out; omega))
      have q1 := below_cell (HHOP.out wr HBW.out) hab (hcs 1 (by have := HLN.out; omega))
      have b1 : (1 : Int) < (args.length : Int) := by have := HLN.out; omega
      have n1 : 1 < args.length := by have := HLN.out; omega
      have K1 := Lib.hid (HGT.out 1 (by have := HLN.out; omega))
      have k1 := HRG.out (args.getD 1 0) (mem_getD (by have := HLN.out; omega))
      have HA2 : Hid (args = [args.getD 0 0, args.getD 1 0]) := by
        show _ = _
        have := HLN.out
        match args, this with
        | [a, b], _ => rfl
      clear hcs
      generalize args.getD 0 0 = y0 at *
      obtain ⟨m0, rfl⟩ := Int.eq_ofNat_of_zero_le k0.1
      rw [Int.toNat_natCast] at K0
      have L0 : Hid (m0 < o.length) := by show _ < _; omega
      clear k0
      generalize args.getD 1 0 = y1 at *
      obtain ⟨m1, rfl⟩ := Int.eq_ofNat_of_zero_le k1.1
      rw [Int.toNat_natCast] at K1
      have L1 : Hid (m1 < o.length) := by show _ < _; omega
      clear k1
      have HID : Hid (∀ W, Below ((w.alloc (.cells #[.pointer (some ⟨bb, 0, none⟩)] 103)).alloc (.cells #[.int .i64 op, .int .i64 wd, .int .i64 flags, .slice (some ⟨ab, ao, none⟩) args.length ac, .int .u32 imm] 47)).heap.size ((w.alloc (.cells #[.pointer (some ⟨bb, 0, none⟩)] 103)).alloc (.cells #[.int .i64 op, .int .i64 wd, .int .i64 flags, .slice (some ⟨ab, ao, none⟩) args.length ac, .int .u32 imm] 47)) W → Calls Try.prog 100 #[.pointer (some ⟨bb, 0, none⟩), .agg #[.int .i64 op, .int .i64 wd, .int .i64 flags, .slice (some ⟨ab, ao, none⟩) args.length ac, .int .u32 imm], .func (.func 98) #[] #[.pointer (some ⟨w.heap.size, 0, none⟩), .pointer (some ⟨w.heap.size + 1, 0, none⟩)]] W (IdPost bb o T W op wd m0 m1)) := fun W hW => by
        have hI := HFF.out.ints.stays (HHOP.out W hW)
        have hbl := HBL.out.next (HHOP.out W hW)
        have hwd := HXK.out.width
        have hxl := HLL.out
        have e := HA2.out
        rw [HLN.out] at hI ⊢
        rw [e] at hI
        exact ident_op ho hbl HGD.out L0.out L1.out hxl hI (below_cell hW (by simp; omega) (by simp [go_sem])) (below_cell hW (by simp) (by simp [go_sem])) hwd
      have HOO := Lib.hid ho
      have hA : decide (1 ≤ op) = true := by simp; omega
      have hBb : decide (op ≤ 13) = true := by simp; omega
      have h15 : (op == 15) = false := by simp; omega
      have h14 : (op == 14) = false := by simp; omega
      clear ho
      rw [Nat.add_zero] at q0
      go_wp2_with fail
      go_quiet (fail)
      have HBQ := Lib.hid (below_drewN HBW.out nq)
      have z0q := below_cell HBQ.out (b := w.heap.size) (o := 0) (v := .pointer (some ⟨bb, 0, none⟩)) (by simp; omega) (by simp [go_sem])
      have x0q := below_cell HBQ.out (b := w.heap.size + 1) (o := 0) (v := .int .i64 op) (by simp) (by simp [go_sem])
      have x1q := below_cell HBQ.out (b := w.heap.size + 1) (o := 1) (v := .int .i64 wd) (by simp) (by simp [go_sem])
      have x2q := below_cell HBQ.out (b := w.heap.size + 1) (o := 2) (v := .int .i64 flags) (by simp) (by simp [go_sem])
      have x3q := below_cell HBQ.out (b := w.heap.size + 1) (o := 3) (v := .slice (some ⟨ab, ao, none⟩) args.length ac) (by simp) (by simp [go_sem])
      have x4q := below_cell HBQ.out (b := w.heap.size + 1) (o := 4) (v := .int .u32 imm) (by simp) (by simp [go_sem])
      clear z0 x0 x1 x2 x3 x4
      generalize wr.drewN nq = wq at *
      go_wp2_with fail
      refine (HID.out _ HBQ.out).mono ?_
      intro e w7 hid
      rcases hid with ⟨hn, rfl, hb7⟩ | ⟨t, ht, rfl, hp7⟩
      · have HSG := Lib.hid (sg_id (f := flags) (i := imm) HNOT.out HOO.out K0.out K1.out hn)
        have HB7 := Lib.hid (below_hop HBQ.out hb7)
        have z0' := below_cell HB7.out (b := w.heap.size) (o := 0) (v := .pointer (some ⟨bb, 0, none⟩)) (by simp; omega) (by simp [go_sem])
        have x0' := below_cell HB7.out (b := w.heap.size + 1) (o := 0) (v := .int .i64 op) (by simp) (by simp [go_sem])
        have x1' := below_cell HB7.out (b := w.heap.size + 1) (o := 1) (v := .int .i64 wd) (by simp) (by simp [go_sem])
        have x2' := below_cell HB7.out (b := w.heap.size + 1) (o := 2) (v := .int .i64 flags) (by simp) (by simp [go_sem])
        have x3' := below_cell HB7.out (b := w.heap.size + 1) (o := 3) (v := .slice (some ⟨ab, ao, none⟩) args.length ac) (by simp) (by simp [go_sem])
        have x4' := below_cell HB7.out (b := w.heap.size + 1) (o := 4) (v := .int .u32 imm) (by simp) (by simp [go_sem])
        clear hn hb7 z0q x0q x1q x2q x3q x4q
        go_wp2_with fail
        refine (HADD.out _ (HHOP.out _ HB7.out)).mono ?_
        rintro e w7 ⟨rfl, hp7⟩
        have HP7 := Lib.hid hp7
        clear hp7
        go_wp2_with fail
        go_ret
        exact smp_add HGD.out HRG.out HSG.out (HHOP.out _ HB7.out) HP7.out
      · have HSG := Lib.hid (sg_id (f := flags) (i := imm) HNOT.out HOO.out K0.out K1.out ht)
        have HP7 := Lib.hid hp7
        clear ht hp7
        go_wp2_with fail
        go_ret
        exact smp_id (HHOP.out _ HBQ.out) HSG.out HP7.out
end Go.Proofs.Ythopdfikikdcbaa
/- Memory of the little term that simple makes. -/
namespace Go.Proofs.Ythopdfikikdcbaa
open Go.RowKit Go.Maps Wd
set_option linter.unusedVariables false
set_option linter.unusedSimpArgs false
theorem Ints.empty {k : IntKind} {w : World} {v : Value} (h : Ints k w v []) (w' : World) : Ints k w' v [] := by
  obtain ⟨a, c, e, h1, h2, h3, _⟩ := h
  exact ⟨a, c, e, h1, h2, h3, fun i hi => absurd hi (by simp)⟩
/-- A row of nodes of the call's own whose Args lie in no memory. -/
structure LSt (base : Nat) (o : List Nd) (w : World) (nv : Value) (avs : List Value) : Prop where
  row : w.ownsRow base 47 5 nv o.length (rowsC o avs)
  len : avs.length = o.length
  args : ∀ i, i < o.length → ∀ w', Ints .i64 w' (avs.getD i undef) (o.getD i default).args
theorem LSt.nil (base : Nat) (w : World) : LSt base [] w (.slice none 0 0) [] := ⟨World.ownsRow_nil _ _ _ _, rfl, fun i hi => absurd hi (by simp)⟩
theorem LSt.chg {base : Nat} {o : List Nd} {U : Nat → Prop} {w w' : World} {nv : Value} {avs : List Value} (h : LSt base o w nv avs) (hc : Chg U w w') (hU : ∀ b, nv.ownBlock = some b → ¬ U b) : LSt base o w' nv avs :=
  ⟨own_same (T := fun b => nv.ownBlock = some b) h.row (hc.same fun k hk => ⟨own_lt h.row k hk, hU k hk⟩) (fun b h => h), h.len, h.args⟩
theorem row_args {o : List Nd} {avs : List Value} {x : Nd} {av : Value} {P : Value → List Int → Prop} (hl : avs.length = o.length) (h : ∀ i, i < o.length → P (avs.getD i undef) (o.getD i default).args) (hx : P av x.args) : ∀ i, i < (o ++ [x]).length → P ((avs ++ [av]).getD i undef) ((o ++ [x]).getD i default).args := by
  intro i hi
  by_cases hlt : i < o.length
  · have e1 : (avs ++ [av]).getD i undef = avs.getD i undef := by rw [List.getD_eq_getElem?_getD, List.getD_eq_getElem?_getD, List.getElem?_append_left (by rw [hl]; exact hlt)]
    rw [e1, getD_pre hlt]
    exact h i hlt
  · obtain rfl : i = o.length := by rw [List.length_append] at hi; simp at hi; omega
    have e1 : (avs ++ [av]).getD o.length undef = av := by rw [List.getD_eq_getElem?_getD, List.getElem?_append_right (by rw [hl]; exact Nat.le_refl _), hl, Nat.sub_self]; rfl
    have e2 : (o ++ [x]).getD o.length default = x := by rw [List.getD_eq_getElem?_getD, List.getElem?_append_right (Nat.le_refl _), Nat.sub_self]; rfl
    rw [e1, e2]; exact hx
theorem LSt.add {base : Nat} {o : List Nd} {w w2 : World} {nv v' av : Value} {avs : List Value} {x : Nd} (h : LSt base o w nv avs) (hF : ∀ w', Ints .i64 w' av x.args) (hown : w2.ownsRow base 47 5 v' (o.length + 1) (rowsC o avs ++ rowC x av)) :
    LSt base (o ++ [x]) w2 v' (avs ++ [av]) :=
  ⟨by rw [rowsC_snoc x av o avs h.len, List.length_append]; exact hown, by rw [List.length_append, List.length_append, h.len]; rfl,
   fun i hi w' => row_args (P := fun v xs => Ints .i64 w' v xs) h.len (fun i hi => h.args i hi w') (hF w') i hi⟩
theorem rows_nds {base : Nat} {o : List Nd} {w : World} {nv : Value} {avs : List Value} (hr : w.ownsRow base 47 5 nv o.length (rowsC o avs)) (hlen : avs.length = o.length) (hargs : ∀ i, i < o.length → Ints .i64 w (avs.getD i undef) (o.getD i default).args) (hl : o.length ≤ 100000) : Nds w nv o := by
  obtain ⟨h0, ⟨e, h1⟩ | ⟨g, cap, cur, e, hb', hg, h1, h2, h3, h4⟩⟩ := hr
  · exact ⟨none, 0, by rw [e, h1], by omega, ⟨by omega, by omega⟩, fun _ => rfl, fun i hi => absurd hi (by omega)⟩
  · have hlt : g < w.heap.size := by
      rcases Nat.lt_or_ge g w.heap.size with h | h
      · exact h
      · rw [Array.getElem?_eq_none h] at hg; cases hg
    refine ⟨some ⟨g, 0, none⟩, cap, e, h1, ⟨by omega, by unfold maxLen at h2; omega⟩, (fun hh => by cases hh), fun i hi => ⟨g, 0, rfl, hlt, ?_⟩⟩
    rw [Nat.zero_add]
    have cell : ∀ j, j < 5 → w.cell? ⟨g, i * 5 + j, none⟩ = (rowC (o.getD i default) (avs.getD i undef))[j]? := by
      intro j hj
      have e1 : w.cell? ⟨g, i * 5 + j, none⟩ = cur.toList[i * 5 + j]? := by simp [World.cell?, hg]
      have e2 : (cur.toList.take (o.length * 5))[i * 5 + j]? = cur.toList[i * 5 + j]? := by rw [List.getElem?_take, if_pos (by omega)]
      rw [e1, ← e2, h4]
      exact rowsC_get o avs hlen i j hi hj
    exact ⟨cell 0 (by omega), cell 1 (by omega), cell 2 (by omega), ⟨_, cell 3 (by omega), hargs i hi⟩, cell 4 (by omega)⟩
structure LtR (W1 : World) (rb : Nat) (op width flags imm : Int) (cs : List Nd) (ys : List Int) (avs : List Value) (nv rv : Value) (wx : World) : Prop where
  out : LSt (rb + 1) cs wx nv avs
  y : YAt wx rb op width flags imm rv
  row : RowI wx (rb + 1) 3 .i64 rv ys
  ns : ∀ b, rv.ownBlock = some b → nv.ownBlock ≠ some b
  chg : Chg (fun b => b = rb) W1 wx
  sz : W1.heap.size = rb + 1
theorem LtR.node {W1 wx w2 : World} {rb : Nat} {op width flags imm : Int} {cs : List Nd} {ys : List Int} {avs : List Value} {nv rv nv2 av : Value} {x : Nd} (h : LtR W1 rb op width flags imm cs ys avs nv rv wx)
    (hF : ∀ w', Ints .i64 w' av x.args) (hg : Chg (fun b => nv.ownBlock = some b) wx w2)
    (hown : w2.ownsRow (rb + 1) 47 5 nv2 (cs.length + 1) (rowsC cs avs ++ rowC x av)) (hv : nv2.ownBlock = nv.ownBlock ∨ ∃ g, nv2.ownBlock = some g ∧ wx.heap.size ≤ g) :
    LtR W1 rb op width flags imm (cs ++ [x]) ys (avs ++ [av]) nv2 rv w2 := by
  have hs1 := h.chg.size
  have hsz := h.sz
  have hvl := own_lt h.row
  have hrb : ¬ nv.ownBlock = some rb := fun e => by have := own_ge h.out.row _ e; omega
  exact {
    out := h.out.add hF hown
    y := h.y.chg hg hrb
    row := h.row.chg hg (fun b hb e => h.ns b hb e)
    ns := fun b hb e => by
      rcases hv with e2 | ⟨g, e2, hg2⟩
      · exact h.ns b hb (by rw [← e2]; exact e)
      · rw [e2] at e; cases e
        have := hvl _ hb; omega
    chg := h.chg.trans hg (fun k hk e => by have := own_ge h.out.row k e; omega)
    sz := h.sz }
theorem LtR.arg {W1 wx w3 : World} {rb : Nat} {op width flags imm z : Int} {cs : List Nd} {ys : List Int} {avs : List Value} {nv rv rv' : Value} (h : LtR W1 rb op width flags imm cs ys avs nv rv wx)
    (hg : Chg (fun b => rv.ownBlock = some b) wx w3) (hown : w3.ownsRow (rb + 1) 3 1 rv' (ys.length + 1) (ys.map (Value.int .i64) ++ [.int .i64 z])) (hv : rv'.ownBlock = rv.ownBlock ∨ ∃ g, rv'.ownBlock = some g ∧ wx.heap.size ≤ g) :
    LtR W1 rb op width flags imm cs (ys ++ [z]) avs nv rv' (w3.setCell ⟨rb, 3, none⟩ rv') := by
  have hs1 := h.chg.size
  have hsz := h.sz
  have hnl := own_lt h.out.row
  have hvB : ¬ rv.ownBlock = some rb := fun e => by have := own_ge h.row rb e; omega
  have hset : Chg (fun b => b = rb) w3 (w3.setCell ⟨rb, 3, none⟩ rv') := (Chg.refl (fun b => b = rb) w3).setCell (b := rb) rfl rv'
  have hrow1 : RowI w3 (rb + 1) 3 .i64 rv' (ys ++ [z]) := RowI.app1 hown rfl rfl
  have hall : Chg (fun b => rv.ownBlock = some b ∨ b = rb) wx (w3.setCell ⟨rb, 3, none⟩ rv') := (hg.mono (fun _ _ h => .inl h)).trans hset (fun _ _ h => .inr h)
  have hnb : ∀ b, nv.ownBlock = some b → ¬ (rv.ownBlock = some b ∨ b = rb) := fun b hb e => by
    rcases e with e | e
    · exact h.ns b e hb
    · have := own_ge h.out.row b hb; omega
  exact {
    out := h.out.chg hall hnb
    y := (h.y.chg hg hvB).set rv'
    row := hrow1.chg hset (fun b hb e => by have := own_ge hrow1 b hb; omega)
    ns := fun b hb e' => by
      rcases hv with e | ⟨g, e, hg2⟩
      · exact h.ns b (by rw [← e]; exact hb) e'
      · rw [e] at hb; cases hb
        have := hnl _ e'; omega
    chg := h.chg.trans hall (fun k hk e => by
      rcases e with e | e
      · have := own_ge h.row k e; omega
      · exact e)
    sz := h.sz }
/-- The whole little term, as the call of values finds it. -/
theorem LtR.nds {W1 wx w2 : World} {rb : Nat} {op width flags imm : Int} {cs : List Nd} {ys : List Int} {avs : List Value} {nv rv nv2 : Value} (h : LtR W1 rb op width flags imm cs ys avs nv rv wx)
    (hg : Chg (fun b => nv.ownBlock = some b) wx w2) (hown : w2.ownsRow (rb + 1) 47 5 nv2 (cs.length + 1) (rowsC cs avs ++ rowC ⟨op, width, flags, ys, imm⟩ rv)) (hl : cs.length ≤ 1000) (hy : ys.length ≤ 1000) :
    Nds w2 nv2 (cs ++ [⟨op, width, flags, ys, imm⟩]) := by
  refine rows_nds (base := rb + 1) (avs := avs ++ [rv]) (by rw [rowsC_snoc _ rv cs avs h.out.len, List.length_append]; exact hown) (by rw [List.length_append, List.length_append, h.out.len]; rfl) ?_ (by rw [List.length_append]; show cs.length + 1 ≤ _; omega)
  exact row_args (P := fun v xs => Ints .i64 w2 v xs) h.out.len (fun i hi => h.out.args i hi w2) ((h.row.chg hg (fun b hb e => h.ns b hb e)).ints (by omega))
end Go.Proofs.Ythopdfikikdcbaa
/- Walk of the builder's simple, where all Args are constants. -/
namespace Go.Proofs.Ythopdfikikdcbaa
open Go.RowKit Go.Maps Wd
set_option linter.unusedVariables false
set_option linter.unusedSimpArgs false
theorem zeros_ints (w : World) : Ints .u32 (w.alloc (.cells #[.int .u32 0, .int .u32 0, .int .u32 0, .int .u32 0] 34)) (.slice (some ⟨w.heap.size, 0, none⟩) 4 4) [0, 0, 0, 0] :=
  ⟨some ⟨w.heap.size, 0, none⟩, 4, rfl, by simp, ⟨by simp, by omega⟩, (fun h => by cases h), fun i hi => ⟨w.heap.size, 0, rfl, by simp, by
    rcases i with _ | _ | _ | _ | i
    · simp [go_sem]
    · simp [go_sem]
    · simp [go_sem]
    · simp [go_sem]
    · simp at hi; omega⟩⟩
theorem below_hop' {B : Nat} {w w1 w2 : World} (h1 : Below B w w1) (h2 : Below w1.heap.size w1 w2) (h : B ≤ w1.heap.size) : Below B w w2 := h1.trans (h2.mono h)
set_option maxRecDepth 100000 in
set_option maxHeartbeats 4000000 in
theorem simple_all (bb : Nat) (o : List Nd) (T : Nat → Prop) (op wd flags imm : Int) (args : List Int) (aa : Option Addr) (ac : Nat) (w : World) (h : Bld bb o T w) (hg : Good o) (hr : ∀ a ∈ args, 0 ≤ a ∧ a < (o.length : Int)) (hpre : Pre op wd flags imm (args.map fun a => tree o a.toNat)) (hF : IntsF w (.slice aa args.length ac) args) (hav : ∀ b, (Value.slice aa args.length ac).ownBlock = some b → ¬ T b ∧ b < w.heap.size) (hx : NdK ⟨op, wd, flags, args, imm⟩) (hl : o.length ≤ 2000) (hall : (args.map fun a => tree o a.toNat) ≠ [] ∧ ∀ t ∈ args.map fun a => tree o a.toNat, t.op = 0) :
    Calls Try.prog 72 #[.pointer (some ⟨bb, 0, none⟩), .agg #[.int .i64 op, .int .i64 wd, .int .i64 flags, .slice aa args.length ac, .int .u32 imm]] w (SmPost bb o T w (.slice aa args.length ac) (simG op wd flags (args.map fun a => tree o a.toNat) imm)) := by
  obtain ⟨i0, hi0, hz0, hz1, hz2⟩ := info_parts info_int
  obtain ⟨n0, hn0, hy0, hy1, hy2⟩ := info_parts info_node
  have HBL := Lib.hid h
  have HGD := Lib.hid hg
  have HRG := Lib.hid hr
  have HPR := Lib.hid hpre
  have HFF := Lib.hid hF
  have HAV := Lib.hid hav
  have HXK := Lib.hid hx
  have hn3 : args.length ≤ 3 := hx.len
  have him := hx.imm
  simp only at him
  have hwdt := hx.width
  have hbbl : bb < w.heap.size := by
    obtain ⟨W, R, nv, fv, avs, hT, hb⟩ := h
    exact hb.Wlt bb hb.Wb
  have HROWA := Lib.hid (fun h0 => hF.ints.row h0)
  have HNU : Hid (∀ W, Below w.heap.size w W → ∀ r : Nat, r < o.length → Calls Try.prog 99 #[.pointer (some ⟨bb, 0, none⟩), .int .i64 (r : Int)] W fun e w' => e = .returned (.tuple #[.int .u32 (nd o r).imm, .bool ((nd o r).op == 0)]) ∧ Below W.heap.size W w') := fun W hW r hr => number_any bb o T W r (h.next hW) hr (by omega)
  have HADD : Hid (∀ W, Below w.heap.size w W → Calls Try.prog 67 #[.pointer (some ⟨bb, 0, none⟩), .agg #[.int .i64 op, .int .i64 wd, .int .i64 flags, .slice aa args.length ac, .int .u32 imm]] W fun e w' => e = .returned (.int .i64 (stepA o ⟨op, wd, flags, args, imm⟩).2) ∧
      ∃ T', Bld bb (stepA o ⟨op, wd, flags, args, imm⟩).1 T' w' ∧ (∀ b, T' b → T b ∨ W.heap.size ≤ b ∨ (Value.slice aa args.length ac).ownBlock = some b) ∧ Chg T W w') := fun W hW =>
    add_any bb o T ⟨op, wd, flags, args, imm⟩ (.slice aa args.length ac) W (h.next hW) hx (hF.below hW) (fun b hb => ⟨(hav b hb).1, by have := (hav b hb).2; have := hW.size; omega⟩) (by omega)
  have hbx : Below w.heap.size w ((w.alloc (.cells #[.pointer (some ⟨bb, 0, none⟩)] 103)).alloc (.cells #[.int .i64 op, .int .i64 wd, .int .i64 flags, .slice aa args.length ac, .int .u32 imm] 47)) := ((Below.refl _ _).alloc (Nat.le_refl _) _).alloc (by simp) _
  have HBX := Lib.hid hbx
  have HCN : Hid (∀ W, Below ((w.alloc (.cells #[.pointer (some ⟨bb, 0, none⟩)] 103)).alloc (.cells #[.int .i64 op, .int .i64 wd, .int .i64 flags, .slice aa args.length ac, .int .u32 imm] 47)).heap.size ((w.alloc (.cells #[.pointer (some ⟨bb, 0, none⟩)] 103)).alloc (.cells #[.int .i64 op, .int .i64 wd, .int .i64 flags, .slice aa args.length ac, .int .u32 imm] 47)) W → ∀ n : Int, 0 ≤ n ∧ n ≤ 4294967295 → Calls Try.prog 98 #[.int .u32 n, .pointer (some ⟨w.heap.size, 0, none⟩), .pointer (some ⟨w.heap.size + 1, 0, none⟩)] W fun e w' => e = .returned (.int .i64 ((addN o ⟨0, wd, 0, [], n⟩).2 : Int)) ∧
      ∃ T', Bld bb (addN o ⟨0, wd, 0, [], n⟩).1 T' w' ∧ (∀ b, T' b → T b ∨ W.heap.size ≤ b) ∧ Chg T W w') := fun W hW n hn => const_any bb w.heap.size (w.heap.size + 1) o T W wd n (h.next (hbx.trans (hW.mono (by simp; omega)))) (below_cell hW (by simp; omega) (by simp [go_sem])) (below_cell hW (by simp) (by simp [go_sem])) hwdt hn (by omega)
  have HHOP : Hid (∀ W, Below ((w.alloc (.cells #[.pointer (some ⟨bb, 0, none⟩)] 103)).alloc (.cells #[.int .i64 op, .int .i64 wd, .int .i64 flags, .slice aa args.length ac, .int .u32 imm] 47)).heap.size ((w.alloc (.cells #[.pointer (some ⟨bb, 0, none⟩)] 103)).alloc (.cells #[.int .i64 op, .int .i64 wd, .int .i64 flags, .slice aa args.length ac, .int .u32 imm] 47)) W → Below w.heap.size w W) := fun W hW => hbx.trans (hW.mono (by simp; omega))
  clear h hg hr hpre hF hav hx hbx hwdt
  go_enter Try.func72, Try.ntmps72
  go_wp2_with fail
  go_loopw [6, 30] (fun bv iv wx => ∃ j : Nat, iv = .int .i64 j ∧ j ≤ args.length ∧ bv = .bool (allC o args j) ∧ Below ((w.alloc (.cells #[.pointer (some ⟨bb, 0, none⟩)] 103)).alloc (.cells #[.int .i64 op, .int .i64 wd, .int .i64 flags, .slice aa args.length ac, .int .u32 imm] 47)).heap.size ((w.alloc (.cells #[.pointer (some ⟨bb, 0, none⟩)] 103)).alloc (.cells #[.int .i64 op, .int .i64 wd, .int .i64 flags, .slice aa args.length ac, .int .u32 imm] 47)) wx) (fun _ iv _ => args.length - (intOf iv).toNat)
  case atStart => exact ⟨0, rfl, Nat.zero_le _, by unfold allC; simp, Below.refl _ _⟩
  case round =>
    obtain ⟨j, rfl, hj, rfl, hb⟩ := hrel
    have hbs := hb.size
    simp only [World.size_alloc] at hbs
    have x0 := below_cell hb (b := w.heap.size + 1) (o := 0) (v := .int .i64 op) (by simp) (by simp [go_sem])
    have x1 := below_cell hb (b := w.heap.size + 1) (o := 1) (v := .int .i64 wd) (by simp) (by simp [go_sem])
    have x2 := below_cell hb (b := w.heap.size + 1) (o := 2) (v := .int .i64 flags) (by simp) (by simp [go_sem])
    have x3 := below_cell hb (b := w.heap.size + 1) (o := 3) (v := .slice aa args.length ac) (by simp) (by simp [go_sem])
    have x4 := below_cell hb (b := w.heap.size + 1) (o := 4) (v := .int .u32 imm) (by simp) (by simp [go_sem])
    have z0 := below_cell hb (b := w.heap.size) (o := 0) (v := .pointer (some ⟨bb, 0, none⟩)) (by simp; omega) (by simp [go_sem])
    have HBW := Lib.hid hb
    by_cases hlt : j < args.length
    · obtain ⟨ab, ao, rfl, hab, hcs⟩ := HROWA.out (by omega)
      have q1 := below_cell (HHOP.out wr HBW.out) hab (hcs j hlt)
      have hak := HRG.out (args.getD j 0) (mem_getD hlt)
      have HNX := Lib.hid (allC_next (o := o) hlt)
      clear hcs hb
      generalize args.getD j 0 = y at *
      obtain ⟨m, rfl⟩ := Int.eq_ofNat_of_zero_le hak.1
      have HNM := Lib.hid (HNU.out wr (HHOP.out wr HBW.out) m (by omega))
      rw [Int.toNat_natCast] at HNX
      generalize ((nd o m).op == 0) = ib at *
      generalize (nd o m).imm = im at *
      generalize hbj : allC o args j = bj at *
      clear hbj
      go_wp2_with fail
      refine HNM.out.mono ?_
      rintro e w5 ⟨rfl, hb5⟩
      have HB5 := Lib.hid (below_hop HBW.out hb5)
      clear hb5
      cases bj
      · go_wp2_with fail
        go_roundw
        case rel => exact ⟨j + 1, by go_num, by omega, by rw [HNX.out]; rfl, HB5.out⟩
        case measure => simp [intOf] <;> omega
      · go_wp2_with fail
        go_roundw
        case rel => exact ⟨j + 1, by go_num, by omega, by rw [HNX.out]; simp, HB5.out⟩
        case measure => simp [intOf] <;> omega
    · obtain rfl : j = args.length := by omega
      have hat := (allC_all HGD.out HRG.out).2 hall
      rw [hat]
      have HALL := Lib.hid hall
      have h0l : 0 < args.length := by
        rcases Nat.eq_zero_or_pos args.length with h | h
        · exact absurd (by rw [List.length_eq_zero_iff.1 h]; rfl) hall.1
        · exact h
      have HTL : Hid ((args.map fun a => tree o a.toNat).length = args.length) := by show _ = _; rw [List.length_map]
      have HKK : Hid (∀ a ∈ args, (tree o a.toNat).Ok ∧ (tree o a.toNat).op = 0) := fun a ha => ⟨HPR.out.ok.facts.2.2.2.2.2.2.2 _ (List.mem_map.2 ⟨a, ha, rfl⟩), hall.2 _ (List.mem_map.2 ⟨a, ha, rfl⟩)⟩
      have h0b : decide (0 < args.length) = true := decide_eq_true h0l
      rw [h0b]
      clear h0b
      clear hat hall hb HNU HADD
      obtain ⟨wl, rfl⟩ : ∃ wl : World, wl = wr := ⟨_, rfl⟩
      have hbld := HBL.out.next (HHOP.out _ HBW.out)
      obtain ⟨Wb, Rb, nvb, fvb, avsb, hTb, hbst⟩ := hbld
      have HND := Lib.hid (hbst.nds (by omega))
      have HBB := Lib.hid hbst.b0
      have hbbw := hbst.Wlt bb hbst.Wb
      have HKN := Lib.hid hbst.kn
      clear hbst hTb
      have hl0 : w.heap.size < wl.heap.size := by omega
      have hl1 : w.heap.size + 1 < wl.heap.size := by omega
      have hn1 : ¬ w.heap.size + 1 = wl.heap.size := by omega
      go_wp2_with fail
      go_loopw [11, 51] (fun av iv wx => ∃ (j : Nat) (nv rv : Value) (avs : List Value), av = nv ∧ iv = .int .i64 j ∧ j ≤ args.length ∧ LtR (wl.alloc (.cells #[.int .i64 op, .int .i64 wd, .int .i64 flags, .slice none 0 0, .int .u32 imm] 47)) wl.heap.size op wd flags imm ((args.take j).map fun a => nd o a.toNat) (upTo j) avs nv rv wx) (fun _ iv _ => args.length - (intOf iv).toNat)
      case atStart => exact ⟨0, _, _, _, rfl, rfl, Nat.zero_le _, {
          out := LSt.nil _ _
          y := ⟨by simp [go_sem], by simp [go_sem], by simp [go_sem], by simp [go_sem], by simp [go_sem], by simp [go_sem]⟩
          row := RowI.nil _ _ _ _
          ns := fun b h => by cases h
          chg := Chg.refl _ _
          sz := by simp }⟩
      case round =>
        obtain ⟨j, nv, rv, avs, rfl, rfl, hj, hM⟩ := hrel
        have HM := Lib.hid hM
        have hws := hM.chg.size
        simp only [World.size_alloc] at hws
        have HLW : Hid (Below wl.heap.size wl wr) := YAt.bel ((Below.refl wl.heap.size wl).alloc (Nat.le_refl _) (.cells #[.int .i64 op, .int .i64 wd, .int .i64 flags, .slice none 0 0, .int .u32 imm] 47)) (Nat.le_refl _) hM.chg
        have z0 := below_cell (below_hop' HBW.out HLW.out (by simp; omega)) (b := w.heap.size) (o := 0) (v := .pointer (some ⟨bb, 0, none⟩)) (by simp; omega) (by simp [go_sem])
        have y0 := hM.y.c0
        have y1 := hM.y.c1
        have y2 := hM.y.c2
        have y3 := hM.y.c3
        have y4 := hM.y.c4
        have hcl : ((args.take j).map fun a => nd o a.toNat).length = j := by rw [List.length_map, List.length_take, Nat.min_eq_left hj]
        have hyl : (upTo j).length = j := by unfold upTo; rw [List.length_map, List.length_range]
        have HCL := Lib.hid hcl
        have HYL := Lib.hid hyl
        clear hcl hyl
        obtain ⟨na, nc, hna⟩ := own_shape hM.out.row
        rw [HCL.out] at hna
        subst hna
        have hrow : RowI wr (wl.heap.size + 1) 3 .i64 rv (upTo j) := hM.row
        obtain ⟨va, vc, hva⟩ := hrow.shape
        rw [HYL.out] at hva
        subst hva
        have HROW : Hid (wr.ownsRow (wl.heap.size + 1) 47 5 (.slice na j nc) j (rowsC ((args.take j).map fun a => nd o a.toNat) avs)) := by
          have h9 := hM.out.row
          rw [HCL.out] at h9
          exact h9
        clear hM hrow
        by_cases hlt : j < args.length
        · obtain ⟨ab, ao, rfl, hab, hcs⟩ := HROWA.out (by omega)
          have q1 := below_cell (below_hop (HHOP.out wl HBW.out) HLW.out) hab (hcs j hlt)
          have hak := HRG.out (args.getD j 0) (mem_getD hlt)
          have hkj := HKK.out (args.getD j 0) (mem_getD hlt)
          have HTK : Hid (((args.take (j + 1)).map fun a => nd o a.toNat) = ((args.take j).map fun a => nd o a.toNat) ++ [nd o (args.getD j 0).toNat]) := by
            show _ = _
            rw [List.take_succ_eq_append_getElem hlt, List.map_append, List.getD_eq_getElem?_getD, List.getElem?_eq_getElem hlt]
            rfl
          have HUP : Hid (upTo (j + 1) = upTo j ++ [(j : Int)]) := by
            show _ = _
            unfold upTo
            rw [List.range_succ, List.map_append]; rfl
          clear hcs
          generalize args.getD j 0 = y at *
          obtain ⟨m, rfl⟩ := Int.eq_ofNat_of_zero_le hak.1
          rw [Int.toNat_natCast] at HTK hkj
          have hml : m < o.length := by omega
          have hca := (const_args HGD.out hml hkj.1 hkj.2).1
          obtain ⟨b, q, c', av, e', _, hbq, hav, c0, c1, c2, c3, c4⟩ := HND.out.at2 HLW.out hml
          have b0 := below_cell HLW.out hbbw HBB.out
          cases e'
          have hca' : (o.getD m default).args = [] := hca
          rw [hca'] at hav
          have HEMP : Hid (∀ w', Ints .i64 w' av (nd o m).args) := fun w' => by rw [hca]; exact hav.empty w'
          change Hid (_ = _ ++ [o.getD m default]) at HTK
          change Hid (∀ w', Ints .i64 w' av (o.getD m default).args) at HEMP
          obtain ⟨aa', ac', rfl, _, _⟩ := hav.shape
          clear hca hca' hkj hak
          generalize hcs : ((args.take j).map fun a => nd o a.toNat) = cs at *
          generalize upTo j = ys at *
          clear hcs
          generalize o.getD m default = x at *
          obtain ⟨op', wd', fl', as', im'⟩ := x
          simp only at c0 c1 c2 c3 c4
          have hmi : (m : Int) < o.length := by omega
          clear hav
          go_wp2_with (at_builtin; go_must (refine wpList_append_own_at _ rfl _ _ 22 rfl (wl.heap.size + 1) 47 n0 _ 5 56 Try.underlying22 hn0 hy0 hy1 hy2 rfl (by decide) _ _ _ rfl (HROW.out.alloc _) ⟨wr.heap.size, 0, none⟩ 1 1 [.int .i64 op', .int .i64 wd', .int .i64 fl', .slice aa' 0 ac', .int .u32 im'] rfl rfl ?g1 ?g2 ?g3 ?g4 ?g5 ?_))
          try case g1 =>
            intro i u h
            rcases i with _ | _ | _ | _ | _ | i <;> first | (cases h; simp [go_sem, Addr.add]) | cases h
          try case g2 => simp [Value.oneCell']
          try case g3 => unfold maxLen; omega
          try case g4 => omega
          try case g5 => first | omega | (simp; done) | (simp; omega)
          intro nv4 w4 hown4 hgrow4 _ hat4
          have hg4 : Chg (fun b => (Value.slice na j nc).ownBlock = some b) wr w4 := (Chg.of_below ((Below.refl _ _).alloc (Nat.le_refl _) _)).trans (Chg.of_grown hgrow4 (fun k hk => hk)) (fun _ _ h => h)
          have hP := HM.out.node (x := ⟨op', wd', fl', as', im'⟩) (av := .slice aa' 0 ac') (w2 := w4) (nv2 := nv4) HEMP.out hg4 (by rw [HCL.out]; exact hown4) (hat4.elim .inl fun h => .inr ⟨_, h, by first | omega | (simp; done) | (simp; omega)⟩)
          obtain ⟨na4, nc4, rfl⟩ := own_shape hown4
          have HROWA4 : Hid (w4.ownsRow (wl.heap.size + 1) 3 1 (.slice va j vc) j (ys.map (Value.int .i64))) := by
            have h9 : RowI w4 _ _ _ _ _ := hP.row
            unfold RowI at h9
            rw [HYL.out] at h9
            exact h9
          have z3 := hP.y.c3
          have z4 := hP.y.f3
          have hw4 := hP.chg.size
          simp only [World.size_alloc] at hw4
          have HPP := Lib.hid hP
          clear hP y0 y1 y2 y3 y4 hown4 hgrow4 hat4 hg4
          go_wp2_with (at_builtin; go_must (refine wpList_append_own_at _ rfl _ _ 25 rfl (wl.heap.size + 1) 3 i0 (.int .i64 0) 1 8 Try.underlying25 hi0 hz0 hz1 hz2 rfl (by decide) _ _ _ rfl (HROWA4.out.alloc _) ⟨w4.heap.size, 0, none⟩ 1 1 [.int .i64 (j : Int)] rfl rfl ?f1 ?f2 ?f3 ?f4 ?f5 ?_))
          try case f1 =>
            intro i u h
            rcases i with _ | i
            · cases h; simp [go_sem, Addr.add]
            · cases h
          try case f2 => simp [Value.oneCell']
          try case f3 => unfold maxLen; omega
          try case f4 => omega
          try case f5 => first | omega | (simp; done) | (simp; omega)
          intro rv5 w5 hown5 hgrow5 _ hat5
          have hrb : ¬ wl.heap.size = w4.heap.size := by omega
          have hc5 : Chg (fun b => (Value.slice va j vc).ownBlock = some b) w4 w5 := (Chg.of_below ((Below.refl _ _).alloc (Nat.le_refl _) _)).trans (Chg.of_grown hgrow5 (fun k hk => hk)) (fun _ _ h => h)
          have hvB : ¬ (Value.slice va j vc).ownBlock = some wl.heap.size := fun e => by have := own_ge HROWA4.out _ e; omega
          have x3' := hc5.cell hvB z3
          have x4' : w5.frozen? ⟨wl.heap.size, 3, none⟩ = false := by rw [hc5.frozen hvB (by omega)]; exact z4
          have HA5 := Lib.hid (HPP.out.arg (z := (j : Int)) hc5 (by rw [HYL.out]; exact hown5) (hat5.elim .inl fun h => .inr ⟨_, h, by first | omega | (simp; done) | (simp; omega)⟩))
          obtain ⟨va5, vc5, rfl⟩ := own_shape hown5
          clear hown5 hgrow5 hat5 hc5 z3 z4 hvB
          go_wp2_with fail
          go_roundw
          case rel => exact ⟨j + 1, _, _, _, rfl, by go_num, by omega, by rw [HTK.out, HUP.out]; exact HA5.out⟩
          case measure => simp [intOf] <;> omega
        · obtain rfl : j = args.length := by omega
          rw [List.take_length] at HM HROW HCL
          have hfl : flags = 0 := HPR.out.ok.facts.2.2.1
          have HFL := Lib.hid hfl
          have hlw : wl.heap.size < wr.heap.size := by omega
          have hnw : ¬ wl.heap.size = wr.heap.size := by omega
          have hmk : ∀ w : World, (Instr.makeSlice 33 (.int .i64 4) (.int .i64 4)).run Try.prog w = .ok (.slice (some ⟨w.heap.size, 0, none⟩) 4 4) (w.alloc (.cells #[.int .u32 0, .int .u32 0, .int .u32 0, .int .u32 0] 34)) := fun _ => by kernel_rfl
          have HLIT : Hid ((args.map fun a => nd o a.toNat) ++ [(⟨op, wd, flags, upTo args.length, imm⟩ : Nd)] = lit o op wd args imm) := by show _ = _; rw [HFL.out]; rfl
          have HLI : Hid (∀ x ∈ lit o op wd args imm, 0 ≤ x.imm ∧ x.imm ≤ 4294967295) := fun x hx => by
            rcases List.mem_append.1 hx with hx | hx
            · obtain ⟨a, ha, rfl⟩ := List.mem_map.1 hx
              exact (HKN.out _ (mem_getD (by have := HRG.out a ha; omega))).imm
            · simp only [List.mem_singleton] at hx; subst hx; exact him
          have hok0 := HPR.out.ok
          rw [hfl] at hok0
          have HVL : Hid ((vals (lit o op wd args imm) [0, 0, 0, 0]).getD args.length 0 = vT op wd imm [0, 0, 0, 0] ((args.map fun a => tree o a.toNat).map Tr.w) ((args.map fun a => tree o a.toNat).map Tr.imm)) := lit_val HGD.out HRG.out HKK.out hok0 h0l HLI.out
          have HVZ := Lib.hid (lit_valid HGD.out HRG.out HKK.out hok0 h0l HLI.out)
          have HVN : Hid ((vals (lit o op wd args imm) [0, 0, 0, 0]).length = args.length + 1) := by show _ = _; rw [vals_len, lit_len]
          have HSG : Hid (simG op wd flags (args.map fun a => tree o a.toNat) imm = cst wd (vT op wd imm [0, 0, 0, 0] ((args.map fun a => tree o a.toNat).map Tr.w) ((args.map fun a => tree o a.toNat).map Tr.imm))) := by
            show _ = _
            unfold simG
            rw [if_pos HALL.out]
          have hvt := vT_zero HPR.out HALL.out.1 HALL.out.2
          have hpw := @pw_le32 wd (by have := HPR.out.ok.facts.2.1; omega)
          have HVC : Hid (∀ W gg cap zb, Nds W (.slice (some ⟨gg, 0, none⟩) (args.length + 1) cap) (lit o op wd args imm) → Ints .u32 W (.slice (some ⟨zb, 0, none⟩) 4 4) [0, 0, 0, 0] → Calls Try.prog 50 #[.slice (some ⟨gg, 0, none⟩) (args.length + 1) cap, .slice (some ⟨zb, 0, none⟩) 4 4] W fun e w' => ∃ v, e = .returned v ∧ Ints .u32 w' v (vals (lit o op wd args imm) [0, 0, 0, 0]) ∧ Below W.heap.size W w') := fun W gg cap zb h1 h2 => values_any (lit o op wd args imm) [0, 0, 0, 0] _ _ W h1 h2 HVZ.out HLI.out (env0_ok _)
          generalize vals (lit o op wd args imm) [0, 0, 0, 0] = vl at *
          generalize vT op wd imm [0, 0, 0, 0] ((args.map fun a => tree o a.toNat).map Tr.w) ((args.map fun a => tree o a.toNat).map Tr.imm) = vt at *
          have HAFT : Hid (∀ W w1 gg cap, Below wr.heap.size wr W → W.grownBy w1 (Value.slice na args.length nc).ownBlock → w1.ownsRow (wl.heap.size + 1) 47 5 (.slice (some ⟨gg, 0, none⟩) (args.length + 1) cap) (args.length + 1) (rowsC (args.map fun a => nd o a.toNat) avs ++ [.int .i64 op, .int .i64 wd, .int .i64 flags, .slice va args.length vc, .int .u32 imm]) → Nds w1 (.slice (some ⟨gg, 0, none⟩) (args.length + 1) cap) (lit o op wd args imm) ∧ Below wl.heap.size wl w1) := fun W w1 gg cap hW hg ho => by
            have hc : Chg (fun b => (Value.slice na args.length nc).ownBlock = some b) wr w1 := (Chg.of_below hW).trans (Chg.of_grown hg (fun k hk => hk)) (fun _ _ h => h)
            refine ⟨?_, HLW.out.trans (hc.below (by omega) fun k hk => by have := own_ge HROW.out k hk; omega)⟩
            rw [← HLIT.out]
            exact HM.out.nds hc (by rw [HCL.out]; exact ho) (by rw [HCL.out]; omega) (by rw [HYL.out]; omega)
          have HZER : Hid (∀ W w1 b, Ints .u32 W (.slice (some ⟨b, 0, none⟩) 4 4) [0, 0, 0, 0] → wr.heap.size ≤ b → W.grownBy w1 (Value.slice na args.length nc).ownBlock → Ints .u32 w1 (.slice (some ⟨b, 0, none⟩) 4 4) [0, 0, 0, 0]) := fun W w1 b h hb hg =>
            h.chg (Chg.of_grown hg (fun k hk => hk)) (fun k hk e => by
              have := own_lt HROW.out k e
              have hk' : b = k := by simpa [Value.ownBlock] using hk
              omega)
          have HNWA : Hid (∀ (j : Nat) (u : Value), ([.int .i64 op, .int .i64 wd, .int .i64 flags, .slice va args.length vc, .int .u32 imm] : List Value)[j]? = some u → ((wr.alloc (.cells #[.int .i64 op, .int .i64 wd, .int .i64 flags, .slice va args.length vc, .int .u32 imm] 47)).drew).cell? ((⟨wr.heap.size, 0, none⟩ : Addr).add j) = some u) := by
            intro i u h
            rcases i with _ | _ | _ | _ | _ | i <;> first | (cases h; simp [go_sem, Addr.add]) | cases h
          have HRWA : Hid (((wr.alloc (.cells #[.int .i64 op, .int .i64 wd, .int .i64 flags, .slice va args.length vc, .int .u32 imm] 47)).drew).ownsRow (wl.heap.size + 1) 47 5 (.slice na args.length nc) args.length (rowsC (args.map fun a => nd o a.toNat) avs)) := (HROW.out.alloc _).drew
          have HBWA : Hid (Below wr.heap.size wr ((wr.alloc (.cells #[.int .i64 op, .int .i64 wd, .int .i64 flags, .slice va args.length vc, .int .u32 imm] 47)).drew)) := ((Below.refl _ _).alloc (Nat.le_refl _) _).drew
          have HNWB : Hid (∀ (j : Nat) (u : Value), ([.int .i64 op, .int .i64 wd, .int .i64 flags, .slice va args.length vc, .int .u32 imm] : List Value)[j]? = some u → (((wr.alloc (.cells #[.int .i64 op, .int .i64 wd, .int .i64 flags, .slice va args.length vc, .int .u32 imm] 47)).alloc (.cells #[.int .u32 0, .int .u32 0, .int .u32 0, .int .u32 0] 34)).drew).cell? ((⟨wr.heap.size, 0, none⟩ : Addr).add j) = some u) := by
            intro i u h
            rcases i with _ | _ | _ | _ | _ | i <;> first | (cases h; simp [go_sem, Addr.add]) | cases h
          have HRWB : Hid ((((wr.alloc (.cells #[.int .i64 op, .int .i64 wd, .int .i64 flags, .slice va args.length vc, .int .u32 imm] 47)).alloc (.cells #[.int .u32 0, .int .u32 0, .int .u32 0, .int .u32 0] 34)).drew).ownsRow (wl.heap.size + 1) 47 5 (.slice na args.length nc) args.length (rowsC (args.map fun a => nd o a.toNat) avs)) := ((HROW.out.alloc _).alloc _).drew
          have HBWB : Hid (Below wr.heap.size wr (((wr.alloc (.cells #[.int .i64 op, .int .i64 wd, .int .i64 flags, .slice va args.length vc, .int .u32 imm] 47)).alloc (.cells #[.int .u32 0, .int .u32 0, .int .u32 0, .int .u32 0] 34)).drew)) := (((Below.refl _ _).alloc (Nat.le_refl _) _).alloc (by simp) _).drew
          have HZB : Hid (Ints .u32 (((wr.alloc (.cells #[.int .i64 op, .int .i64 wd, .int .i64 flags, .slice va args.length vc, .int .u32 imm] 47)).alloc (.cells #[.int .u32 0, .int .u32 0, .int .u32 0, .int .u32 0] 34)).drew) (.slice (some ⟨wr.heap.size + 1, 0, none⟩) 4 4) [0, 0, 0, 0]) := by
            show Ints _ _ _ _
            have := (zeros_ints (wr.alloc (.cells #[.int .i64 op, .int .i64 wd, .int .i64 flags, .slice va args.length vc, .int .u32 imm] 47))).stays ((Below.refl _ _).drew)
            simpa using this
          have HNWC : Hid (∀ (j : Nat) (u : Value), ([.int .i64 op, .int .i64 wd, .int .i64 flags, .slice va args.length vc, .int .u32 imm] : List Value)[j]? = some u → (((wr.alloc (.cells #[.int .u32 0, .int .u32 0, .int .u32 0, .int .u32 0] 34)).alloc (.cells #[.int .i64 op, .int .i64 wd, .int .i64 flags, .slice va args.length vc, .int .u32 imm] 47)).drew).cell? ((⟨wr.heap.size + 1, 0, none⟩ : Addr).add j) = some u) := by
            intro i u h
            rcases i with _ | _ | _ | _ | _ | i <;> first | (cases h; simp [go_sem, Addr.add]) | cases h
          have HRWC : Hid ((((wr.alloc (.cells #[.int .u32 0, .int .u32 0, .int .u32 0, .int .u32 0] 34)).alloc (.cells #[.int .i64 op, .int .i64 wd, .int .i64 flags, .slice va args.length vc, .int .u32 imm] 47)).drew).ownsRow (wl.heap.size + 1) 47 5 (.slice na args.length nc) args.length (rowsC (args.map fun a => nd o a.toNat) avs)) := ((HROW.out.alloc _).alloc _).drew
          have HBWC : Hid (Below wr.heap.size wr (((wr.alloc (.cells #[.int .u32 0, .int .u32 0, .int .u32 0, .int .u32 0] 34)).alloc (.cells #[.int .i64 op, .int .i64 wd, .int .i64 flags, .slice va args.length vc, .int .u32 imm] 47)).drew)) := (((Below.refl _ _).alloc (Nat.le_refl _) _).alloc (by simp) _).drew
          have HZC : Hid (Ints .u32 (((wr.alloc (.cells #[.int .u32 0, .int .u32 0, .int .u32 0, .int .u32 0] 34)).alloc (.cells #[.int .i64 op, .int .i64 wd, .int .i64 flags, .slice va args.length vc, .int .u32 imm] 47)).drew) (.slice (some ⟨wr.heap.size, 0, none⟩) 4 4) [0, 0, 0, 0]) := by
            show Ints _ _ _ _
            exact (zeros_ints wr).stays (((Below.refl _ _).alloc (Nat.le_refl _) _).drew)
          have hvt2 : 0 ≤ vt ∧ vt ≤ 4294967295 := by omega
          clear hvt hok0 hfl HVZ HLI
          go_wp2_with fail
          go_region_law (first
            | ((refine step_append_lies _ (by rfl) _ _ _ (by rfl) (wl.heap.size + 1) 47 n0 _ 5 56 Try.underlying22 hn0 hy0 hy1 hy2 rfl (by omega) (.slice na args.length nc) args.length (rowsC (args.map fun a => nd o a.toNat) avs) (by rfl) HRWA.out ⟨wr.heap.size, 0, none⟩ 1 1 [.int .i64 op, .int .i64 wd, .int .i64 flags, .slice va args.length vc, .int .u32 imm] (by rfl) (by rfl) HNWA.out (by simp [Value.oneCell']) (by omega) (by unfold maxLen; omega) (by omega) (by simp; omega) (wr.heap.size + 1) (by simp) ?_); intro gg cap w1 hown1 hgrow hat hlt1; have HNN := Lib.hid (HAFT.out _ _ _ _ HBWA.out hgrow hown1); have HEE : Hid True := trivial; clear hown1 hgrow hat)
            | ((refine step_append_lies _ (by rfl) _ _ _ (by rfl) (wl.heap.size + 1) 47 n0 _ 5 56 Try.underlying22 hn0 hy0 hy1 hy2 rfl (by omega) (.slice na args.length nc) args.length (rowsC (args.map fun a => nd o a.toNat) avs) (by rfl) HRWB.out ⟨wr.heap.size, 0, none⟩ 1 1 [.int .i64 op, .int .i64 wd, .int .i64 flags, .slice va args.length vc, .int .u32 imm] (by rfl) (by rfl) HNWB.out (by simp [Value.oneCell']) (by omega) (by unfold maxLen; omega) (by omega) (by simp; omega) (wr.heap.size + 2) (by simp) ?_); intro gg cap w1 hown1 hgrow hat hlt1; have HNN := Lib.hid (HAFT.out _ _ _ _ HBWB.out hgrow hown1); have HEE := Lib.hid (HZER.out _ _ _ HZB.out (by omega) hgrow); clear hown1 hgrow hat)
            | ((refine step_append_lies _ (by rfl) _ _ _ (by rfl) (wl.heap.size + 1) 47 n0 _ 5 56 Try.underlying22 hn0 hy0 hy1 hy2 rfl (by omega) (.slice na args.length nc) args.length (rowsC (args.map fun a => nd o a.toNat) avs) (by rfl) HRWC.out ⟨wr.heap.size + 1, 0, none⟩ 1 1 [.int .i64 op, .int .i64 wd, .int .i64 flags, .slice va args.length vc, .int .u32 imm] (by rfl) (by rfl) HNWC.out (by simp [Value.oneCell']) (by omega) (by unfold maxLen; omega) (by omega) (by simp; omega) (wr.heap.size + 2) (by simp) ?_); intro gg cap w1 hown1 hgrow hat hlt1; have HNN := Lib.hid (HAFT.out _ _ _ _ HBWC.out hgrow hown1); have HEE := Lib.hid (HZER.out _ _ _ HZC.out (by omega) hgrow); clear hown1 hgrow hat)
            | (go_simp; go_at_call 50; (with_reducible refine (HVC.out _ _ _ _ HNN.out.1 HEE.out).mono ?_); rintro e w2 ⟨v, rfl, hv, hb2⟩; have HV2 := Lib.hid hv; have HB2 : Hid (Below wl.heap.size wl w2) := below_hop' HNN.out.2 hb2 HNN.out.2.size; clear hv hb2)
            | (go_simp; go_at_call 50; (with_reducible refine (HVC.out _ _ _ _ (HNN.out.1.stays ((Below.refl _ _).alloc (Nat.le_refl _) _)) (zeros_ints _)).mono ?_); rintro e w2 ⟨v, rfl, hv, hb2⟩; have HV2 := Lib.hid hv; have HB2 : Hid (Below wl.heap.size wl w2) := below_hop' (HNN.out.2.alloc HNN.out.2.size _) hb2 (by have := HNN.out.2.size; simp; omega); clear hv hb2))
          all_goals
            obtain ⟨lb, lq, lc, rfl, _, hlb, hcell⟩ := HV2.out.at (j := args.length) (by rw [HVN.out]; omega)
            rw [HVL.out] at hcell
            have hwr : IntKind.i64.wrap ((vl.length : Int) - 1) = (args.length : Int) := by
              rw [HVN.out, show ((args.length + 1 : Nat) : Int) - 1 = (args.length : Int) by omega]
              exact IntWalk.i64_in _ (by omega)
            have hix : (args.length : Int) < (vl.length : Int) := by rw [HVN.out]; omega
            have HBC := Lib.hid (below_hop' HBW.out HB2.out (by simp; omega))
            go_wp2_with fail
            refine (HCN.out _ HBC.out vt hvt2).mono ?_
            rintro e w8 ⟨rfl, hp8⟩
            have HP8 := Lib.hid hp8
            clear hp8
            go_wp2_with fail
            go_ret
            exact smp_cst HSG.out (HHOP.out _ HBC.out) HP8.out
end Go.Proofs.Ythopdfikikdcbaa
/- simple as the step of from. -/
namespace Go.Proofs.Ythopdfikikdcbaa
open Go.RowKit Go.Maps Wd
set_option linter.unusedVariables false
set_option linter.unusedSimpArgs false
theorem simple_any (bb : Nat) (o : List Nd) (T : Nat → Prop) (y : Nd) (aa : Option Addr) (ac : Nat) (w : World) (h : Bld bb o T w) (hg : Good o) (hr : ∀ a ∈ y.args, 0 ≤ a ∧ a < (o.length : Int)) (hpre : Pre y.op y.width y.flags y.imm (y.args.map fun a => tree o a.toNat)) (hF : IntsF w (.slice aa y.args.length ac) y.args) (hav : ∀ b, (Value.slice aa y.args.length ac).ownBlock = some b → ¬ T b ∧ b < w.heap.size) (hx : NdK y) (hl : o.length ≤ 2000) :
    Calls Try.prog 72 #[.pointer (some ⟨bb, 0, none⟩), ndA y (.slice aa y.args.length ac)] w fun e w' => e = .returned (.int .i64 (stepS o y).2) ∧
      ∃ T', Bld bb (stepS o y).1 T' w' ∧ (∀ b, T' b → T b ∨ w.heap.size ≤ b ∨ (Value.slice aa y.args.length ac).ownBlock = some b) ∧ Chg T w w' := by
  obtain ⟨op, wd, flags, args, imm⟩ := y
  show Calls _ _ _ _ (SmPost bb o T w (.slice aa args.length ac) (simG op wd flags (args.map fun a => tree o a.toNat) imm))
  by_cases hall : (args.map fun a => tree o a.toNat) ≠ [] ∧ ∀ t ∈ args.map fun a => tree o a.toNat, t.op = 0
  · exact simple_all bb o T op wd flags imm args aa ac w h hg hr hpre hF hav hx hl hall
  by_cases h15 : op = 15
  · subst h15; exact simple_sel bb o T wd flags imm args aa ac w h hg hr hpre hF hav hx hl hall
  by_cases h14 : op = 14
  · subst h14; exact simple_cmp bb o T wd flags imm args aa ac w h hg hr hpre hF hav hx hl hall
  by_cases h13 : 1 ≤ op ∧ op ≤ 13
  · exact simple_ari bb o T op wd flags imm args aa ac w h hg hr hpre hF hav hx hl hall h13
  · have hf := hpre.ok.facts
    have hc := arV_cases op
    exact simple_other bb o T op wd flags imm args aa ac w h hg hr hpre hF hav hx hl hall (by have h1 := hf.1; have h2 := hf.2.2.2.2.2.1; simp only at h1 h2; omega)
theorem made_simple (bb : Nat) (ts : List Nd) (w0 : World) (hv : valE ts = 0) (hI : ∀ x ∈ ts, 0 ≤ x.imm ∧ x.imm ≤ 4294967295) :
    MadeOk stepS (Bld bb) (JS ts) ts w0 72 #[.pointer (some ⟨bb, 0, none⟩)] #[] := by
  intro s nos k T w av hj hk hun ht hi hF hav hTB hb
  obtain ⟨_, hpre, _⟩ := hj.pre hv hI hk ht
  obtain ⟨v1, v2, _⟩ := valid_facts hv
  have h1 := hj.sz
  have h2 := cnt_le nos
  have h3 := hj.len
  have hy : ∀ a ∈ (gnd ts k nos).args, 0 ≤ a ∧ a < (s.length : Int) := fun a ha' => by
    obtain ⟨b, hb, rfl⟩ := List.mem_map.1 (show a ∈ (nd ts k).args.map fun a => gno nos a.toNat from ha')
    exact ⟨ht b hb, hj.rng _ (ht b hb)⟩
  have hx := ndV_of hv hI k hk
  have hkey : NdK (gnd ts k nos) := { op := hx.op, width := hx.width, flags := hx.flags, len := (by show ((nd ts k).args.map _).length ≤ 3; rw [List.length_map]; exact hx.len), args := fun a ha => by have := hy a ha; omega, imm := hx.imm }
  obtain ⟨aa, ac, rfl, _⟩ := hF.ints.shape
  exact simple_any bb s T (gnd ts k nos) aa ac w hi hj.good hy hpre hF (fun b hb => ⟨(hav b hb).1, (hav b hb).2.1⟩) hkey (by omega)
theorem callf_simple (args : Array Value) (w : World) : (callFunc 72 args).run Try.prog w = .ok (.enter 72 args) w := by kernel_rfl
end Go.Proofs.Ythopdfikikdcbaa
/- Contracts of Simplify. -/
namespace Go.Proofs.Ythopdfikikdcbaa
open Go.RowKit Go.Maps Wd
set_option linter.unusedVariables false
set_option linter.unusedSimpArgs false
set_option maxRecDepth 100000 in
set_option maxHeartbeats 2000000 in
theorem pSimplify_no (ts : List Nd) (tv : Value) (w : World) (h : valE ts ≠ 0) (hI : ∀ x ∈ ts, 0 ≤ x.imm ∧ x.imm ≤ 4294967295) (hts : Nds w tv ts) :
    Calls Try.prog 43 #[tv] w fun e w' => e = .returned (.tuple #[.slice none 0 0, .int .i64 (valE ts)]) ∧ Below w.heap.size w w' := by
  have HP := Lib.hid (pValidate ts tv w hts hI)
  clear hts hI
  have hne : (valE ts != 0) = true := by simpa using h
  clear h
  go_enter Try.func43, Try.ntmps43
  go_wp2_with fail
  refine (HP.out).mono ?_
  rintro e w1 ⟨rfl, hb1⟩
  have HB1 := Lib.hid hb1
  clear hb1
  go_wp2_with fail
  go_ret2
  exact ⟨rfl, HB1.out⟩
set_option maxRecDepth 100000 in
set_option maxHeartbeats 2000000 in
theorem pSimplify_ok (ts : List Nd) (tv : Value) (w : World) (h : valE ts = 0) (hI : ∀ x ∈ ts, 0 ≤ x.imm ∧ x.imm ≤ 4294967295) (hts : Nds w tv ts) :
    Calls Try.prog 43 #[tv] w fun e w' => ∃ v, e = .returned (.tuple #[v, .int .i64 0]) ∧ Nds w' v (outS ts) ∧ Below w.heap.size w w' := by
  obtain ⟨v1, v2, _⟩ := valid_facts h
  have HT := Lib.hid hts
  have HE := Lib.hid h
  have HI := Lib.hid hI
  have HP := Lib.hid (pValidate ts tv w hts hI)
  have HOL : Hid ((outS ts).length ≤ 100000) := by
    show _ ≤ _
    have := valid_facts (outS_facts h hI).1
    omega
  have HC : Hid (∀ w1, Below w.heap.size w w1 → ∀ bv, Calls Try.prog 66 #[bv, tv, .int .i64 ((ts.length - 1 : Nat) : Int), .map (some (w1.heap.size + 1)), .func (.func 72) #[.pointer (some ⟨w1.heap.size, 0, none⟩)] #[]] ((w1.alloc (.cells #[.slice none 0 0, .map none] 106)).alloc (.map #[] 0)) fun e w' => e = .returned (.int .i64 (gno (gvis stepS ts (ts.length - 1 + 1) (ts.length - 1) ([], List.replicate ts.length (-1))).2 (ts.length - 1))) ∧ FrP (Bld w1.heap.size) (w1.heap.size + 1) (fun b => b = w1.heap.size) ((w1.alloc (.cells #[.slice none 0 0, .map none] 106)).alloc (.map #[] 0)) (gvis stepS ts (ts.length - 1 + 1) (ts.length - 1) ([], List.replicate ts.length (-1))) w') := fun w1 hb1 bv => by
    have hb2 : Below w1.heap.size w1 ((w1.alloc (.cells #[.slice none 0 0, .map none] 106)).alloc (.map #[] 0)) := ((Below.refl _ _).alloc (Nat.le_refl _) _).alloc (by simp) _
    have hbld : Bld w1.heap.size [] (fun b => b = w1.heap.size) ((w1.alloc (.cells #[.slice none 0 0, .map none] 106)).alloc (.map #[] 0)) := bld_made ((Below.refl _ _).alloc (Nat.le_refl _) _)
    have hseen : SeenIs ((w1.alloc (.cells #[.slice none 0 0, .map none] 106)).alloc (.map #[] 0)) (w1.heap.size + 1) (List.replicate ts.length (-1)) := by
      have := SeenIs.made (w := w1.alloc (.cells #[.slice none 0 0, .map none] 106)) (n := ts.length) (by omega)
      rw [show (w1.alloc (.cells #[.slice none 0 0, .map none] 106)).heap.size = w1.heap.size + 1 by simp] at this
      exact this
    exact from_any (step := stepS) (I := Bld w1.heap.size) (J := JS ts) ts tv bv w1 _ _ _ callf_simple (valid_down h) (gjS h hI) (iok_bld w1.heap.size) (hts.stays hb1) (args_le h hI) (made_simple w1.heap.size ts w1 h hI) (ts.length - 1 + 1) (ts.length - 1) [] (List.replicate ts.length (-1)) (fun b => b = w1.heap.size) _ (w1.heap.size + 1) (by omega) (by omega) (js_start ts) hbld hseen (by omega) (by omega) (fun b h => by omega) hb2
  have HSS : Hid (∀ c, gvis stepS ts (ts.length - 1 + 1) (ts.length - 1) ([], List.replicate ts.length (-1)) = c → Down c.1 ∧ 0 ≤ gno c.2 (ts.length - 1) ∧ (gno c.2 (ts.length - 1)).toNat < c.1.length ∧ shr c.1 (gno c.2 (ts.length - 1)).toNat = outS ts ∧ c.1.length ≤ ts.length) := fun c hc => sim_share h hI hc
  rw [show ((ts.length - 1 : Nat) : Int) = IntKind.i64.wrap ((ts.length : Int) - 1) by rw [IntWalk.i64_in _ (by omega)]; omega] at HC
  obtain ⟨ta, tc, rfl, ht1, ht2⟩ := hts.shape
  clear hts h hI
  obtain ⟨hmk⟩ : Nonempty (∀ w : World, (Instr.makeMap 108 none).run Try.prog w = .ok (.map (some w.heap.size)) (w.alloc (.map #[] 0))) := ⟨fun _ => by kernel_rfl⟩
  have hwr : IntKind.i64.wrap ((ts.length : Int) - 1) = (ts.length : Int) - 1 := IntWalk.i64_in _ (by omega)
  rw [hwr] at HC
  go_enter Try.func43, Try.ntmps43
  go_wp2_with fail
  refine (HP.out).mono ?_
  rintro e w1 ⟨rfl, hb1⟩
  rw [HE.out]
  have HB1 := Lib.hid hb1
  clear hb1
  go_wp2_with fail
  refine (HC.out w1 HB1.out _).mono ?_
  rintro e w2 ⟨rfl, hp⟩
  obtain ⟨c, hc⟩ : ∃ c, gvis stepS ts (ts.length - 1 + 1) (ts.length - 1) ([], List.replicate ts.length (-1)) = c := ⟨_, rfl⟩
  have hss := HSS.out c hc
  rw [hc] at hp ⊢
  clear hc
  obtain ⟨o, nos⟩ := c
  obtain ⟨s1, s2, s3, s4, s5⟩ := hss
  simp only at s1 s2 s3 s4 s5
  obtain ⟨T', hB, hS, hT, hch⟩ := hp
  simp only at hB hS ⊢
  generalize gno nos (ts.length - 1) = g at *
  obtain ⟨m, rfl⟩ := Int.eq_ofNat_of_zero_le s2
  rw [Int.toNat_natCast] at s3 s4
  obtain ⟨W, R, nv, fv, avs, hW, hb⟩ := hB
  have c0 := hb.b0
  have hN := hb.nds (by omega)
  have HSH := Lib.hid (share_any o nv w2 m hN s1 (ndV_of_K hb.kn) s3 (by omega))
  rw [s4] at HSH
  have HB2 : Hid (Below w.heap.size w w2) := below_hop HB1.out ((((Below.refl _ _).alloc (Nat.le_refl _) _).alloc (by simp) _).trans (hch.below (B := w1.heap.size) (by simp; omega) fun j hj => by omega))
  clear hb hW hT hch hS hN hmk s1 s2 s3 s4
  go_wp2_with fail
  refine HSH.out.mono ?_
  rintro e w3 ⟨v, rfl, hs⟩
  have HS3 := Lib.hid hs
  clear hs
  go_wp2_with fail
  go_ret2
  exact ⟨v, rfl, HS3.out.nds HOL.out, below_hop HB2.out HS3.out.bel⟩
end Go.Proofs.Ythopdfikikdcbaa
/- Walk of the law TermSimplifies. -/
namespace Go.Proofs.Ythopdfikikdcbaa
open Go.RowKit Go.Maps Wd
set_option linter.unusedVariables false
set_option linter.unusedSimpArgs false
set_option maxRecDepth 100000 in
set_option maxHeartbeats 2000000 in
theorem wTermSimplifies (ts : List Nd) (env : List Int) (tv ev : Value) (w : World) (hts : Nds w tv ts) (hev : Ints .u32 w ev env) (hi : ∀ x ∈ ts, 0 ≤ x.imm ∧ x.imm ≤ 4294967295) (hE : ∀ x ∈ env, 0 ≤ x ∧ x ≤ 4294967295) : Calls Try.prog 10 #[tv, ev] w fun e w' => e = .returned (.bool true) ∧ Below w.heap.size w w' := by
  have HT := Lib.hid hts
  have HI := Lib.hid hi
  have HEV := Lib.hid hev
  have HE := Lib.hid hE
  obtain ⟨ta, tc, rfl, ht1, ht2⟩ := hts.shape
  obtain ⟨ea, ec, rfl, he1, he2⟩ := hev.shape
  clear hi hts hev hE
  have kn : ∀ w : World, Calls Try.prog 12 #[] w fun e w' => e = .returned (.bool true) ∧ Below w.heap.size w w' := known7
  have KN := Lib.hid kn
  clear kn
  cases hl : longB ts
  rotate_left
  · go_enter Try.func10, Try.ntmps10
    go_wp2_with fail
    refine (long_any ts _ _ HT.out).mono ?_
    rintro e w' ⟨rfl, rfl⟩
    go_wp2_with fail
    refine (KN.out _).mono ?_
    rintro e w8 ⟨rfl, hb8⟩
    go_wp2_with fail
    go_ret
    exact ⟨rfl, hb8⟩
  cases hl2 : decide (100 < (env.length : Int))
  rotate_left
  · go_enter Try.func10, Try.ntmps10
    go_wp2_with fail
    refine (long_any ts _ _ HT.out).mono ?_
    rintro e w' ⟨rfl, rfl⟩
    go_wp2_with fail
    refine (KN.out _).mono ?_
    rintro e w8 ⟨rfl, hb8⟩
    go_wp2_with fail
    go_ret
    exact ⟨rfl, hb8⟩
  by_cases h : valE ts = 0
  rotate_left
  · have HP := Lib.hid (pSimplify_no ts (.slice ta ts.length tc) w h HI.out HT.out)
    have hne : (valE ts != 0) = true := by simpa using h
    have HL : Hid (shrL ts = []) := by show _ = _; unfold shrL; rw [if_neg h]
    clear h
    go_enter Try.func10, Try.ntmps10
    go_wp2_with fail
    refine (long_any ts _ _ HT.out).mono ?_
    rintro e w' ⟨rfl, rfl⟩
    go_wp2_with fail
    refine HP.out.mono ?_
    rintro e w3 ⟨rfl, hb3⟩
    have HB3 := Lib.hid hb3
    clear hb3
    go_wp2_with fail
    refine (rShare ts _ w3 HI.out (HT.out.stays HB3.out)).mono ?_
    rintro e w4 ⟨v, rfl, hv, hb4⟩
    rw [HL.out] at hv
    obtain ⟨a4, c4, rfl, _⟩ := hv.shape
    have HB4 := Lib.hid (below_hop HB3.out hb4)
    clear hb4 hv HP HL
    generalize valE ts = je at *
    go_wp2_with fail
    refine (KN.out _).mono ?_
    rintro e w8 ⟨rfl, hb8⟩
    go_wp2_with fail
    go_ret
    exact ⟨rfl, below_hop HB4.out hb8⟩
  obtain ⟨f1, f2, f3, f4, f5⟩ := outS_facts h HI.out
  obtain ⟨v1, v2, _⟩ := valid_facts h
  obtain ⟨u1, u2, _⟩ := valid_facts f1
  have HP := Lib.hid (pSimplify_ok ts (.slice ta ts.length tc) w h HI.out HT.out)
  have H0 := Lib.hid h
  have HL : Hid (shrL ts = shr ts (ts.length - 1)) := by show _ = _; unfold shrL; rw [if_pos h]
  have F1 := Lib.hid f1
  have F4 := Lib.hid f4
  have F5 := Lib.hid (f5 env HE.out)
  have hsl : (shr ts (ts.length - 1)).length ≤ 100000 := by
    have := valid_facts (shr_valid h HI.out (k := ts.length - 1) (by omega))
    omega
  clear h f1 f4 f5
  go_enter Try.func10, Try.ntmps10
  go_wp2_with fail
  refine (long_any ts _ _ HT.out).mono ?_
  rintro e w' ⟨rfl, rfl⟩
  go_wp2_with fail
  refine HP.out.mono ?_
  rintro e w3 ⟨v3, rfl, hv3, hb3⟩
  have HB3 := Lib.hid hb3
  have HV3 := Lib.hid hv3
  obtain ⟨a3, c3, rfl, _⟩ := hv3.shape
  clear hb3 hv3
  go_wp2_with fail
  refine (rShare ts _ w3 HI.out (HT.out.stays HB3.out)).mono ?_
  rintro e w4 ⟨v4, rfl, hv4, hb4⟩
  rw [HL.out] at hv4
  rw [H0.out]
  have HV3' := Lib.hid (HV3.out.stays hb4)
  have HV4 := Lib.hid hv4
  obtain ⟨a4, c4, rfl, _⟩ := hv4.shape
  have HB4 := Lib.hid (below_hop HB3.out hb4)
  have HVA : Hid (∀ wk, Since w4 wk → Calls Try.prog 18 #[.slice a3 (outS ts).length c3] wk fun e w' => e = .returned (.int .i64 0) ∧ Below wk.heap.size wk w') := fun wk hk => by
    have := rValidate (outS ts) _ wk (HV3'.out.stays hk) F4.out
    rw [F1.out] at this
    exact this
  have HE2 : Hid (∀ wk, Below w4.heap.size w4 wk → Calls Try.prog 21 #[.slice a3 (outS ts).length c3, .slice ea env.length ec] wk fun e w' => e = .returned (.tuple #[.int .u32 (evV (outS ts) env), .int .i64 (vaE (outS ts) env)]) ∧ Below wk.heap.size wk w') := fun wk hk => rEval (outS ts) env _ _ wk (HV3'.out.stays hk) (HEV.out.stays (below_hop HB4.out hk)) F4.out HE.out
  clear hb4 hv4 HP HL HV3 F1 F4
  generalize shr ts (ts.length - 1) = bs at *
  generalize outS ts = os at *
  have hbl : 1 ≤ bs.length := by omega
  obtain ⟨ma, HMA⟩ : ∃ m, Hid (os.length = m + 1) := ⟨os.length - 1, by show _ = _; omega⟩
  obtain ⟨mb, HMB⟩ : ∃ m, Hid (bs.length = m + 1) := ⟨bs.length - 1, by show _ = _; omega⟩
  have hwa : IntKind.i64.wrap ((os.length : Int) - 1) = (ma : Int) := by rw [IntWalk.i64_in _ (by omega), HMA.out]; omega
  have hwb : IntKind.i64.wrap ((bs.length : Int) - 1) = (mb : Int) := by rw [IntWalk.i64_in _ (by omega), HMB.out]; omega
  have hia : (ma : Int) < (os.length : Int) := by rw [HMA.out]; omega
  have hib : (mb : Int) < (bs.length : Int) := by rw [HMB.out]; omega
  have hle : decide ((bs.length : Int) < (os.length : Int)) = false := decide_eq_false (by omega)
  have hle2 : decide (bs.length < os.length) = false := decide_eq_false (by omega)
  rw [show os.length - 1 = ma by rw [HMA.out]; omega, show bs.length - 1 = mb by rw [HMB.out]; omega] at f3
  obtain ⟨b, q, c', av, e', _, hbq, hav, c0, c1, c2, c3', c4'⟩ := HV3'.out.at2 (Below.refl _ _) (k := ma) (by rw [HMA.out]; omega)
  cases e'
  obtain ⟨b', q', c'', av', e', _, hbq', hav', d0, d1, d2, d3, d4⟩ := HV4.out.at2 (Below.refl _ _) (k := mb) (by rw [HMB.out]; omega)
  cases e'
  have hf3 : (os.getD ma default).width = (bs.getD mb default).width := f3
  rw [hf3] at c1
  generalize (bs.getD mb default).width = wz at *
  have h00 := Since.refl w4
  have r0 : ∀ wk, Since w4 wk → wk.cell? ⟨b, q + ma * 5 + 1, none⟩ = some (.int .i64 wz) := fun wk h => h.cell c1
  have r1 : ∀ wk, Since w4 wk → wk.cell? ⟨b', q' + mb * 5 + 1, none⟩ = some (.int .i64 wz) := fun wk h => h.cell d1
  clear c0 c1 c2 c3' c4' d0 d1 d2 d3 d4 hav hav' f3 hf3
  go_wp2_with fail
  go_region_held3 (fun wk => Since w4 wk) (first | assumption | exact Since.drew (by assumption) | exact Since.next (by assumption) (by assumption)) (first | (go_at_call 18; (with_reducible refine (HVA.out _ (by assumption)).mono ?_); rintro e w' ⟨rfl, hb⟩))
  clear h00
  have HS5 := Lib.hid (show Since w4 _ by assumption)
  have HB5 := Lib.hid (below_hop HB4.out HS5.out)
  have HE1 := Lib.hid (rEval ts env (.slice ta ts.length tc) (.slice ea env.length ec) _ (HT.out.stays HB5.out) (HEV.out.stays HB5.out) HI.out HE.out)
  clear r0 r1
  go_wp2_with fail
  refine HE1.out.mono ?_
  rintro e w6 ⟨rfl, hb6⟩
  have HS6 := Lib.hid (below_hop HS5.out hb6)
  have HB6 := Lib.hid (below_hop HB5.out hb6)
  clear hb6
  by_cases h1 : vaE ts env = 0
  rotate_left
  · have h1b : (vaE ts env != 0) = true := by simpa using h1
    clear h1
    go_wp2_with fail
    refine (KN.out _).mono ?_
    rintro e w9 ⟨rfl, hb9⟩
    go_wp2_with fail
    go_ret
    exact ⟨rfl, below_hop HB6.out hb9⟩
  rw [h1]
  have HE3 := Lib.hid (HE2.out _ HS6.out)
  have H1 := Lib.hid h1
  clear h1
  go_wp2_with fail
  refine HE3.out.mono ?_
  rintro e w7 ⟨rfl, hb7⟩
  have HB7 := Lib.hid (below_hop HB6.out hb7)
  clear hb7
  by_cases h2 : vaE os env = 0
  rotate_left
  · have h2b : (vaE os env != 0) = true := by simpa using h2
    clear h2
    go_wp2_with fail
    refine (KN.out _).mono ?_
    rintro e w9 ⟨rfl, hb9⟩
    go_wp2_with fail
    go_ret
    exact ⟨rfl, below_hop HB7.out hb9⟩
  rw [F5.out H1.out h2, h2]
  clear h2
  generalize evV os env = n at *
  go_wp2_with fail
  refine (KN.out _).mono ?_
  rintro e w9 ⟨rfl, hb9⟩
  go_wp2_with fail
  go_ret
  exact ⟨rfl, below_hop HB7.out hb9⟩
end Go.Proofs.Ythopdfikikdcbaa
/- How a law's statement follows from its walk: it returned true, and what was there is as it was. -/
namespace Go.Proofs.Ythopdfikikdcbaa
open Go.RowKit Go.WideShapes Go.ChangeShapes
section
variable {H : Type} {enc : TypeId × Value → H} {P : Program}
theorem trodAll_stays (hl : laidOutB P = true) {W W' : World} (hb : Below W.heap.size W W') (sp : Nat → Bool) : ∀ (ts : List TypeId) (vs : List Value) (ds : List (DataW H)) (ps : List MemPlace),
    (∀ t ∈ ts, P.readableRec t = true ∧ t < P.types.size) → DataW.TrodAll enc P W 0 (fun _ => true) true ts vs ds ps → (∀ x ∈ ps, x.block < W.heap.size) → (∀ p ∈ ps, sp p.block = true) → DataW.TrodAll enc P W' 0 sp true ts vs ds ps
  | [], vs, ds, ps, _, h, _, _ => by
    obtain ⟨rfl, rfl, rfl⟩ := trodAll_nil h
    exact trodAll_mk0
  | t :: ts, vs, ds, ps, ht, h, hlt, hsp => by
    obtain ⟨v, vs', d, ds', p, q, rfl, rfl, rfl, h1, h2⟩ := trodAll_cons h
    have h3 := ht t (List.mem_cons_self ..)
    exact trodAll_cons_mk (WideElems.Trod_stays hl h3.1 h3.2 h1 (fun x hx => hb.same (hlt x (List.mem_append.2 (.inl hx)))) (fun x hx => hsp x (List.mem_append.2 (.inl hx))))
      (trodAll_stays hl hb sp ts vs' ds' q (fun t' h' => ht t' (List.mem_cons_of_mem _ h')) h2 (fun x hx => hlt x (List.mem_append.2 (.inr hx))) (fun x hx => hsp x (List.mem_append.2 (.inr hx))))
theorem post_below {f : Func} {s : ChangeSpec} {apart fresh handsOn again : Bool} {W W' : World} {args : Array Value} {v : Value} {ds gs : List (DataW H)} {before pa pv : List MemPlace}
    (hW : DataW.Whole enc P f.params.toList s.vars apart W args.toList ds gs before)
    (hres : ∀ (b : Nat) (sp : Nat → Bool) (hd : Bool), DataW.TrodAll enc P W' b sp hd f.resultTypes.toList (v.resultList f.resultTypes.size) (s.fn H (ds ++ gs)).results [])
    (hargs : ∀ sp : Nat → Bool, (∀ p ∈ before, sp p.block = true) → DataW.TrodAll enc P W' 0 sp true f.params.toList args.toList (s.fn H (ds ++ gs)).args pa)
    (hvars : ∀ sp : Nat → Bool, (∀ p ∈ before, sp p.block = true) → DataW.TrodVars enc P W' sp s.vars (s.fn H (ds ++ gs)).vars pv)
    (hps : before = pa ++ pv) (hb : Below W.heap.size W W')
    (hok : ∀ (j : Nat) (t : TypeId) (r : Value), f.resultTypes[j]? = some t → (v.resultList f.resultTypes.size)[j]? = some r → Value.okWide P W' .any 0 t r) :
    s.post enc P f apart fresh handsOn again W args v W' := by
  have hlt : ∀ p ∈ before, p.block < W.heap.size := fun p hp => hW.lt p hp
  have hold : ∀ p ∈ before, (fun b => decide (b < W.heap.size)) p.block = true := fun p hp => by simpa using hlt p hp
  refine ⟨ds, gs, before, [], pa, pv, hW, hres _ _ _, hargs _ hold, hvars _ hold, World.keptBut_mono (fun p hp => ⟨hp, ?_⟩) (hb.frame (· ∈ before)), fun _ => ?_⟩
  · rw [hps, List.mem_append] at hp
    exact Or.inr hp
  · obtain ⟨_, _, _, _, _, hz, hn⟩ := hW
    refine ⟨hok, _, _, ([] ++ pa) ++ pv, ⟨[] ++ pa, pv, trodAll_append (hargs _ (fun _ _ => rfl)) (hres _ _ _), hvars _ (fun _ _ => rfl), rfl, ?_, ?_⟩, ?_⟩
    · intro b off hp
      have hin : MemPlace.cell b off ∈ before := by rw [hps]; simpa using hp
      rw [hb.frozen (hlt _ hin)]
      exact hz b off hin
    · intro ha
      have := hn ha
      rw [hps] at this
      simpa using this
    · intro p hp _
      rw [hps]
      simpa using hp
/-- A law that returned true and left alone what it found. -/
theorem post_law {f : Func} {s : ChangeSpec} {apart fresh handsOn again : Bool} {W W' : World} {args : Array Value} {ds gs : List (DataW H)} {before : List MemPlace} {tb : TypeId}
    (hl : laidOutB P = true) (hts : ∀ t ∈ f.params.toList, P.readableRec t = true ∧ t < P.types.size) (hres : f.resultTypes = #[tb]) (htb : P.underlying tb = some .bool) (hv : s.vars = [])
    (hW : DataW.Whole enc P f.params.toList s.vars apart W args.toList ds gs before) (hfn : s.fn H (ds ++ gs) = { results := [.lit (.bool true)], args := ds }) (hb : Below W.heap.size W W') :
    s.post enc P f apart fresh handsOn again W args (.bool true) W' := by
  have hW2 := hW
  obtain ⟨p, q, hA, hV, rfl, _, _⟩ := hW2
  rw [hv] at hV
  obtain ⟨rfl, rfl⟩ := trodVars_none hV
  refine post_below (pa := p) (pv := []) hW (fun b sp hd => ?_) (fun sp hsp => ?_) (fun sp _ => ?_) rfl hb (ok_one hres rfl (okWide_bool_mk htb _))
  · rw [hfn, hres]
    exact trodAll_mk1 (shut_bool htb _)
  · rw [hfn]
    exact trodAll_stays hl hb sp _ _ _ _ hts hA (fun x hx => hW.lt x (List.mem_append.2 (.inl hx))) (fun x hx => hsp x (List.mem_append.2 (.inl hx)))
  · rw [hfn, hv]
    trivial
end
end Go.Proofs.Ythopdfikikdcbaa
