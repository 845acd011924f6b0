/- Walk of the builder's add. -/
import Derived.Test.YthopdfikikdcbaaBld
import Derived.Test.YthopdfikikdcbaaTj
import Derived.Laws.IdiomCopy
import Derived.Maps.AppendAt
import Derived.Deep.RegionLaw
import Derived.Deep.RegionHeld3
import Derived.Deep.AppendLies
import Derived.Deep.QuietTactic
import Derived.BigQuiet
namespace Go.Proofs.Ythopdfikikdcbaa
open Go.RowKit Go.Maps Wd
set_option linter.unusedVariables false
set_option linter.unusedSimpArgs false
theorem setCells_one (w : World) (b o : Nat) (v : Value) : w.setCells b o [v] = w.setCell ⟨b, o, none⟩ v := rfl
theorem setCells_two (w : World) (b o : Nat) (u v : Value) : w.setCells b o [u, v] = (w.setCell ⟨b, o, none⟩ u).setCell ⟨b, o + 1, none⟩ v := rfl
theorem setCells_three (w : World) (b o : Nat) (u v x : Value) : w.setCells b o [u, v, x] = ((w.setCell ⟨b, o, none⟩ u).setCell ⟨b, o + 1, none⟩ v).setCell ⟨b, o + 1 + 1, none⟩ x := rfl
/-- The copy of the Args into the key. -/
theorem copy_key (w : World) (xb : Obj) (a b c : Value) (args : List Int) (aa : Option Addr) (ac : Nat) (hv : Ints .i64 w (.slice aa args.length ac) args) (hl : args.length ≤ 3) :
    (Builtin.copy_ #[25, 25] 3 #[.slice (some ⟨w.heap.size + 1, 3, none⟩) 3 3, .slice aa args.length ac]).run Try.prog (((w.alloc xb).alloc (.cells #[a, b, c, .int .i64 (-1), .int .i64 (-1), .int .i64 (-1)] 131)).drew) =
      .ok (goInt args.length) (((w.alloc xb).alloc (.cells #[a, b, c, .int .i64 (args.getD 0 (-1)), .int .i64 (args.getD 1 (-1)), .int .i64 (args.getD 2 (-1))] 131)).drew) := by
  have hu : Try.prog.underlying 25 = some (.slice 3) := Try.underlying25
  have hs : (Try.prog.info? 3).map (·.size) = some 1 := by kernel_rfl
  by_cases h0 : args.length = 0
  · obtain rfl : args = [] := List.length_eq_zero_iff.1 h0
    rw [run_copy_none (P := Try.prog) _ _ _ _ _ _ _ _ _ _ _ hu hs (by simp [Nat.min])]
    rfl
  · obtain ⟨ab, ao, rfl, hab, hcs⟩ := hv.row (by omega)
    have hW : ∀ j, j < args.length → ((w.alloc xb).alloc (.cells #[a, b, c, .int .i64 (-1), .int .i64 (-1), .int .i64 (-1)] 131)).drew.cell? ⟨ab, ao + j, none⟩ = some (.int .i64 (args.getD j 0)) := fun j hj => by
      have := hcs j hj
      exact below_cell (B := w.heap.size) ((((Below.refl _ _).alloc (Nat.le_refl _) _).alloc (by simp) _).drew) hab this
    have hz : (w.alloc xb).heap.size = w.heap.size + 1 := by simp
    have hk : ∀ j, j < 3 → (((w.alloc xb).alloc (.cells #[a, b, c, .int .i64 (-1), .int .i64 (-1), .int .i64 (-1)] 131)).drew.cell? ⟨w.heap.size + 1, 3 + j, none⟩).isSome = true := fun j hj => by
      have : j = 0 ∨ j = 1 ∨ j = 2 := by omega
      rcases this with rfl | rfl | rfl <;> simp [go_sem]
    have hf : ∀ j, j < 3 → ((w.alloc xb).alloc (.cells #[a, b, c, .int .i64 (-1), .int .i64 (-1), .int .i64 (-1)] 131)).drew.frozen? ⟨w.heap.size + 1, 3 + j, none⟩ = false := fun j hj => by
      have : j = 0 ∨ j = 1 ∨ j = 2 := by omega
      rcases this with rfl | rfl | rfl <;> simp [go_sem]
    rw [run_copy_cells (P := Try.prog) _ _ _ _ _ _ _ _ _ _ _ _ (args.map (Value.int .i64)) hu hs (by rw [List.length_map]; exact (Nat.min_eq_left (by omega)).symm) ?_ (fun j hj => hk j (by simp at hj; omega)) (fun j hj => hf j (by simp at hj; omega)) (by simp [Value.oneCell'])]
    · rw [List.length_map]
      refine congrArg (Result.ok _) ?_
      rcases args with _ | ⟨x, _ | ⟨y, _ | ⟨z, _ | ⟨u, l⟩⟩⟩⟩
      · simp at h0
      · rw [List.map_cons, List.map_nil, setCells_one]
        simp [go_sem]
      · rw [List.map_cons, List.map_cons, List.map_nil, setCells_two]
        simp [go_sem]
      · rw [List.map_cons, List.map_cons, List.map_cons, List.map_nil, setCells_three]
        simp [go_sem]
      · simp at hl
    · intro j v hjv
      rw [List.getElem?_map] at hjv
      cases e : args[j]? with
      | none => rw [e] at hjv; cases hjv
      | some y =>
        rw [e] at hjv
        cases hjv
        have hj : j < args.length := by
          rcases Nat.lt_or_ge j args.length with h | h
          · exact h
          · rw [List.getElem?_eq_none h] at e; cases e
        have := hW j hj
        rw [List.getD_eq_getElem?_getD, e] at this
        by_cases hj0 : j = 0
        · subst hj0; exact this
        · simpa [Addr.add, hj0] using this
theorem info_node : (Try.prog.info? 47).map (fun i => (i.zero, i.size, i.bytes)) = some (some (.agg #[.int .i64 0, .int .i64 0, .int .i64 0, .slice none 0 0, .int .u32 0]), 5, 56) := by kernel_rfl
/-- In the midst of add: the map is there, the node is not yet. -/
structure AddMid (bb : Nat) (o : List Nd) (W : Nat → Prop) (w w7 : World) (na : Option Addr) (nc : Nat) (avs : List Value) (r : Nat) (op width flags imm : Int) (args : List Int) (aa : Option Addr) (ac : Nat) (k0 k1 k2 : Int) : Prop where
  x0 : w7.cell? ⟨w.heap.size, 0, none⟩ = some (.int .i64 op)
  x1 : w7.cell? ⟨w.heap.size, 1, none⟩ = some (.int .i64 width)
  x2 : w7.cell? ⟨w.heap.size, 2, none⟩ = some (.int .i64 flags)
  x3 : w7.cell? ⟨w.heap.size, 3, none⟩ = some (.slice aa args.length ac)
  x4 : w7.cell? ⟨w.heap.size, 4, none⟩ = some (.int .u32 imm)
  y0 : w7.cell? ⟨w.heap.size + 1, 0, none⟩ = some (.int .i64 op)
  y1 : w7.cell? ⟨w.heap.size + 1, 1, none⟩ = some (.int .i64 width)
  y2 : w7.cell? ⟨w.heap.size + 1, 2, none⟩ = some (.int .u32 imm)
  y3 : w7.cell? ⟨w.heap.size + 1, 3, none⟩ = some (.int .i64 k0)
  y4 : w7.cell? ⟨w.heap.size + 1, 4, none⟩ = some (.int .i64 k1)
  y5 : w7.cell? ⟨w.heap.size + 1, 5, none⟩ = some (.int .i64 k2)
  c0 : w7.cell? ⟨bb, 0, none⟩ = some (.slice na o.length nc)
  c1 : w7.cell? ⟨bb, 1, none⟩ = some (.map (some r))
  f0 : w7.frozen? ⟨bb, 0, none⟩ = false
  f1 : w7.frozen? ⟨bb, 1, none⟩ = false
  sz : w.heap.size + 1 < w7.heap.size
  row : w7.ownsRow 0 47 5 (.slice na o.length nc) o.length (rowsC o avs)
  map : MapIs Try.prog 131 w7 r (entK o)
  chg : Chg W w w7
  hr : W r ∨ w.heap.size ≤ r
  rb : r ≠ bb
  rn : (Value.slice na o.length nc).ownBlock ≠ some r
  rx : r ≠ w.heap.size ∧ r ≠ w.heap.size + 1
set_option maxRecDepth 100000 in
set_option maxHeartbeats 2000000 in
theorem add_any (bb : Nat) (o : List Nd) (T : Nat → Prop) (x : Nd) (av : Value) (w : World) (h : Bld bb o T w) (hx : NdK x) (hvf : IntsF w av x.args) (hav : ∀ b, av.ownBlock = some b → ¬ T b ∧ b < w.heap.size) (hlen : o.length ≤ 100000) :
    Calls Try.prog 67 #[.pointer (some ⟨bb, 0, none⟩), .agg #[.int .i64 x.op, .int .i64 x.width, .int .i64 x.flags, av, .int .u32 x.imm]] w fun e w' => e = .returned (.int .i64 (stepA o x).2) ∧
      ∃ T', Bld bb (stepA o x).1 T' w' ∧ (∀ b, T' b → T b ∨ w.heap.size ≤ b ∨ av.ownBlock = some b) ∧ Chg T w w' := by
  have HH := Lib.hid h
  obtain ⟨W, R, nv, fv, avs, hT, hb⟩ := h
  have HT := Lib.hid hT
  have HB := Lib.hid hb
  have HX := Lib.hid hx
  have hv := hvf.ints
  have HV := Lib.hid hvf
  clear hvf
  have HAV := Lib.hid hav
  have c0 := hb.b0
  have c1 := hb.b1
  have f0 := hb.f0
  have f1 := hb.f1
  have hbl := hb.Wlt bb hb.Wb
  have hx3 := hx.len
  have hmap := hb.map
  have hrow := hb.row
  have HRW := Lib.hid hb.rowW
  obtain ⟨q, hq⟩ := keyV_key hx
  obtain ⟨na, nc, rfl⟩ := own_shape hrow
  obtain ⟨i0, hi0, hz0, hz1, hz2⟩ := info_parts info_node
  obtain ⟨op, width, flags, args, imm⟩ := x
  obtain ⟨aa, ac, rfl, ha1, ha2⟩ := hv.shape
  simp only at hv hx3 ha1 ha2 ⊢
  have HQ := Lib.hid hq
  have hcp := copy_key w (.cells #[.int .i64 op, .int .i64 width, .int .i64 flags, .slice aa args.length ac, .int .u32 imm] 47) (.int .i64 op) (.int .i64 width) (.int .u32 imm) args aa ac hv hx3
  by_cases hm : (⟨op, width, flags, args, imm⟩ : Nd) ∈ o
  · rcases hmap with ⟨_, h1⟩ | ⟨r, rfl, hr1, hr2, hr3, hr4⟩
    · rw [h1] at hm; cases hm
    · have hlook : (Instr.lookup 104 (.map (some r)) (keyV ⟨op, width, flags, args, imm⟩) true).run Try.prog ((((w.alloc (.cells #[.int .i64 op, .int .i64 width, .int .i64 flags, .slice aa args.length ac, .int .u32 imm] 47)).alloc (.cells #[.int .i64 op, .int .i64 width, .int .u32 imm, .int .i64 (args.getD 0 (-1)), .int .i64 (args.getD 1 (-1)), .int .i64 (args.getD 2 (-1))] 131)).drew).drew) = .ok (.tuple #[.int .i64 (o.idxOf ⟨op, width, flags, args, imm⟩ : Int), .bool true]) _ :=
        lookup_hit lawKey Try.underlying104 (hr4.below ((((Below.refl _ _).alloc (Nat.le_refl _) _).alloc (by simp) _).drew.drew)) hq (entK_hit hm)
      have HST : Hid (stepA o ⟨op, width, flags, args, imm⟩ = (o, (o.idxOf (⟨op, width, flags, args, imm⟩ : Nd) : Int))) := by
        show _ = _
        unfold stepA addN
        rw [if_pos hm]
      simp only [keyV] at hlook
      generalize args.getD 0 (-1) = k0 at *
      generalize args.getD 1 (-1) = k1 at *
      generalize args.getD 2 (-1) = k2 at *
      clear hT hb hx hv hav ha1 ha2 hx3 hr4 hq hm hrow
      go_enter Try.func67, Try.ntmps67
      go_wp2_with fail
      go_region
      clear hcp
      go_wp2_with fail
      go_region
      clear hlook
      go_wp2_with fail
      go_ret
      rw [HST.out]
      exact ⟨rfl, T, HH.out.next ((((Below.refl _ _).alloc (Nat.le_refl _) _).alloc (by simp) _).drew.drew), fun b h => .inl h, Chg.of_below ((((Below.refl _ _).alloc (Nat.le_refl _) _).alloc (by simp) _).drew.drew)⟩
  · have HST : Hid (stepA o ⟨op, width, flags, args, imm⟩ = (o ++ [⟨op, width, flags, args, imm⟩], (o.length : Int))) := by
      show _ = _
      unfold stepA addN
      rw [if_neg hm]
    have HMISS := Lib.hid (entK_miss hb.kn hx hm)
    have HKV : Hid (keyV ⟨op, width, flags, args, imm⟩ = .agg #[.int .i64 op, .int .i64 width, .int .u32 imm, .int .i64 (args.getD 0 (-1)), .int .i64 (args.getD 1 (-1)), .int .i64 (args.getD 2 (-1))]) := rfl
    rcases hmap with ⟨rfl, hnil⟩ | ⟨r, rfl, hr1, hr2, hr3, hr4⟩
    · have hlook : (Instr.lookup 104 (.map none) (keyV ⟨op, width, flags, args, imm⟩) true).run Try.prog ((((w.alloc (.cells #[.int .i64 op, .int .i64 width, .int .i64 flags, .slice aa args.length ac, .int .u32 imm] 47)).alloc (.cells #[.int .i64 op, .int .i64 width, .int .u32 imm, .int .i64 (args.getD 0 (-1)), .int .i64 (args.getD 1 (-1)), .int .i64 (args.getD 2 (-1))] 131)).drew).drew) = .ok (.tuple #[.int .i64 0, .bool false]) _ :=
        lookup_nil lawKey Try.underlying104 (fun _ => by kernel_rfl) hq
      simp only [keyV] at hlook
      obtain ⟨w6, r, hmk, hw6, hr6⟩ : ∃ w6 r, (Instr.makeMap 104 none).run Try.prog (((w.alloc (.cells #[.int .i64 op, .int .i64 width, .int .i64 flags, .slice aa args.length ac, .int .u32 imm] 47)).alloc (.cells #[.int .i64 op, .int .i64 width, .int .u32 imm, .int .i64 (args.getD 0 (-1)), .int .i64 (args.getD 1 (-1)), .int .i64 (args.getD 2 (-1))] 131)).drew.drew) = .ok (.map (some r)) w6 ∧ w6 = ((w.alloc (.cells #[.int .i64 op, .int .i64 width, .int .i64 flags, .slice aa args.length ac, .int .u32 imm] 47)).alloc (.cells #[.int .i64 op, .int .i64 width, .int .u32 imm, .int .i64 (args.getD 0 (-1)), .int .i64 (args.getD 1 (-1)), .int .i64 (args.getD 2 (-1))] 131)).drew.drew.alloc (.map #[] 0) ∧ r = w.heap.size + 2 := ⟨_, _, (show (Instr.makeMap 104 none).run Try.prog (((w.alloc (.cells #[.int .i64 op, .int .i64 width, .int .i64 flags, .slice aa args.length ac, .int .u32 imm] 47)).alloc (.cells #[.int .i64 op, .int .i64 width, .int .u32 imm, .int .i64 (args.getD 0 (-1)), .int .i64 (args.getD 1 (-1)), .int .i64 (args.getD 2 (-1))] 131)).drew.drew) = .ok (.map (some (((w.alloc (.cells #[.int .i64 op, .int .i64 width, .int .i64 flags, .slice aa args.length ac, .int .u32 imm] 47)).alloc (.cells #[.int .i64 op, .int .i64 width, .int .u32 imm, .int .i64 (args.getD 0 (-1)), .int .i64 (args.getD 1 (-1)), .int .i64 (args.getD 2 (-1))] 131)).drew.drew).heap.size)) (((w.alloc (.cells #[.int .i64 op, .int .i64 width, .int .i64 flags, .slice aa args.length ac, .int .u32 imm] 47)).alloc (.cells #[.int .i64 op, .int .i64 width, .int .u32 imm, .int .i64 (args.getD 0 (-1)), .int .i64 (args.getD 1 (-1)), .int .i64 (args.getD 2 (-1))] 131)).drew.drew.alloc (.map #[] 0)) by kernel_rfl), rfl, by simp⟩
      have hb6 : Below w.heap.size w w6 := by rw [hw6]; exact ((((Below.refl _ _).alloc (Nat.le_refl _) _).alloc (by simp) _).drew.drew).alloc (by simp; omega) _
      have c60 := below_cell hb6 hbl c0
      have c61 := below_cell hb6 hbl c1
      have f61 : w6.frozen? ⟨bb, 1, none⟩ = false := by rw [← f1]; exact hb6.frozen (p := ⟨bb, 1, none⟩) hbl
      have f60 : w6.frozen? ⟨bb, 0, none⟩ = false := by rw [← f0]; exact hb6.frozen (p := ⟨bb, 0, none⟩) hbl
      have HMID : Hid (AddMid bb o W w (w6.setCell ⟨bb, 1, none⟩ (.map (some r))) na nc avs r op width flags imm args aa ac (args.getD 0 (-1)) (args.getD 1 (-1)) (args.getD 2 (-1))) := by
        have hother : ∀ b i, b ≠ bb → (w6.setCell ⟨bb, 1, none⟩ (.map (some r))).cell? ⟨b, i, none⟩ = w6.cell? ⟨b, i, none⟩ := fun b i hne => World.cell?_setCell_other _ _ _ _ (by intro e; cases e; exact hne rfl)
        have hal : ∀ b i, b < w.heap.size + 2 → w6.cell? ⟨b, i, none⟩ = ((w.alloc (.cells #[.int .i64 op, .int .i64 width, .int .i64 flags, .slice aa args.length ac, .int .u32 imm] 47)).alloc (.cells #[.int .i64 op, .int .i64 width, .int .u32 imm, .int .i64 (args.getD 0 (-1)), .int .i64 (args.getD 1 (-1)), .int .i64 (args.getD 2 (-1))] 131)).cell? ⟨b, i, none⟩ := fun b i hlt => by
          rw [hw6]
          exact ((Below.refl (((w.alloc (.cells #[.int .i64 op, .int .i64 width, .int .i64 flags, .slice aa args.length ac, .int .u32 imm] 47)).alloc (.cells #[.int .i64 op, .int .i64 width, .int .u32 imm, .int .i64 (args.getD 0 (-1)), .int .i64 (args.getD 1 (-1)), .int .i64 (args.getD 2 (-1))] 131)).drew.drew).heap.size _).alloc (Nat.le_refl _) (.map #[] 0)).cell (p := ⟨b, i, none⟩) (by simp; omega)
        have hset : Chg W w (w6.setCell ⟨bb, 1, none⟩ (.map (some r))) := (Chg.of_below hb6).setCell hb.Wb _
        exact {
          x0 := by rw [hother _ _ (by omega), hal _ _ (by omega)]; simp [go_sem]
          x1 := by rw [hother _ _ (by omega), hal _ _ (by omega)]; simp [go_sem]
          x2 := by rw [hother _ _ (by omega), hal _ _ (by omega)]; simp [go_sem]
          x3 := by rw [hother _ _ (by omega), hal _ _ (by omega)]; simp [go_sem]
          x4 := by rw [hother _ _ (by omega), hal _ _ (by omega)]; simp [go_sem]
          y0 := by rw [hother _ _ (by omega), hal _ _ (by omega)]; simp [go_sem]
          y1 := by rw [hother _ _ (by omega), hal _ _ (by omega)]; simp [go_sem]
          y2 := by rw [hother _ _ (by omega), hal _ _ (by omega)]; simp [go_sem]
          y3 := by rw [hother _ _ (by omega), hal _ _ (by omega)]; simp [go_sem]
          y4 := by rw [hother _ _ (by omega), hal _ _ (by omega)]; simp [go_sem]
          y5 := by rw [hother _ _ (by omega), hal _ _ (by omega)]; simp [go_sem]
          c0 := by rw [World.cell?_setCell_other _ _ _ _ (by intro e; cases e)]; exact c60
          c1 := World.cell?_setCell_same _ _ _ c61
          f0 := by rw [World.frozen?_setCell]; exact f60
          f1 := by rw [World.frozen?_setCell]; exact f61
          sz := by rw [hw6]; simp [World.setCell]
          row := own_same (T := fun b => (Value.slice na o.length nc).ownBlock = some b) hrow (((Chg.of_below (T := fun b => b = bb) hb6).setCell (b := bb) rfl _).same fun k hk => ⟨own_lt hrow k hk, fun e => (HRW.out k hk).2 e⟩) (fun b h => h)
          map := by
            have h6 : MapIs Try.prog 131 w6 r (entK o) := by
              rw [hw6, hnil, hr6]
              have := MapIs.made (P := Try.prog) (K := 131) (w := ((w.alloc (.cells #[.int .i64 op, .int .i64 width, .int .i64 flags, .slice aa args.length ac, .int .u32 imm] 47)).alloc (.cells #[.int .i64 op, .int .i64 width, .int .u32 imm, .int .i64 (args.getD 0 (-1)), .int .i64 (args.getD 1 (-1)), .int .i64 (args.getD 2 (-1))] 131)).drew.drew)
              simpa [entK] using this
            exact h6.same (T := fun b => b = r) (((Chg.refl (fun b => b = bb) w6).setCell (b := bb) rfl _).same fun k hk => by subst hk; exact ⟨h6.1, by omega⟩) rfl
          chg := hset
          hr := .inr (by omega)
          rb := by omega
          rn := fun e => by have := own_lt hrow _ e; omega
          rx := by omega }
      generalize args.getD 0 (-1) = k0 at *
      generalize args.getD 1 (-1) = k1 at *
      generalize args.getD 2 (-1) = k2 at *
      clear hT hb hx hv hav ha1 ha2 hx3 hq hm hrow hw6 hr6 hb6 hnil f60 c60
      go_enter Try.func67, Try.ntmps67
      go_wp2_with fail
      go_region
      clear hcp
      go_wp2_with fail
      go_region
      clear hlook
      have heq : ∀ w : World, (binOp .eql 104 (.map none) (.map none)).run Try.prog w = .ok (.bool true) w := fun _ => by kernel_rfl
      go_wp2_with fail
      clear heq hmk c61 f61
      generalize w6.setCell ⟨bb, 1, none⟩ (.map (some r)) = w7 at *
      have hmid := HMID.out
      have hmd : MapIs Try.prog 131 w7.drew r (entK o) := hmid.map
      have hk7 : keyV ⟨op, width, flags, args, imm⟩ = .agg #[.int .i64 op, .int .i64 width, .int .u32 imm, .int .i64 k0, .int .i64 k1, .int .i64 k2] := HKV.out
      obtain ⟨w8, hup, hw8⟩ : ∃ w8, (Instr.mapUpdate 104 (.map (some r)) (keyV ⟨op, width, flags, args, imm⟩) (.int .i64 (o.length : Int))).run Try.prog w7.drew = .ok () w8 ∧ w8 = setMap w7.drew r (ents (entK o ++ [(keyV ⟨op, width, flags, args, imm⟩, .int .i64 (o.length : Int))])) ((entK o).length + 1) :=
        ⟨_, update_new lawKey Try.underlying104 hmd HQ.out HMISS.out, rfl⟩
      rw [hk7] at hup
      clear hk7
      have hM : MapIs Try.prog 131 w8 r (entK (o ++ [⟨op, width, flags, args, imm⟩])) := by
        rw [hw8, entK_snoc]
        exact MapIs.new hmd HQ.out HMISS.out
      have hC : Chg (fun b => b = r) w7 w8 := by rw [hw8]; exact ((Chg.refl (fun b => b = r) w7).drew).setMap (b := r) rfl _ _
      have hz8 : w8.heap.size = w7.heap.size := by rw [hw8, size_setMap]; rfl
      have hs7 := hmid.sz
      have rx1 := hmid.rx.1
      have rb1 := hmid.rb
      have hnb : some bb ≠ (Value.slice na o.length nc).ownBlock := fun e => (HRW.out bb e.symm).2 rfl
      have hbl7 : bb < w7.heap.size := by omega
      have x0 := hC.cell (fun e => rx1 e.symm) hmid.x0
      have x1 := hC.cell (fun e => rx1 e.symm) hmid.x1
      have x2 := hC.cell (fun e => rx1 e.symm) hmid.x2
      have x3 := hC.cell (fun e => rx1 e.symm) hmid.x3
      have x4 := hC.cell (fun e => rx1 e.symm) hmid.x4
      have y0 := hmid.y0
      have y1 := hmid.y1
      have y2 := hmid.y2
      have y3 := hmid.y3
      have y4 := hmid.y4
      have y5 := hmid.y5
      have c70 := hmid.c0
      have c71 := hmid.c1
      have c80 := hC.cell (fun e => rb1 e.symm) hmid.c0
      have f80 : w8.frozen? ⟨bb, 0, none⟩ = false := by rw [hC.frozen (fun e => rb1 e.symm) hbl7]; exact hmid.f0
      have HC81 := Lib.hid (hC.cell (fun e => rb1 e.symm) hmid.c1)
      have HF81 : Hid (w8.frozen? ⟨bb, 1, none⟩ = false) := by
        show _ = _
        rw [hC.frozen (fun e => rb1 e.symm) hbl7]; exact hmid.f1
      have HROW : Hid (w8.ownsRow 0 47 5 (.slice na o.length nc) o.length (rowsC o avs)) := own_same (T := fun b => (Value.slice na o.length nc).ownBlock = some b) hmid.row (hC.same fun k hk => ⟨own_lt hmid.row k hk, fun e => hmid.rn (e ▸ hk)⟩) (fun b h => h)
      have HM := Lib.hid hM
      have HC : Hid (Chg (fun b => W b) w w8) := hmid.chg.trans hC (fun k hk h => by subst h; rcases hmid.hr with h | h; exact h; omega)
      have hs8 : w.heap.size + 1 < w8.heap.size := by omega
      have hle8 : w7.heap.size ≤ w8.heap.size := by omega
      clear hM hC hw8 hmid rx1 rb1 hmd hz8
      go_region
      clear hup y0 y1 y2 y3 y4 y5 c70 c71
      go_wp2_with fail
      have hfz : ∀ ob, (w8.alloc ob).frozen? ⟨bb, 0, none⟩ = false := fun ob => by rw [← f80]; exact ((Below.refl _ _).alloc (Nat.le_refl _) ob).frozen (p := ⟨bb, 0, none⟩) (by simp; omega)
      have hcz : ∀ ob, (w8.alloc ob).drew.cell? ⟨bb, 0, none⟩ = some (.slice na o.length nc) := fun ob => below_cell (B := w8.heap.size) (((Below.refl _ _).alloc (Nat.le_refl _) ob).drew) (by omega) c80
      have hfz2 : ∀ ob, (w8.alloc ob).drew.frozen? ⟨bb, 0, none⟩ = false := hfz
      go_region_law ((refine step_append_lies _ (by rfl) _ _ _ (by rfl) 0 47 i0 _ 5 56 Try.underlying22 hi0 hz0 hz1 hz2 rfl (by omega) (.slice na o.length nc) o.length (rowsC o avs) (by rfl) (((HROW.out).alloc _).drew) ⟨w8.heap.size, 0, none⟩ 1 1 [.int .i64 op, .int .i64 width, .int .i64 flags, .slice aa args.length ac, .int .u32 imm] (by rfl) (by rfl) (World.news_of_block (cs := #[.int .i64 op, .int .i64 width, .int .i64 flags, .slice aa args.length ac, .int .u32 imm]) (t := 47) (fr := (0, 0)) (heap_alloc_new w8 _)) (by simp [Value.oneCell']) (by omega) (by unfold maxLen; omega) (by omega) (Nat.zero_le _) (w8.heap.size + 1) (by simp) ?_; intro gg cap w1 hown1 hgrow hat hlt; have G0 := (hgrow.cell_far ⟨bb, 0, none⟩ (by simp; omega) hnb).trans (hcz _); have G1 := (hgrow.frozen_far ⟨bb, 0, none⟩ (by simp; omega) hnb).trans (hfz2 _)))
      all_goals
        clear hfz hfz2 hcz
        go_wp2_with fail
        go_ret
        rw [HST.out]
        have hmid := HMID.out
        obtain ⟨T', t1, t2, t3⟩ := add_done (x := ⟨op, width, flags, args, imm⟩) (av := .slice aa args.length ac) HB.out HX.out HV.out (fun b hb => ⟨fun h => (HAV.out b hb).1 ((HT.out b).2 (.inl h)), fun h => (HAV.out b hb).1 ((HT.out b).2 (.inr h)), (HAV.out b hb).2⟩) HC.out c80 HC81.out f80 HF81.out HM.out hmid.hr hmid.rb hmid.rn
          (Chg.trans (Chg.of_below (T := fun b => (Value.slice na o.length nc).ownBlock = some b) (((Below.refl _ _).alloc (Nat.le_refl _) _).drew)) (Chg.of_grown hgrow (fun k hk => hk)) (fun _ _ h => h)) hown1 (hat.elim (fun h => .inl h.symm) (fun h => .inr ⟨gg, rfl, by omega⟩))
        exact ⟨rfl, T', t1, fun b h => (t2 b h).imp_left (HT.out b).2, t3.mono fun k _ h => (HT.out k).2 (.inl h)⟩
    · have hlook : (Instr.lookup 104 (.map (some r)) (keyV ⟨op, width, flags, args, imm⟩) true).run Try.prog ((((w.alloc (.cells #[.int .i64 op, .int .i64 width, .int .i64 flags, .slice aa args.length ac, .int .u32 imm] 47)).alloc (.cells #[.int .i64 op, .int .i64 width, .int .u32 imm, .int .i64 (args.getD 0 (-1)), .int .i64 (args.getD 1 (-1)), .int .i64 (args.getD 2 (-1))] 131)).drew).drew) = .ok (.tuple #[.int .i64 0, .bool false]) _ :=
        lookup_miss lawKey Try.underlying104 (fun _ => by kernel_rfl) (hr4.below ((((Below.refl _ _).alloc (Nat.le_refl _) _).alloc (by simp) _).drew.drew)) hq HMISS.out
      have hrl := hr4.1
      simp only [keyV] at hlook
      have HMID : Hid (AddMid bb o W w (((w.alloc (.cells #[.int .i64 op, .int .i64 width, .int .i64 flags, .slice aa args.length ac, .int .u32 imm] 47)).alloc (.cells #[.int .i64 op, .int .i64 width, .int .u32 imm, .int .i64 (args.getD 0 (-1)), .int .i64 (args.getD 1 (-1)), .int .i64 (args.getD 2 (-1))] 131)).drew.drew) na nc avs r op width flags imm args aa ac (args.getD 0 (-1)) (args.getD 1 (-1)) (args.getD 2 (-1))) := by
        have hb6 : Below w.heap.size w (((w.alloc (.cells #[.int .i64 op, .int .i64 width, .int .i64 flags, .slice aa args.length ac, .int .u32 imm] 47)).alloc (.cells #[.int .i64 op, .int .i64 width, .int .u32 imm, .int .i64 (args.getD 0 (-1)), .int .i64 (args.getD 1 (-1)), .int .i64 (args.getD 2 (-1))] 131)).drew.drew) := ((((Below.refl _ _).alloc (Nat.le_refl _) _).alloc (by simp) _).drew.drew)
        exact {
          x0 := by simp [go_sem]
          x1 := by simp [go_sem]
          x2 := by simp [go_sem]
          x3 := by simp [go_sem]
          x4 := by simp [go_sem]
          y0 := by simp [go_sem]
          y1 := by simp [go_sem]
          y2 := by simp [go_sem]
          y3 := by simp [go_sem]
          y4 := by simp [go_sem]
          y5 := by simp [go_sem]
          c0 := below_cell hb6 hbl c0
          c1 := below_cell hb6 hbl c1
          f0 := by rw [← f0]; exact hb6.frozen (p := ⟨bb, 0, none⟩) hbl
          f1 := by rw [← f1]; exact hb6.frozen (p := ⟨bb, 1, none⟩) hbl
          sz := by simp
          row := own_same (T := fun b => (Value.slice na o.length nc).ownBlock = some b) hrow ((Chg.of_below (T := fun _ => False) hb6).same fun k hk => ⟨own_lt hrow k hk, fun e => e⟩) (fun b h => h)
          map := hr4.below hb6
          chg := Chg.of_below hb6
          hr := .inl hr1
          rb := hr2
          rn := hr3
          rx := by omega }
      generalize args.getD 0 (-1) = k0 at *
      generalize args.getD 1 (-1) = k1 at *
      generalize args.getD 2 (-1) = k2 at *
      clear hT hb hx hv hav ha1 ha2 hx3 hr4 hq hm hrow hr1 hr2 hr3
      go_enter Try.func67, Try.ntmps67
      go_wp2_with fail
      go_region
      clear hcp
      go_wp2_with fail
      go_region
      clear hlook
      have heq : ∀ w : World, (binOp .eql 104 (.map (some r)) (.map none)).run Try.prog w = .ok (.bool false) w := fun _ => by kernel_rfl
      go_wp2_with fail
      clear heq
      generalize (((w.alloc (.cells #[.int .i64 op, .int .i64 width, .int .i64 flags, .slice aa args.length ac, .int .u32 imm] 47)).alloc (.cells #[.int .i64 op, .int .i64 width, .int .u32 imm, .int .i64 k0, .int .i64 k1, .int .i64 k2] 131)).drew.drew) = w7 at *
      have hmid := HMID.out
      have hmd : MapIs Try.prog 131 w7.drew r (entK o) := hmid.map
      have hk7 : keyV ⟨op, width, flags, args, imm⟩ = .agg #[.int .i64 op, .int .i64 width, .int .u32 imm, .int .i64 k0, .int .i64 k1, .int .i64 k2] := HKV.out
      obtain ⟨w8, hup, hw8⟩ : ∃ w8, (Instr.mapUpdate 104 (.map (some r)) (keyV ⟨op, width, flags, args, imm⟩) (.int .i64 (o.length : Int))).run Try.prog w7.drew = .ok () w8 ∧ w8 = setMap w7.drew r (ents (entK o ++ [(keyV ⟨op, width, flags, args, imm⟩, .int .i64 (o.length : Int))])) ((entK o).length + 1) :=
        ⟨_, update_new lawKey Try.underlying104 hmd HQ.out HMISS.out, rfl⟩
      rw [hk7] at hup
      clear hk7
      have hM : MapIs Try.prog 131 w8 r (entK (o ++ [⟨op, width, flags, args, imm⟩])) := by
        rw [hw8, entK_snoc]
        exact MapIs.new hmd HQ.out HMISS.out
      have hC : Chg (fun b => b = r) w7 w8 := by rw [hw8]; exact ((Chg.refl (fun b => b = r) w7).drew).setMap (b := r) rfl _ _
      have hz8 : w8.heap.size = w7.heap.size := by rw [hw8, size_setMap]; rfl
      have hs7 := hmid.sz
      have rx1 := hmid.rx.1
      have rb1 := hmid.rb
      have hnb : some bb ≠ (Value.slice na o.length nc).ownBlock := fun e => (HRW.out bb e.symm).2 rfl
      have hbl7 : bb < w7.heap.size := by omega
      have x0 := hC.cell (fun e => rx1 e.symm) hmid.x0
      have x1 := hC.cell (fun e => rx1 e.symm) hmid.x1
      have x2 := hC.cell (fun e => rx1 e.symm) hmid.x2
      have x3 := hC.cell (fun e => rx1 e.symm) hmid.x3
      have x4 := hC.cell (fun e => rx1 e.symm) hmid.x4
      have y0 := hmid.y0
      have y1 := hmid.y1
      have y2 := hmid.y2
      have y3 := hmid.y3
      have y4 := hmid.y4
      have y5 := hmid.y5
      have c70 := hmid.c0
      have c71 := hmid.c1
      have c80 := hC.cell (fun e => rb1 e.symm) hmid.c0
      have f80 : w8.frozen? ⟨bb, 0, none⟩ = false := by rw [hC.frozen (fun e => rb1 e.symm) hbl7]; exact hmid.f0
      have HC81 := Lib.hid (hC.cell (fun e => rb1 e.symm) hmid.c1)
      have HF81 : Hid (w8.frozen? ⟨bb, 1, none⟩ = false) := by
        show _ = _
        rw [hC.frozen (fun e => rb1 e.symm) hbl7]; exact hmid.f1
      have HROW : Hid (w8.ownsRow 0 47 5 (.slice na o.length nc) o.length (rowsC o avs)) := own_same (T := fun b => (Value.slice na o.length nc).ownBlock = some b) hmid.row (hC.same fun k hk => ⟨own_lt hmid.row k hk, fun e => hmid.rn (e ▸ hk)⟩) (fun b h => h)
      have HM := Lib.hid hM
      have HC : Hid (Chg (fun b => W b) w w8) := hmid.chg.trans hC (fun k hk h => by subst h; rcases hmid.hr with h | h; exact h; omega)
      have hs8 : w.heap.size + 1 < w8.heap.size := by omega
      have hle8 : w7.heap.size ≤ w8.heap.size := by omega
      clear hM hC hw8 hmid rx1 rb1 hmd hz8
      go_region
      clear hup y0 y1 y2 y3 y4 y5 c70 c71
      go_wp2_with fail
      have hfz : ∀ ob, (w8.alloc ob).frozen? ⟨bb, 0, none⟩ = false := fun ob => by rw [← f80]; exact ((Below.refl _ _).alloc (Nat.le_refl _) ob).frozen (p := ⟨bb, 0, none⟩) (by simp; omega)
      have hcz : ∀ ob, (w8.alloc ob).drew.cell? ⟨bb, 0, none⟩ = some (.slice na o.length nc) := fun ob => below_cell (B := w8.heap.size) (((Below.refl _ _).alloc (Nat.le_refl _) ob).drew) (by omega) c80
      have hfz2 : ∀ ob, (w8.alloc ob).drew.frozen? ⟨bb, 0, none⟩ = false := hfz
      go_region_law ((refine step_append_lies _ (by rfl) _ _ _ (by rfl) 0 47 i0 _ 5 56 Try.underlying22 hi0 hz0 hz1 hz2 rfl (by omega) (.slice na o.length nc) o.length (rowsC o avs) (by rfl) (((HROW.out).alloc _).drew) ⟨w8.heap.size, 0, none⟩ 1 1 [.int .i64 op, .int .i64 width, .int .i64 flags, .slice aa args.length ac, .int .u32 imm] (by rfl) (by rfl) (World.news_of_block (cs := #[.int .i64 op, .int .i64 width, .int .i64 flags, .slice aa args.length ac, .int .u32 imm]) (t := 47) (fr := (0, 0)) (heap_alloc_new w8 _)) (by simp [Value.oneCell']) (by omega) (by unfold maxLen; omega) (by omega) (Nat.zero_le _) (w8.heap.size + 1) (by simp) ?_; intro gg cap w1 hown1 hgrow hat hlt; have G0 := (hgrow.cell_far ⟨bb, 0, none⟩ (by simp; omega) hnb).trans (hcz _); have G1 := (hgrow.frozen_far ⟨bb, 0, none⟩ (by simp; omega) hnb).trans (hfz2 _)))
      all_goals
        clear hfz hfz2 hcz
        go_wp2_with fail
        go_ret
        rw [HST.out]
        have hmid := HMID.out
        obtain ⟨T', t1, t2, t3⟩ := add_done (x := ⟨op, width, flags, args, imm⟩) (av := .slice aa args.length ac) HB.out HX.out HV.out (fun b hb => ⟨fun h => (HAV.out b hb).1 ((HT.out b).2 (.inl h)), fun h => (HAV.out b hb).1 ((HT.out b).2 (.inr h)), (HAV.out b hb).2⟩) HC.out c80 HC81.out f80 HF81.out HM.out hmid.hr hmid.rb hmid.rn
          (Chg.trans (Chg.of_below (T := fun b => (Value.slice na o.length nc).ownBlock = some b) (((Below.refl _ _).alloc (Nat.le_refl _) _).drew)) (Chg.of_grown hgrow (fun k hk => hk)) (fun _ _ h => h)) hown1 (hat.elim (fun h => .inl h.symm) (fun h => .inr ⟨gg, rfl, by omega⟩))
        exact ⟨rfl, T', t1, fun b h => (t2 b h).imp_left (HT.out b).2, t3.mono fun k _ h => (HT.out k).2 (.inl h)⟩
end Go.Proofs.Ythopdfikikdcbaa
