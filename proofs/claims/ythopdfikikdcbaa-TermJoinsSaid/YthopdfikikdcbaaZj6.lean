/- Walk of the builder's add. -/
import Derived.Laws.IdiomCopy
import Derived.Maps.AppendAt
import Derived.Deep.RegionLaw
import Derived.Deep.RegionHeld3
import Derived.Deep.AppendLies
import Derived.Deep.QuietTactic
import Derived.BigQuiet
import Derived.Test.YthopdfikikdcbaaZj1
import Derived.Test.YthopdfikikdcbaaZj3
import Derived.Test.YthopdfikikdcbaaZj5
namespace Go.Proofs.Ythopdfikikdcbaa
open Go.RowKit Go.Maps Wd
set_option linter.unusedVariables false
set_option linter.unusedSimpArgs false
theorem setCells_one (w : World) (b o : Nat) (v : Value) : w.setCells b o [v] = w.setCell ⟨b, o, none⟩ v := rfl
theorem setCells_two (w : World) (b o : Nat) (u v : Value) : w.setCells b o [u, v] = (w.setCell ⟨b, o, none⟩ u).setCell ⟨b, o + 1, none⟩ v := rfl
theorem setCells_three (w : World) (b o : Nat) (u v x : Value) : w.setCells b o [u, v, x] = ((w.setCell ⟨b, o, none⟩ u).setCell ⟨b, o + 1, none⟩ v).setCell ⟨b, o + 1 + 1, none⟩ x := rfl
/-- The copy of the Args into the key. -/
theorem copy_key (w : World) (xb : Obj) (a b c : Value) (args : List Int) (aa : Option Addr) (ac : Nat) (hv : Ints .i64 w (.slice aa args.length ac) args) (hl : args.length ≤ 3) :
    (Builtin.copy_ #[25, 25] 3 #[.slice (some ⟨w.heap.size + 1, 3, none⟩) 3 3, .slice aa args.length ac]).run Try.prog (((w.alloc xb).alloc (.cells #[a, b, c, .int .i64 (-1), .int .i64 (-1), .int .i64 (-1)] 131)).drew) =
      .ok (goInt args.length) (((w.alloc xb).alloc (.cells #[a, b, c, .int .i64 (args.getD 0 (-1)), .int .i64 (args.getD 1 (-1)), .int .i64 (args.getD 2 (-1))] 131)).drew) := by
  have hu : Try.prog.underlying 25 = some (.slice 3) := Try.underlying25
  have hs : (Try.prog.info? 3).map (·.size) = some 1 := by kernel_rfl
  by_cases h0 : args.length = 0
  · obtain rfl : args = [] := List.length_eq_zero_iff.1 h0
    rw [run_copy_none (P := Try.prog) _ _ _ _ _ _ _ _ _ _ _ hu hs (by simp [Nat.min])]
    rfl
  · obtain ⟨ab, ao, rfl, hab, hcs⟩ := hv.row (by omega)
    have hW : ∀ j, j < args.length → ((w.alloc xb).alloc (.cells #[a, b, c, .int .i64 (-1), .int .i64 (-1), .int .i64 (-1)] 131)).drew.cell? ⟨ab, ao + j, none⟩ = some (.int .i64 (args.getD j 0)) := fun j hj => by
      have := hcs j hj
      exact below_cell (B := w.heap.size) ((((Below.refl _ _).alloc (Nat.le_refl _) _).alloc (by simp) _).drew) hab this
    have hz : (w.alloc xb).heap.size = w.heap.size + 1 := by simp
    have hk : ∀ j, j < 3 → (((w.alloc xb).alloc (.cells #[a, b, c, .int .i64 (-1), .int .i64 (-1), .int .i64 (-1)] 131)).drew.cell? ⟨w.heap.size + 1, 3 + j, none⟩).isSome = true := fun j hj => by
      have : j = 0 ∨ j = 1 ∨ j = 2 := by omega
      rcases this with rfl | rfl | rfl <;> simp [go_sem]
    have hf : ∀ j, j < 3 → ((w.alloc xb).alloc (.cells #[a, b, c, .int .i64 (-1), .int .i64 (-1), .int .i64 (-1)] 131)).drew.frozen? ⟨w.heap.size + 1, 3 + j, none⟩ = false := fun j hj => by
      have : j = 0 ∨ j = 1 ∨ j = 2 := by omega
      rcases this with rfl | rfl | rfl <;> simp [go_sem]
    rw [run_copy_cells (P := Try.prog) _ _ _ _ _ _ _ _ _ _ _ _ (args.map (Value.int .i64)) hu hs (by rw [List.length_map]; exact (Nat.min_eq_left (by omega)).symm) ?_ (fun j hj => hk j (by simp at hj; omega)) (fun j hj => hf j (by simp at hj; omega)) (by simp [Value.oneCell'])]
    · rw [List.length_map]
      refine congrArg (Result.ok _) ?_
      rcases args with _ | ⟨x, _ | ⟨y, _ | ⟨z, _ | ⟨u, l⟩⟩⟩⟩
      · simp at h0
      · rw [List.map_cons, List.map_nil, setCells_one]
        simp [go_sem]
      · rw [List.map_cons, List.map_cons, List.map_nil, setCells_two]
        simp [go_sem]
      · rw [List.map_cons, List.map_cons, List.map_cons, List.map_nil, setCells_three]
        simp [go_sem]
      · simp at hl
    · intro j v hjv
      rw [List.getElem?_map] at hjv
      cases e : args[j]? with
      | none => rw [e] at hjv; cases hjv
      | some y =>
        rw [e] at hjv
        cases hjv
        have hj : j < args.length := by
          rcases Nat.lt_or_ge j args.length with h | h
          · exact h
          · rw [List.getElem?_eq_none h] at e; cases e
        have := hW j hj
        rw [List.getD_eq_getElem?_getD, e] at this
        by_cases hj0 : j = 0
        · subst hj0; exact this
        · simpa [Addr.add, hj0] using this
theorem info_node : (Try.prog.info? 47).map (fun i => (i.zero, i.size, i.bytes)) = some (some (.agg #[.int .i64 0, .int .i64 0, .int .i64 0, .slice none 0 0, .int .u32 0]), 5, 56) := by kernel_rfl
/-- In the midst of add: the map is there, the node is not yet. -/
structure AddMid (bb : Nat) (o : List Nd) (W : Nat → Prop) (w w7 : World) (na : Option Addr) (nc : Nat) (avs : List Value) (r : Nat) (op width flags imm : Int) (args : List Int) (aa : Option Addr) (ac : Nat) (k0 k1 k2 : Int) : Prop where
  x0 : w7.cell? ⟨w.heap.size, 0, none⟩ = some (.int .i64 op)
  x1 : w7.cell? ⟨w.heap.size, 1, none⟩ = some (.int .i64 width)
  x2 : w7.cell? ⟨w.heap.size, 2, none⟩ = some (.int .i64 flags)
  x3 : w7.cell? ⟨w.heap.size, 3, none⟩ = some (.slice aa args.length ac)
  x4 : w7.cell? ⟨w.heap.size, 4, none⟩ = some (.int .u32 imm)
  y0 : w7.cell? ⟨w.heap.size + 1, 0, none⟩ = some (.int .i64 op)
  y1 : w7.cell? ⟨w.heap.size + 1, 1, none⟩ = some (.int .i64 width)
  y2 : w7.cell? ⟨w.heap.size + 1, 2, none⟩ = some (.int .u32 imm)
  y3 : w7.cell? ⟨w.heap.size + 1, 3, none⟩ = some (.int .i64 k0)
  y4 : w7.cell? ⟨w.heap.size + 1, 4, none⟩ = some (.int .i64 k1)
  y5 : w7.cell? ⟨w.heap.size + 1, 5, none⟩ = some (.int .i64 k2)
  c0 : w7.cell? ⟨bb, 0, none⟩ = some (.slice na o.length nc)
  c1 : w7.cell? ⟨bb, 1, none⟩ = some (.map (some r))
  f0 : w7.frozen? ⟨bb, 0, none⟩ = false
  f1 : w7.frozen? ⟨bb, 1, none⟩ = false
  sz : w.heap.size + 1 < w7.heap.size
  row : w7.ownsRow 0 47 5 (.slice na o.length nc) o.length (rowsC o avs)
  map : MapIs Try.prog 131 w7 r (entK o)
  chg : Chg W w w7
  hr : W r ∨ w.heap.size ≤ r
  rb : r ≠ bb
  rn : (Value.slice na o.length nc).ownBlock ≠ some r
  rx : r ≠ w.heap.size ∧ r ≠ w.heap.size + 1
set_option maxRecDepth 100000 in
set_option maxHeartbeats 2000000 in
theorem add_any (bb : Nat) (o : List Nd) (T : Nat → Prop) (x : Nd) (av : Value) (w : World) (h : Bld bb o T w) (hx : NdK x) (hvf : IntsF w av x.args) (hav : ∀ b, av.ownBlock = some b → ¬ T b ∧ b < w.heap.size) (hlen : o.length ≤ 100000) :
    Calls Try.prog 67 #[.pointer (some ⟨bb, 0, none⟩), .agg #[.int .i64 x.op, .int .i64 x.width, .int .i64 x.flags, av, .int .u32 x.imm]] w fun e w' => e = .returned (.int .i64 (stepA o x).2) ∧
      ∃ T', Bld bb (stepA o x).1 T' w' ∧ (∀ b, T' b → T b ∨ w.heap.size ≤ b ∨ av.ownBlock = some b) ∧ Chg T w w' := by
  have HH := Lib.hid h
  obtain ⟨W, R, nv, fv, avs, hT, hb⟩ := h
  have HT := Lib.hid hT
  have HB := Lib.hid hb
  have HX := Lib.hid hx
  have hv := hvf.ints
  have HV := Lib.hid hvf
  clear hvf
  have HAV := Lib.hid hav
  have c0 := hb.b0
  have c1 := hb.b1
  have f0 := hb.f0
  have f1 := hb.f1
  have hbl := hb.Wlt bb hb.Wb
  have hx3 := hx.len
  have hmap := hb.map
  have hrow := hb.row
  have HRW := Lib.hid hb.rowW
  obtain ⟨q, hq⟩ := keyV_key hx
  obtain ⟨na, nc, rfl⟩ := own_shape hrow
  obtain ⟨i0, hi0, hz0, hz1, hz2⟩ := info_parts info_node
  obtain ⟨op, width, flags, args, imm⟩ := x
  obtain ⟨aa, ac, rfl, ha1, ha2⟩ := hv.shape
  simp only at hv hx3 ha1 ha2 ⊢
  have HQ := Lib.hid hq
  have hcp := copy_key w (.cells #[.int .i64 op, .int .i64 width, .int .i64 flags, .slice aa args.length ac, .int .u32 imm] 47) (.int .i64 op) (.int .i64 width) (.int .u32 imm) args aa ac hv hx3
  by_cases hm : (⟨op, width, flags, args, imm⟩ : Nd) ∈ o
  · rcases hmap with ⟨_, h1⟩ | ⟨r, rfl, hr1, hr2, hr3, hr4⟩
    · rw [h1] at hm; cases hm
    · have hlook : (Instr.lookup 104 (.map (some r)) (keyV ⟨op, width, flags, args, imm⟩) true).run Try.prog ((((w.alloc (.cells #[.int .i64 op, .int .i64 width, .int .i64 flags, .slice aa args.length ac, .int .u32 imm] 47)).alloc (.cells #[.int .i64 op, .int .i64 width, .int .u32 imm, .int .i64 (args.getD 0 (-1)), .int .i64 (args.getD 1 (-1)), .int .i64 (args.getD 2 (-1))] 131)).drew).drew) = .ok (.tuple #[.int .i64 (o.idxOf ⟨op, width, flags, args, imm⟩ : Int), .bool true]) _ :=
        lookup_hit lawKey Try.underlying104 (hr4.below ((((Below.refl _ _).alloc (Nat.le_refl _) _).alloc (by simp) _).drew.drew)) hq (entK_hit hm)
      have HST : Hid (stepA o ⟨op, width, flags, args, imm⟩ = (o, (o.idxOf (⟨op, width, flags, args, imm⟩ : Nd) : Int))) := by
        show _ = _
        unfold stepA addN
        rw [if_pos hm]
      simp only [keyV] at hlook
      generalize args.getD 0 (-1) = k0 at *
      generalize args.getD 1 (-1) = k1 at *
      generalize args.getD 2 (-1) = k2 at *
      clear hT hb hx hv hav ha1 ha2 hx3 hr4 hq hm hrow
      go_enter Try.func67, Try.ntmps67
      go_wp2_with fail
      go_region
      clear hcp
      go_wp2_with fail
      go_region
      clear hlook
      go_wp2_with fail
      go_ret
      rw [HST.out]
      exact ⟨rfl, T, HH.out.next ((((Below.refl _ _).alloc (Nat.le_refl _) _).alloc (by simp) _).drew.drew), fun b h => .inl h, Chg.of_below ((((Below.refl _ _).alloc (Nat.le_refl _) _).alloc (by simp) _).drew.drew)⟩
  · have HST : Hid (stepA o ⟨op, width, flags, args, imm⟩ = (o ++ [⟨op, width, flags, args, imm⟩], (o.length : Int))) := by
      show _ = _
      unfold stepA addN
      rw [if_neg hm]
    have HMISS := Lib.hid (entK_miss hb.kn hx hm)
    have HKV : Hid (keyV ⟨op, width, flags, args, imm⟩ = .agg #[.int .i64 op, .int .i64 width, .int .u32 imm, .int .i64 (args.getD 0 (-1)), .int .i64 (args.getD 1 (-1)), .int .i64 (args.getD 2 (-1))]) := rfl
    rcases hmap with ⟨rfl, hnil⟩ | ⟨r, rfl, hr1, hr2, hr3, hr4⟩
    · have hlook : (Instr.lookup 104 (.map none) (keyV ⟨op, width, flags, args, imm⟩) true).run Try.prog ((((w.alloc (.cells #[.int .i64 op, .int .i64 width, .int .i64 flags, .slice aa args.length ac, .int .u32 imm] 47)).alloc (.cells #[.int .i64 op, .int .i64 width, .int .u32 imm, .int .i64 (args.getD 0 (-1)), .int .i64 (args.getD 1 (-1)), .int .i64 (args.getD 2 (-1))] 131)).drew).drew) = .ok (.tuple #[.int .i64 0, .bool false]) _ :=
        lookup_nil lawKey Try.underlying104 (fun _ => by kernel_rfl) hq
      simp only [keyV] at hlook
      obtain ⟨w6, r, hmk, hw6, hr6⟩ : ∃ w6 r, (Instr.makeMap 104 none).run Try.prog (((w.alloc (.cells #[.int .i64 op, .int .i64 width, .int .i64 flags, .slice aa args.length ac, .int .u32 imm] 47)).alloc (.cells #[.int .i64 op, .int .i64 width, .int .u32 imm, .int .i64 (args.getD 0 (-1)), .int .i64 (args.getD 1 (-1)), .int .i64 (args.getD 2 (-1))] 131)).drew.drew) = .ok (.map (some r)) w6 ∧ w6 = ((w.alloc (.cells #[.int .i64 op, .int .i64 width, .int .i64 flags, .slice aa args.length ac, .int .u32 imm] 47)).alloc (.cells #[.int .i64 op, .int .i64 width, .int .u32 imm, .int .i64 (args.getD 0 (-1)), .int .i64 (args.getD 1 (-1)), .int .i64 (args.getD 2 (-1))] 131)).drew.drew.alloc (.map #[] 0) ∧ r = w.heap.size + 2 := ⟨_, _, (show (Instr.makeMap 104 none).run Try.prog (((w.alloc (.cells #[.int .i64 op, .int .i64 width, .int .i64 flags, .slice aa args.length ac, .int .u32 imm] 47)).alloc (.cells #[.int .i64 op, .int .i64 width, .int .u32 imm, .int .i64 (args.getD 0 (-1)), .int .i64 (args.getD 1 (-1)), .int .i64 (args.getD 2 (-1))] 131)).drew.drew) = .ok (.map (some (((w.alloc (.cells #[.int .i64 op, .int .i64 width, .int .i64 flags, .slice aa args.length ac, .int .u32 imm] 47)).alloc (.cells #[.int .i64 op, .int .i64 width, .int .u32 imm, .int .i64 (args.getD 0 (-1)), .int .i64 (args.getD 1 (-1)), .int .i64 (args.getD 2 (-1))] 131)).drew.drew).heap.size)) (((w.alloc (.cells #[.int .i64 op, .int .i64 width, .int .i64 flags, .slice aa args.length ac, .int .u32 imm] 47)).alloc (.cells #[.int .i64 op, .int .i64 width, .int .u32 imm, .int .i64 (args.getD 0 (-1)), .int .i64 (args.getD 1 (-1)), .int .i64 (args.getD 2 (-1))] 131)).drew.drew.alloc (.map #[] 0)) by kernel_rfl), rfl, by simp⟩
      have hb6 : Below w.heap.size w w6 := by rw [hw6]; exact ((((Below.refl _ _).alloc (Nat.le_refl _) _).alloc (by simp) _).drew.drew).alloc (by simp; omega) _
      have c60 := below_cell hb6 hbl c0
      have c61 := below_cell hb6 hbl c1
      have f61 : w6.frozen? ⟨bb, 1, none⟩ = false := by rw [← f1]; exact hb6.frozen (p := ⟨bb, 1, none⟩) hbl
      have f60 : w6.frozen? ⟨bb, 0, none⟩ = false := by rw [← f0]; exact hb6.frozen (p := ⟨bb, 0, none⟩) hbl
      have HMID : Hid (AddMid bb o W w (w6.setCell ⟨bb, 1, none⟩ (.map (some r))) na nc avs r op width flags imm args aa ac (args.getD 0 (-1)) (args.getD 1 (-1)) (args.getD 2 (-1))) := by
        have hother : ∀ b i, b ≠ bb → (w6.setCell ⟨bb, 1, none⟩ (.map (some r))).cell? ⟨b, i, none⟩ = w6.cell? ⟨b, i, none⟩ := fun b i hne => World.cell?_setCell_other _ _ _ _ (by intro e; cases e; exact hne rfl)
        have hal : ∀ b i, b < w.heap.size + 2 → w6.cell? ⟨b, i, none⟩ = ((w.alloc (.cells #[.int .i64 op, .int .i64 width, .int .i64 flags, .slice aa args.length ac, .int .u32 imm] 47)).alloc (.cells #[.int .i64 op, .int .i64 width, .int .u32 imm, .int .i64 (args.getD 0 (-1)), .int .i64 (args.getD 1 (-1)), .int .i64 (args.getD 2 (-1))] 131)).cell? ⟨b, i, none⟩ := fun b i hlt => by
          rw [hw6]
          exact ((Below.refl (((w.alloc (.cells #[.int .i64 op, .int .i64 width, .int .i64 flags, .slice aa args.length ac, .int .u32 imm] 47)).alloc (.cells #[.int .i64 op, .int .i64 width, .int .u32 imm, .int .i64 (args.getD 0 (-1)), .int .i64 (args.getD 1 (-1)), .int .i64 (args.getD 2 (-1))] 131)).drew.drew).heap.size _).alloc (Nat.le_refl _) (.map #[] 0)).cell (p := ⟨b, i, none⟩) (by simp; omega)
        have hset : Chg W w (w6.setCell ⟨bb, 1, none⟩ (.map (some r))) := (Chg.of_below hb6).setCell hb.Wb _
        exact {
          x0 := by rw [hother _ _ (by omega), hal _ _ (by omega)]; simp [go_sem]
          x1 := by rw [hother _ _ (by omega), hal _ _ (by omega)]; simp [go_sem]
          x2 := by rw [hother _ _ (by omega), hal _ _ (by omega)]; simp [go_sem]
          x3 := by rw [hother _ _ (by omega), hal _ _ (by omega)]; simp [go_sem]
          x4 := by rw [hother _ _ (by omega), hal _ _ (by omega)]; simp [go_sem]
          y0 := by rw [hother _ _ (by omega), hal _ _ (by omega)]; simp [go_sem]
          y1 := by rw [hother _ _ (by omega), hal _ _ (by omega)]; simp [go_sem]
          y2 := by rw [hother _ _ (by omega), hal _ _ (by omega)]; simp [go_sem]
          y3 := by rw [hother _ _ (by omega), hal _ _ (by omega)]; simp [go_sem]
          y4 := by rw [hother _ _ (by omega), hal _ _ (by omega)]; simp [go_sem]
          y5 := by rw [hother _ _ (by omega), hal _ _ (by omega)]; simp [go_sem]
          c0 := by rw [World.cell?_setCell_other _ _ _ _ (by intro e; cases e)]; exact c60
          c1 := World.cell?_setCell_same _ _ _ c61
          f0 := by rw [World.frozen?_setCell]; exact f60
          f1 := by rw [World.frozen?_setCell]; exact f61
          sz := by rw [hw6]; simp [World.setCell]
          row := own_same (T := fun b => (Value.slice na o.length nc).ownBlock = some b) hrow (((Chg.of_below (T := fun b => b = bb) hb6).setCell (b := bb) rfl _).same fun k hk => ⟨own_lt hrow k hk, fun e => (HRW.out k hk).2 e⟩) (fun b h => h)
          map := by
            have h6 : MapIs Try.prog 131 w6 r (entK o) := by
              rw [hw6, hnil, hr6]
              have := MapIs.made (P := Try.prog) (K := 131) (w := ((w.alloc (.cells #[.int .i64 op, .int .i64 width, .int .i64 flags, .slice aa args.length ac, .int .u32 imm] 47)).alloc (.cells #[.int .i64 op, .int .i64 width, .int .u32 imm, .int .i64 (args.getD 0 (-1)), .int .i64 (args.getD 1 (-1)), .int .i64 (args.getD 2 (-1))] 131)).drew.drew)
              simpa [entK] using this
            exact h6.same (T := fun b => b = r) (((Chg.refl (fun b => b = bb) w6).setCell (b := bb) rfl _).same fun k hk => by subst hk; exact ⟨h6.1, by omega⟩) rfl
          chg := hset
          hr := .inr (by omega)
          rb := by omega
          rn := fun e => by have := own_lt hrow _ e; omega
          rx := by omega }
      generalize args.getD 0 (-1) = k0 at *
      generalize args.getD 1 (-1) = k1 at *
      generalize args.getD 2 (-1) = k2 at *
      clear hT hb hx hv hav ha1 ha2 hx3 hq hm hrow hw6 hr6 hb6 hnil f60 c60
      go_enter Try.func67, Try.ntmps67
      go_wp2_with fail
      go_region
      clear hcp
      go_wp2_with fail
      go_region
      clear hlook
      have heq : ∀ w : World, (binOp .eql 104 (.map none) (.map none)).run Try.prog w = .ok (.bool true) w := fun _ => by kernel_rfl
      go_wp2_with fail
      clear heq hmk c61 f61
      generalize w6.setCell ⟨bb, 1, none⟩ (.map (some r)) = w7 at *
      have hmid := HMID.out
      have hmd : MapIs Try.prog 131 w7.drew r (entK o) := hmid.map
      have hk7 : keyV ⟨op, width, flags, args, imm⟩ = .agg #[.int .i64 op, .int .i64 width, .int .u32 imm, .int .i64 k0, .int .i64 k1, .int .i64 k2] := HKV.out
      obtain ⟨w8, hup, hw8⟩ : ∃ w8, (Instr.mapUpdate 104 (.map (some r)) (keyV ⟨op, width, flags, args, imm⟩) (.int .i64 (o.length : Int))).run Try.prog w7.drew = .ok () w8 ∧ w8 = setMap w7.drew r (ents (entK o ++ [(keyV ⟨op, width, flags, args, imm⟩, .int .i64 (o.length : Int))])) ((entK o).length + 1) :=
        ⟨_, update_new lawKey Try.underlying104 hmd HQ.out HMISS.out, rfl⟩
      rw [hk7] at hup
      clear hk7
      have hM : MapIs Try.prog 131 w8 r (entK (o ++ [⟨op, width, flags, args, imm⟩])) := by
        rw [hw8, entK_snoc]
        exact MapIs.new hmd HQ.out HMISS.out
      have hC : Chg (fun b => b = r) w7 w8 := by rw [hw8]; exact ((Chg.refl (fun b => b = r) w7).drew).setMap (b := r) rfl _ _
      have hz8 : w8.heap.size = w7.heap.size := by rw [hw8, size_setMap]; rfl
      have hs7 := hmid.sz
      have rx1 := hmid.rx.1
      have rb1 := hmid.rb
      have hnb : some bb ≠ (Value.slice na o.length nc).ownBlock := fun e => (HRW.out bb e.symm).2 rfl
      have hbl7 : bb < w7.heap.size := by omega
      have x0 := hC.cell (fun e => rx1 e.symm) hmid.x0
      have x1 := hC.cell (fun e => rx1 e.symm) hmid.x1
      have x2 := hC.cell (fun e => rx1 e.symm) hmid.x2
      have x3 := hC.cell (fun e => rx1 e.symm) hmid.x3
      have x4 := hC.cell (fun e => rx1 e.symm) hmid.x4
      have y0 := hmid.y0
      have y1 := hmid.y1
      have y2 := hmid.y2
      have y3 := hmid.y3
      have y4 := hmid.y4
      have y5 := hmid.y5
      have c70 := hmid.c0
      have c71 := hmid.c1
      have c80 := hC.cell (fun e => rb1 e.symm) hmid.c0
      have f80 : w8.frozen? ⟨bb, 0, none⟩ = false := by rw [hC.frozen (fun e => rb1 e.symm) hbl7]; exact hmid.f0
      have HC81 := Lib.hid (hC.cell (fun e => rb1 e.symm) hmid.c1)
      have HF81 : Hid (w8.frozen? ⟨bb, 1, none⟩ = false) := by
        show _ = _
        rw [hC.frozen (fun e => rb1 e.symm) hbl7]; exact hmid.f1
      have HROW : Hid (w8.ownsRow 0 47 5 (.slice na o.length nc) o.length (rowsC o avs)) := own_same (T := fun b => (Value.slice na o.length nc).ownBlock = some b) hmid.row (hC.same fun k hk => ⟨own_lt hmid.row k hk, fun e => hmid.rn (e ▸ hk)⟩) (fun b h => h)
      have HM := Lib.hid hM
      have HC : Hid (Chg (fun b => W b) w w8) := hmid.chg.trans hC (fun k hk h => by subst h; rcases hmid.hr with h | h; exact h; omega)
      have hs8 : w.heap.size + 1 < w8.heap.size := by omega
      have hle8 : w7.heap.size ≤ w8.heap.size := by omega
      clear hM hC hw8 hmid rx1 rb1 hmd hz8
      go_region
      clear hup y0 y1 y2 y3 y4 y5 c70 c71
      go_wp2_with fail
      have hfz : ∀ ob, (w8.alloc ob).frozen? ⟨bb, 0, none⟩ = false := fun ob => by rw [← f80]; exact ((Below.refl _ _).alloc (Nat.le_refl _) ob).frozen (p := ⟨bb, 0, none⟩) (by simp; omega)
      have hcz : ∀ ob, (w8.alloc ob).drew.cell? ⟨bb, 0, none⟩ = some (.slice na o.length nc) := fun ob => below_cell (B := w8.heap.size) (((Below.refl _ _).alloc (Nat.le_refl _) ob).drew) (by omega) c80
      have hfz2 : ∀ ob, (w8.alloc ob).drew.frozen? ⟨bb, 0, none⟩ = false := hfz
      go_region_law ((refine step_append_lies _ (by rfl) _ _ _ (by rfl) 0 47 i0 _ 5 56 Try.underlying22 hi0 hz0 hz1 hz2 rfl (by omega) (.slice na o.length nc) o.length (rowsC o avs) (by rfl) (((HROW.out).alloc _).drew) ⟨w8.heap.size, 0, none⟩ 1 1 [.int .i64 op, .int .i64 width, .int .i64 flags, .slice aa args.length ac, .int .u32 imm] (by rfl) (by rfl) (World.news_of_block (cs := #[.int .i64 op, .int .i64 width, .int .i64 flags, .slice aa args.length ac, .int .u32 imm]) (t := 47) (fr := (0, 0)) (heap_alloc_new w8 _)) (by simp [Value.oneCell']) (by omega) (by unfold maxLen; omega) (by omega) (Nat.zero_le _) (w8.heap.size + 1) (by simp) ?_; intro gg cap w1 hown1 hgrow hat hlt; have G0 := (hgrow.cell_far ⟨bb, 0, none⟩ (by simp; omega) hnb).trans (hcz _); have G1 := (hgrow.frozen_far ⟨bb, 0, none⟩ (by simp; omega) hnb).trans (hfz2 _)))
      all_goals
        clear hfz hfz2 hcz
        go_wp2_with fail
        go_ret
        rw [HST.out]
        have hmid := HMID.out
        obtain ⟨T', t1, t2, t3⟩ := add_done (x := ⟨op, width, flags, args, imm⟩) (av := .slice aa args.length ac) HB.out HX.out HV.out (fun b hb => ⟨fun h => (HAV.out b hb).1 ((HT.out b).2 (.inl h)), fun h => (HAV.out b hb).1 ((HT.out b).2 (.inr h)), (HAV.out b hb).2⟩) HC.out c80 HC81.out f80 HF81.out HM.out hmid.hr hmid.rb hmid.rn
          (Chg.trans (Chg.of_below (T := fun b => (Value.slice na o.length nc).ownBlock = some b) (((Below.refl _ _).alloc (Nat.le_refl _) _).drew)) (Chg.of_grown hgrow (fun k hk => hk)) (fun _ _ h => h)) hown1 (hat.elim (fun h => .inl h.symm) (fun h => .inr ⟨gg, rfl, by omega⟩))
        exact ⟨rfl, T', t1, fun b h => (t2 b h).imp_left (HT.out b).2, t3.mono fun k _ h => (HT.out k).2 (.inl h)⟩
    · have hlook : (Instr.lookup 104 (.map (some r)) (keyV ⟨op, width, flags, args, imm⟩) true).run Try.prog ((((w.alloc (.cells #[.int .i64 op, .int .i64 width, .int .i64 flags, .slice aa args.length ac, .int .u32 imm] 47)).alloc (.cells #[.int .i64 op, .int .i64 width, .int .u32 imm, .int .i64 (args.getD 0 (-1)), .int .i64 (args.getD 1 (-1)), .int .i64 (args.getD 2 (-1))] 131)).drew).drew) = .ok (.tuple #[.int .i64 0, .bool false]) _ :=
        lookup_miss lawKey Try.underlying104 (fun _ => by kernel_rfl) (hr4.below ((((Below.refl _ _).alloc (Nat.le_refl _) _).alloc (by simp) _).drew.drew)) hq HMISS.out
      have hrl := hr4.1
      simp only [keyV] at hlook
      have HMID : Hid (AddMid bb o W w (((w.alloc (.cells #[.int .i64 op, .int .i64 width, .int .i64 flags, .slice aa args.length ac, .int .u32 imm] 47)).alloc (.cells #[.int .i64 op, .int .i64 width, .int .u32 imm, .int .i64 (args.getD 0 (-1)), .int .i64 (args.getD 1 (-1)), .int .i64 (args.getD 2 (-1))] 131)).drew.drew) na nc avs r op width flags imm args aa ac (args.getD 0 (-1)) (args.getD 1 (-1)) (args.getD 2 (-1))) := by
        have hb6 : Below w.heap.size w (((w.alloc (.cells #[.int .i64 op, .int .i64 width, .int .i64 flags, .slice aa args.length ac, .int .u32 imm] 47)).alloc (.cells #[.int .i64 op, .int .i64 width, .int .u32 imm, .int .i64 (args.getD 0 (-1)), .int .i64 (args.getD 1 (-1)), .int .i64 (args.getD 2 (-1))] 131)).drew.drew) := ((((Below.refl _ _).alloc (Nat.le_refl _) _).alloc (by simp) _).drew.drew)
        exact {
          x0 := by simp [go_sem]
          x1 := by simp [go_sem]
          x2 := by simp [go_sem]
          x3 := by simp [go_sem]
          x4 := by simp [go_sem]
          y0 := by simp [go_sem]
          y1 := by simp [go_sem]
          y2 := by simp [go_sem]
          y3 := by simp [go_sem]
          y4 := by simp [go_sem]
          y5 := by simp [go_sem]
          c0 := below_cell hb6 hbl c0
          c1 := below_cell hb6 hbl c1
          f0 := by rw [← f0]; exact hb6.frozen (p := ⟨bb, 0, none⟩) hbl
          f1 := by rw [← f1]; exact hb6.frozen (p := ⟨bb, 1, none⟩) hbl
          sz := by simp
          row := own_same (T := fun b => (Value.slice na o.length nc).ownBlock = some b) hrow ((Chg.of_below (T := fun _ => False) hb6).same fun k hk => ⟨own_lt hrow k hk, fun e => e⟩) (fun b h => h)
          map := hr4.below hb6
          chg := Chg.of_below hb6
          hr := .inl hr1
          rb := hr2
          rn := hr3
          rx := by omega }
      generalize args.getD 0 (-1) = k0 at *
      generalize args.getD 1 (-1) = k1 at *
      generalize args.getD 2 (-1) = k2 at *
      clear hT hb hx hv hav ha1 ha2 hx3 hr4 hq hm hrow hr1 hr2 hr3
      go_enter Try.func67, Try.ntmps67
      go_wp2_with fail
      go_region
      clear hcp
      go_wp2_with fail
      go_region
      clear hlook
      have heq : ∀ w : World, (binOp .eql 104 (.map (some r)) (.map none)).run Try.prog w = .ok (.bool false) w := fun _ => by kernel_rfl
      go_wp2_with fail
      clear heq
      generalize (((w.alloc (.cells #[.int .i64 op, .int .i64 width, .int .i64 flags, .slice aa args.length ac, .int .u32 imm] 47)).alloc (.cells #[.int .i64 op, .int .i64 width, .int .u32 imm, .int .i64 k0, .int .i64 k1, .int .i64 k2] 131)).drew.drew) = w7 at *
      have hmid := HMID.out
      have hmd : MapIs Try.prog 131 w7.drew r (entK o) := hmid.map
      have hk7 : keyV ⟨op, width, flags, args, imm⟩ = .agg #[.int .i64 op, .int .i64 width, .int .u32 imm, .int .i64 k0, .int .i64 k1, .int .i64 k2] := HKV.out
      obtain ⟨w8, hup, hw8⟩ : ∃ w8, (Instr.mapUpdate 104 (.map (some r)) (keyV ⟨op, width, flags, args, imm⟩) (.int .i64 (o.length : Int))).run Try.prog w7.drew = .ok () w8 ∧ w8 = setMap w7.drew r (ents (entK o ++ [(keyV ⟨op, width, flags, args, imm⟩, .int .i64 (o.length : Int))])) ((entK o).length + 1) :=
        ⟨_, update_new lawKey Try.underlying104 hmd HQ.out HMISS.out, rfl⟩
      rw [hk7] at hup
      clear hk7
      have hM : MapIs Try.prog 131 w8 r (entK (o ++ [⟨op, width, flags, args, imm⟩])) := by
        rw [hw8, entK_snoc]
        exact MapIs.new hmd HQ.out HMISS.out
      have hC : Chg (fun b => b = r) w7 w8 := by rw [hw8]; exact ((Chg.refl (fun b => b = r) w7).drew).setMap (b := r) rfl _ _
      have hz8 : w8.heap.size = w7.heap.size := by rw [hw8, size_setMap]; rfl
      have hs7 := hmid.sz
      have rx1 := hmid.rx.1
      have rb1 := hmid.rb
      have hnb : some bb ≠ (Value.slice na o.length nc).ownBlock := fun e => (HRW.out bb e.symm).2 rfl
      have hbl7 : bb < w7.heap.size := by omega
      have x0 := hC.cell (fun e => rx1 e.symm) hmid.x0
      have x1 := hC.cell (fun e => rx1 e.symm) hmid.x1
      have x2 := hC.cell (fun e => rx1 e.symm) hmid.x2
      have x3 := hC.cell (fun e => rx1 e.symm) hmid.x3
      have x4 := hC.cell (fun e => rx1 e.symm) hmid.x4
      have y0 := hmid.y0
      have y1 := hmid.y1
      have y2 := hmid.y2
      have y3 := hmid.y3
      have y4 := hmid.y4
      have y5 := hmid.y5
      have c70 := hmid.c0
      have c71 := hmid.c1
      have c80 := hC.cell (fun e => rb1 e.symm) hmid.c0
      have f80 : w8.frozen? ⟨bb, 0, none⟩ = false := by rw [hC.frozen (fun e => rb1 e.symm) hbl7]; exact hmid.f0
      have HC81 := Lib.hid (hC.cell (fun e => rb1 e.symm) hmid.c1)
      have HF81 : Hid (w8.frozen? ⟨bb, 1, none⟩ = false) := by
        show _ = _
        rw [hC.frozen (fun e => rb1 e.symm) hbl7]; exact hmid.f1
      have HROW : Hid (w8.ownsRow 0 47 5 (.slice na o.length nc) o.length (rowsC o avs)) := own_same (T := fun b => (Value.slice na o.length nc).ownBlock = some b) hmid.row (hC.same fun k hk => ⟨own_lt hmid.row k hk, fun e => hmid.rn (e ▸ hk)⟩) (fun b h => h)
      have HM := Lib.hid hM
      have HC : Hid (Chg (fun b => W b) w w8) := hmid.chg.trans hC (fun k hk h => by subst h; rcases hmid.hr with h | h; exact h; omega)
      have hs8 : w.heap.size + 1 < w8.heap.size := by omega
      have hle8 : w7.heap.size ≤ w8.heap.size := by omega
      clear hM hC hw8 hmid rx1 rb1 hmd hz8
      go_region
      clear hup y0 y1 y2 y3 y4 y5 c70 c71
      go_wp2_with fail
      have hfz : ∀ ob, (w8.alloc ob).frozen? ⟨bb, 0, none⟩ = false := fun ob => by rw [← f80]; exact ((Below.refl _ _).alloc (Nat.le_refl _) ob).frozen (p := ⟨bb, 0, none⟩) (by simp; omega)
      have hcz : ∀ ob, (w8.alloc ob).drew.cell? ⟨bb, 0, none⟩ = some (.slice na o.length nc) := fun ob => below_cell (B := w8.heap.size) (((Below.refl _ _).alloc (Nat.le_refl _) ob).drew) (by omega) c80
      have hfz2 : ∀ ob, (w8.alloc ob).drew.frozen? ⟨bb, 0, none⟩ = false := hfz
      go_region_law ((refine step_append_lies _ (by rfl) _ _ _ (by rfl) 0 47 i0 _ 5 56 Try.underlying22 hi0 hz0 hz1 hz2 rfl (by omega) (.slice na o.length nc) o.length (rowsC o avs) (by rfl) (((HROW.out).alloc _).drew) ⟨w8.heap.size, 0, none⟩ 1 1 [.int .i64 op, .int .i64 width, .int .i64 flags, .slice aa args.length ac, .int .u32 imm] (by rfl) (by rfl) (World.news_of_block (cs := #[.int .i64 op, .int .i64 width, .int .i64 flags, .slice aa args.length ac, .int .u32 imm]) (t := 47) (fr := (0, 0)) (heap_alloc_new w8 _)) (by simp [Value.oneCell']) (by omega) (by unfold maxLen; omega) (by omega) (Nat.zero_le _) (w8.heap.size + 1) (by simp) ?_; intro gg cap w1 hown1 hgrow hat hlt; have G0 := (hgrow.cell_far ⟨bb, 0, none⟩ (by simp; omega) hnb).trans (hcz _); have G1 := (hgrow.frozen_far ⟨bb, 0, none⟩ (by simp; omega) hnb).trans (hfz2 _)))
      all_goals
        clear hfz hfz2 hcz
        go_wp2_with fail
        go_ret
        rw [HST.out]
        have hmid := HMID.out
        obtain ⟨T', t1, t2, t3⟩ := add_done (x := ⟨op, width, flags, args, imm⟩) (av := .slice aa args.length ac) HB.out HX.out HV.out (fun b hb => ⟨fun h => (HAV.out b hb).1 ((HT.out b).2 (.inl h)), fun h => (HAV.out b hb).1 ((HT.out b).2 (.inr h)), (HAV.out b hb).2⟩) HC.out c80 HC81.out f80 HF81.out HM.out hmid.hr hmid.rb hmid.rn
          (Chg.trans (Chg.of_below (T := fun b => (Value.slice na o.length nc).ownBlock = some b) (((Below.refl _ _).alloc (Nat.le_refl _) _).drew)) (Chg.of_grown hgrow (fun k hk => hk)) (fun _ _ h => h)) hown1 (hat.elim (fun h => .inl h.symm) (fun h => .inr ⟨gg, rfl, by omega⟩))
        exact ⟨rfl, T', t1, fun b h => (t2 b h).imp_left (HT.out b).2, t3.mono fun k _ h => (HT.out k).2 (.inl h)⟩
end Go.Proofs.Ythopdfikikdcbaa
/- Walk of share: the nodes that lead to a node, in new memory. -/
namespace Go.Proofs.Ythopdfikikdcbaa
open Go.RowKit Go.Maps Wd
set_option linter.unusedVariables false
set_option linter.unusedSimpArgs false
def cnt (l : List Int) : Nat := l.countP fun x => decide (0 ≤ x)
theorem cnt_le (l : List Int) : cnt l ≤ l.length := List.countP_le_length
theorem cnt_set : ∀ (l : List Int) (k : Nat) (x : Int), k < l.length → gno l k < 0 → 0 ≤ x → cnt (l.set k x) = cnt l + 1
  | [], k, x, h, _, _ => by simp at h
  | a :: l, 0, x, _, h, hx => by
    have ha : a < 0 := h
    simp [cnt, hx, show ¬ 0 ≤ a by omega]
  | a :: l, k + 1, x, h, hn, hx => by
    have := cnt_set l k x (by simpa using h) (by simpa [gno] using hn) hx
    simp only [cnt, List.set_cons_succ, List.countP_cons] at this ⊢
    omega
theorem cnt_repl (n : Nat) : cnt (List.replicate n (-1)) = 0 := by
  unfold cnt; rw [List.countP_replicate]; simp
/-- The builder's own step keeps this, whatever the builder had. -/
structure JA (B : Nat) (ts : List Nd) (o : List Nd) (nos : List Int) : Prop where
  len : nos.length = ts.length
  rng : ∀ k, 0 ≤ gno nos k → gno nos k < o.length
  sz : o.length ≤ B + cnt nos
theorem gjJA (B : Nat) (ts : List Nd) : GJ stepA ts (JA B ts) :=
  ⟨fun h => h.len, fun {s nos k} h hk hu _ => by
    obtain ⟨l, hl⟩ := @addN_ext s (gnd ts k nos)
    have h1 : (stepA s (gnd ts k nos)).1 = s ++ l := hl
    have h2 : (stepA s (gnd ts k nos)).2 < ((stepA s (gnd ts k nos)).1.length : Int) := by
      have := @addN_len s (gnd ts k nos)
      show ((addN s (gnd ts k nos)).2 : Int) < ((addN s (gnd ts k nos)).1.length : Int)
      omega
    have h0 : 0 ≤ (stepA s (gnd ts k nos)).2 := by show (0 : Int) ≤ ((addN _ _).2 : Int); omega
    have h3 : (stepA s (gnd ts k nos)).1.length ≤ s.length + 1 := by
      show (addN s (gnd ts k nos)).1.length ≤ _
      unfold addN; split <;> simp
    have hkn : k < nos.length := by rw [h.len]; exact hk
    refine ⟨⟨by rw [List.length_set]; exact h.len, fun j hj => ?_, ?_⟩, h0⟩
    · by_cases e : k = j
      · subst e; rw [gno_set_self hkn]; exact h2
      · rw [gno_set_ne e] at hj ⊢
        have := h.rng j hj
        rw [h1, List.length_append]; omega
    · rw [cnt_set nos k _ hkn hu h0]
      have := h.sz
      omega⟩
theorem ja_start (B : Nat) (ts o : List Nd) (h : o.length ≤ B) : JA B ts o (List.replicate ts.length (-1)) :=
  ⟨by simp, fun k hk => by rw [gno_repl] at hk; omega, by rw [cnt_repl]; omega⟩
/-- A node of a valid term. -/
structure NdV (x : Nd) : Prop where
  op : Sml x.op
  width : Sml x.width
  flags : x.flags = 0
  len : x.args.length ≤ 3
  imm : 0 ≤ x.imm ∧ x.imm ≤ 4294967295
theorem gnd_key {B : Nat} {ts o : List Nd} {nos : List Int} {k : Nat} (hx : NdV (nd ts k)) (hj : JA B ts o nos) (hB : B + ts.length ≤ 100000) (ht : ∀ a ∈ (nd ts k).args, 0 ≤ gno nos a.toNat) : NdK (gnd ts k nos) where
  op := hx.op
  width := hx.width
  flags := hx.flags
  len := by unfold gnd gn; simp only; rw [List.length_map]; exact hx.len
  args := fun a ha => by
    obtain ⟨b, hb, rfl⟩ := List.mem_map.1 (show a ∈ (nd ts k).args.map fun a => gno nos a.toNat from ha)
    have h1 := ht b hb
    have h2 := hj.rng _ h1
    have h3 := hj.sz
    have h4 := cnt_le nos
    have h5 := hj.len
    exact ⟨h1, by omega⟩
  imm := hx.imm
theorem iok_bld (bb : Nat) : IOk (Bld bb) := ⟨fun h hs => h.same hs, fun h => h.lt⟩
theorem made_add (bb B : Nat) (ts : List Nd) (w0 : World) (hB : B + ts.length ≤ 100000) (hv : ∀ k, k < ts.length → NdV (nd ts k)) :
    MadeOk stepA (Bld bb) (JA B ts) ts w0 67 #[.pointer (some ⟨bb, 0, none⟩)] #[] := by
  intro s nos k T w av hj hk hu ht hi hF hav hTB hb
  have h1 := hj.sz
  have h2 := cnt_le nos
  have h3 := hj.len
  exact add_any bb s T (gnd ts k nos) av w hi (gnd_key (hv k hk) hj hB ht) hF (fun b hb => ⟨(hav b hb).1, (hav b hb).2.1⟩) (by omega)
theorem callf_add (args : Array Value) (w : World) : (callFunc 67 args).run Try.prog w = .ok (.enter 67 args) w := by kernel_rfl
/-- What share returns: a builder's nodes, all in new memory. -/
def ShrIs (w w' : World) (v : Value) (o : List Nd) : Prop :=
  ∃ bb W R fv avs, BSt bb o W R w' v fv avs ∧ (∀ b, W b ∨ R b → w.heap.size ≤ b) ∧ Below w.heap.size w w'
set_option maxRecDepth 100000 in
set_option maxHeartbeats 1000000 in
theorem share_any (ts : List Nd) (tv : Value) (w : World) (k : Nat) (hts : Nds w tv ts) (hd : Down ts) (hv : ∀ k, k < ts.length → NdV (nd ts k)) (hk : k < ts.length) (hl : ts.length ≤ 100000) :
    Calls Try.prog 53 #[tv, .int .i64 (k : Int)] w fun e w' => ∃ v, e = .returned v ∧ ShrIs w w' v (shr ts k) := by
  have HTS := Lib.hid hts
  have hb2 : Below w.heap.size w ((w.alloc (.cells #[.slice none 0 0, .map none] 106)).alloc (.map #[] 0)) := ((Below.refl _ _).alloc (Nat.le_refl _) _).alloc (by simp) _
  have hbld : Bld w.heap.size [] (fun b => b = w.heap.size) ((w.alloc (.cells #[.slice none 0 0, .map none] 106)).alloc (.map #[] 0)) := by
    have hb1 : Below (w.alloc (.cells #[.slice none 0 0, .map none] 106)).heap.size (w.alloc (.cells #[.slice none 0 0, .map none] 106)) ((w.alloc (.cells #[.slice none 0 0, .map none] 106)).alloc (.map #[] 0)) := (Below.refl _ _).alloc (Nat.le_refl _) _
    refine ⟨fun b => b = w.heap.size, fun _ => False, .slice none 0 0, .map none, [], fun b => by simp, ?_⟩
    exact {
      b0 := below_cell hb1 (by simp) (by simp [go_sem])
      b1 := below_cell hb1 (by simp) (by simp [go_sem])
      f0 := by rw [hb1.frozen (p := ⟨w.heap.size, 0, none⟩) (by simp)]; simp [go_sem]
      f1 := by rw [hb1.frozen (p := ⟨w.heap.size, 1, none⟩) (by simp)]; simp [go_sem]
      Wb := rfl
      Wlt := fun b h => by subst h; simp; omega
      Rlt := fun b h => h.elim
      WR := fun b _ h => h
      row := World.ownsRow_nil _ _ _ _
      rowW := fun b h => by cases h
      len := rfl
      args := fun i hi => absurd hi (by simp)
      kn := fun x hx => by cases hx
      map := .inl ⟨rfl, rfl⟩ }
  have hseen : SeenIs ((w.alloc (.cells #[.slice none 0 0, .map none] 106)).alloc (.map #[] 0)) (w.heap.size + 1) (List.replicate ts.length (-1)) := by
    have := SeenIs.made (w := w.alloc (.cells #[.slice none 0 0, .map none] 106)) (n := ts.length) (by omega)
    rw [show (w.alloc (.cells #[.slice none 0 0, .map none] 106)).heap.size = w.heap.size + 1 by simp] at this
    exact this
  have HC := Lib.hid (fun bv => from_any (step := stepA) (I := Bld w.heap.size) (J := JA 0 ts) ts tv bv w _ _ _ callf_add hd (gjJA 0 ts) (iok_bld w.heap.size) hts (fun k hk => by have := (hv k hk).len; omega) (made_add w.heap.size 0 ts w (by omega) hv) (k + 1) k [] (List.replicate ts.length (-1)) (fun b => b = w.heap.size) _ (w.heap.size + 1) (by omega) hk (ja_start 0 ts [] (by simp)) hbld hseen (by omega) (by omega) (fun b h => by omega) hb2)
  have HE := Lib.hid (gvis_shr hd hk)
  clear hbld hseen hts hd hv
  obtain ⟨hmk⟩ : Nonempty (∀ w : World, (Instr.makeMap 108 none).run Try.prog w = .ok (.map (some w.heap.size)) (w.alloc (.map #[] 0))) := ⟨fun _ => by kernel_rfl⟩
  have HB2 := Lib.hid hb2
  clear hb2
  go_enter Try.func53, Try.ntmps53
  go_wp2_with fail
  refine (HC.out _).mono ?_
  rintro e w' ⟨rfl, T', hB, hS, hT, hch⟩
  rw [HE.out] at hB
  obtain ⟨W, R, nv, fv, avs, hW, hb⟩ := hB
  have hc := hb.b0
  have HB := Lib.hid hb
  have HW := Lib.hid hW
  have HT := Lib.hid hT
  have HCH := Lib.hid hch
  clear hb hW hT hch hS hmk
  go_wp2_with fail
  go_ret
  refine ⟨nv, rfl, w.heap.size, W, R, fv, avs, HB.out, fun b h => ?_, HB2.out.trans (HCH.out.below (by simp; omega) fun j hj => by omega)⟩
  rcases HT.out b ((HW.out b).2 h) with h | h
  · omega
  · simp at h; omega
end Go.Proofs.Ythopdfikikdcbaa
/- Walk of Depth of the answer. -/
namespace Go.Proofs.Ythopdfikikdcbaa
open Go.RowKit Wd
set_option linter.unusedVariables false
set_option linter.unusedSimpArgs false

set_option maxRecDepth 100000 in
set_option maxHeartbeats 8000000 in
theorem rDepth (ts : List Nd) (tv : Value) (w : World) (hts : Nds w tv ts) (hi : ∀ x ∈ ts, 0 ≤ x.imm ∧ x.imm ≤ 4294967295) : Calls Try.prog 16 #[tv] w fun e w' => e = .returned (.tuple #[.int .i64 (depV ts), .int .i64 (valE ts)]) ∧ Below w.heap.size w w' := by
  have HT := Lib.hid hts
  have HI := Lib.hid hi
  obtain ⟨ta, tc, rfl, ht1, ht2⟩ := hts.shape
  clear hi hts
  obtain ⟨i0, hi0, hz0, hz1, hz2⟩ := info_parts info_int
  cases hz : (valE ts != 0)
  rotate_left
  · have HZ : Hid (valE ts ≠ 0) := by
      have h : ¬ valE ts = 0 := by simpa using hz
      exact h
    have HV : Hid (depV ts = 0) := if_neg HZ.out
    go_enter Try.func16, Try.ntmps16
    go_wp2_with fail
    refine (rValidate ts _ _ HT.out HI.out).mono ?_
    rintro e w' ⟨rfl, hb1⟩
    go_wp2_with fail
    go_ret2
    exact ⟨by rw [HV.out]; rfl, hb1⟩
  have hz' : valE ts = 0 := by simpa using hz
  have HZ := Lib.hid hz'
  clear hz hz'
  have HF := Lib.hid (valid_facts HZ.out)
  have hlen : 1 ≤ ts.length ∧ ts.length ≤ 300 := ⟨HF.out.1, HF.out.2.1⟩
  obtain ⟨hl1, hl2⟩ := hlen
  have HV : Hid (depV ts = (deep ts).getD (ts.length - 1) 0) := if_pos HZ.out
  go_enter Try.func16, Try.ntmps16
  go_wp2_with fail
  refine (rValidate ts _ _ HT.out HI.out).mono ?_
  rintro e w1 ⟨rfl, hb1⟩
  rw [HZ.out]
  have hb1s := hb1.size
  have HB1 := Lib.hid hb1
  clear hb1
  go_wp2_with fail
  go_loopw [5, 6] (fun v i wr => ∃ j : Nat, j ≤ ts.length ∧ i = .int .i64 j ∧ RowI wr w.heap.size 3 .i64 v (deep (ts.take j)) ∧ Below w.heap.size w wr) (fun _ i _ => ts.length - (intOf i).toNat)
  case atStart => exact ⟨0, Nat.zero_le _, rfl, RowI.nil _ _ _ _, HB1.out⟩
  case round =>
    obtain ⟨j, hj, rfl, hrow, hb⟩ := hrel
    have HB := Lib.hid hb
    have hbs := hb.size
    by_cases hlt : j < ts.length
    · obtain ⟨b, q, c', av, e', _, hbq, hav, c0, c1, c2, c3, c4⟩ := HT.out.at2 hb hlt
      cases e'
      have HAV := Lib.hid (hav.stays hb)
      have HSF := Lib.hid (shaped_facts (okS_at HF.out.2.2.1 hlt))
      have HDB := Lib.hid (deep_bd ts j hj)
      have hdl := deep_take_len hj
      have HDM := Lib.hid (dmax_snoc (deep (ts.take j)))
      have HDS := Lib.hid (deep_snoc ts j hlt)
      generalize deep (ts.take j) = acc at *
      generalize ts.getD j default = x at *
      obtain ⟨op, width, flags, args, imm⟩ := x
      simp only at c0 c1 c2 c3 c4 hav HSF HDS
      have hal : args.length ≤ 3 := by have := HSF.out.1; rcases arV_cases op with h | h | h | h | h <;> omega
      obtain ⟨aa, ac, rfl, _⟩ := hav.shape
      obtain ⟨ra, rc, rfl⟩ := hrow.shape
      have hints := hrow.ints (by omega)
      unfold RowI at hrow
      rw [hdl] at hrow hints ⊢
      have HO0 := Lib.hid hrow
      have HAI := Lib.hid hints
      have HDL := Lib.hid hdl
      clear hb hav hrow hints hdl
      go_wp2_with fail
      go_loop [7, 8] (fun d i => ∃ k : Nat, k ≤ args.length ∧ i = .int .i64 k ∧ d = .int .i64 (dmax acc (args.take k))) (fun _ i => args.length - (intOf i).toNat)
      case atStart => exact ⟨0, Nat.zero_le _, rfl, rfl⟩
      case round =>
        obtain ⟨k, hk, rfl, rfl⟩ := hrel
        by_cases hlk : k < args.length
        · obtain ⟨b2, q2, c2', e', _, hb2, d0⟩ := HAV.out.at hlk
          cases e'
          have hr := HSF.out.2.1 (args.getD k 0) (by rw [List.getD_eq_getElem?_getD, List.getElem?_eq_getElem hlk]; exact List.getElem_mem hlk)
          have HM := Lib.hid (HDM.out args k hlk)
          generalize args.getD k 0 = y at *
          obtain ⟨m, rfl⟩ := Int.eq_ofNat_of_zero_le hr.1
          have hmj : m < j := by omega
          obtain ⟨b3, q3, rfl, _, hcs⟩ := HAI.out.row (by rw [HDL.out]; omega)
          have e2 := hcs m (by rw [HDL.out]; exact hmj)
          have bd := HDB.out m
          have bm := dmax_bd HDB.out (by omega) (args.take k)
          rw [Int.toNat_natCast] at HM
          clear hr hcs
          generalize dmax acc (args.take k) = p at *
          generalize acc.getD m 0 = z at *
          go_wp2_with fail
          go_round
          case rel => exact ⟨k + 1, by omega, by go_num, by rw [HM.out, ← max_if]⟩
          case measure => simp [intOf]; omega
        · obtain rfl : k = args.length := by omega
          rw [List.take_length]
          have bm := dmax_bd HDB.out (by omega) args
          generalize dmax acc args = p at *
          go_wp2_with (at_builtin; refine wpList_append_own _ rfl _ _ 25 rfl (w.heap.size) 3 i0 (.int .i64 0) 1 8 Try.underlying25 hi0 hz0 hz1 hz2 rfl (by decide) _ _ _ rfl (HO0.out.alloc _) ⟨wr.heap.size, 0, none⟩ 1 1 [.int .i64 (p + 1)] rfl rfl ?c1 ?c2 ?c3 ?c4 ?c5 ?_)
          case c2 => simp [Value.oneCell']
          case c3 => unfold maxLen; omega
          case c4 => omega
          case c5 => first | omega | (simp; omega)
          intro v' w2 hown' hgrow _
          have HO := Lib.hid hown'
          have HG := Lib.hid hgrow
          clear hown' hgrow
          go_wp2_with fail
          go_roundw
          case rel => exact ⟨j + 1, by omega, by go_num, RowI.app1 HO.out HDL.out HDS.out, (HB.out.alloc (by omega) _).grown HG.out (by simp; omega) (own_ge HO0.out)⟩
          case measure => simp [intOf]; omega
    · obtain rfl : j = ts.length := by omega
      rw [List.take_length] at hrow
      have hdl := deep_len ts
      obtain ⟨ra, rc, rfl⟩ := hrow.shape
      obtain ⟨b3, q3, rfl, _, hcs⟩ := (hrow.ints (by omega)).row (by omega)
      have e1 := hcs (ts.length - 1) (by omega)
      rw [← HV.out] at e1
      rw [hdl]
      clear hrow hdl hcs hb
      go_wp2_with fail
      go_ret2
      exact ⟨by rw [HZ.out]; rfl, HB.out⟩

end Go.Proofs.Ythopdfikikdcbaa
/- Compare, Opposite, Mirror of both sides, and the walk of the statement BitsCompares. -/
namespace Go.Proofs.Ythopdfikikdcbaa
open Go.RowKit Wd
set_option linter.unusedVariables false
set_option linter.unusedSimpArgs false
def isP (p : Int) : Bool := decide (0 ≤ p ∧ p ≤ 9)
def coX (p n a b : Int) : Bool := goodC p n a b && cmpV p n a b
def coE (p n a b : Int) : Int := if goodC p n a b = true then 0 else 1
def opX (p : Int) : Int := if isP p = true then oppV p else 0
def miX (p : Int) : Int := if isP p = true then mirV p else 0
def opE (p : Int) : Int := if isP p = true then 0 else 1

theorem isPred_any (p : Int) (w : World) : Calls Try.prog 103 #[.int .i64 p] w fun e w' => e = .returned (.bool (isP p)) ∧ w = w' := by
  by_cases h1 : 0 ≤ p <;> by_cases h2 : p ≤ 9
  all_goals
    go_enter Try.func103, Try.ntmps103
    go_wp2
    go_ret
    exact ⟨ret_b (by simp [isP, h1, h2]), rfl⟩
theorem rIsPred_any (p : Int) (w : World) : Calls Try.prog 109 #[.int .i64 p] w fun e w' => e = .returned (.bool (isP p)) ∧ w = w' := by
  by_cases h1 : 0 ≤ p <;> by_cases h2 : p ≤ 9
  all_goals
    go_enter Try.func109, Try.ntmps109
    go_wp2
    go_ret
    exact ⟨ret_b (by simp [isP, h1, h2]), rfl⟩
theorem rcompare_any (p x y : Int) (w : World) (h1 : 0 ≤ p) (h2 : p ≤ 9) : Calls Try.prog 110 #[.int .i64 p, .int .i64 x, .int .i64 y] w fun e w' => e = .returned (.bool (cmp2 p x y)) ∧ w = w' := by
  have h : p = 0 ∨ p = 1 ∨ p = 2 ∨ p = 3 ∨ p = 4 ∨ p = 5 ∨ p = 6 ∨ p = 7 ∨ p = 8 ∨ p = 9 := by omega
  rcases h with rfl | rfl | rfl | rfl | rfl | rfl | rfl | rfl | rfl | rfl
  · have e : cmp2 0 x y = (x == y) := rfl
    rw [e]
    clear e
    go_enter Try.func110, Try.ntmps110
    go_wp2
    go_ret
    exact ⟨rfl, rfl⟩
  · have e : cmp2 1 x y = (x != y) := rfl
    rw [e]
    clear e
    go_enter Try.func110, Try.ntmps110
    go_wp2
    go_ret
    exact ⟨rfl, rfl⟩
  · have e : cmp2 2 x y = decide (x < y) := rfl
    rw [e]
    clear e
    go_enter Try.func110, Try.ntmps110
    go_wp2
    go_ret
    exact ⟨rfl, rfl⟩
  · have e : cmp2 3 x y = decide (x ≤ y) := rfl
    rw [e]
    clear e
    go_enter Try.func110, Try.ntmps110
    go_wp2
    go_ret
    exact ⟨rfl, rfl⟩
  · have e : cmp2 4 x y = decide (y < x) := rfl
    rw [e]
    clear e
    go_enter Try.func110, Try.ntmps110
    go_wp2
    go_ret
    exact ⟨rfl, rfl⟩
  · have e : cmp2 5 x y = decide (y ≤ x) := rfl
    rw [e]
    clear e
    go_enter Try.func110, Try.ntmps110
    go_wp2
    go_ret
    exact ⟨rfl, rfl⟩
  · have e : cmp2 6 x y = decide (x < y) := rfl
    rw [e]
    clear e
    go_enter Try.func110, Try.ntmps110
    go_wp2
    go_ret
    exact ⟨rfl, rfl⟩
  · have e : cmp2 7 x y = decide (x ≤ y) := rfl
    rw [e]
    clear e
    go_enter Try.func110, Try.ntmps110
    go_wp2
    go_ret
    exact ⟨rfl, rfl⟩
  · have e : cmp2 8 x y = decide (y < x) := rfl
    rw [e]
    clear e
    go_enter Try.func110, Try.ntmps110
    go_wp2
    go_ret
    exact ⟨rfl, rfl⟩
  · have e : cmp2 9 x y = decide (y ≤ x) := rfl
    rw [e]
    clear e
    go_enter Try.func110, Try.ntmps110
    go_wp2
    go_ret
    exact ⟨rfl, rfl⟩

set_option maxHeartbeats 1000000 in
theorem pCompare (p n a b : Int) (h3 : 0 ≤ a) (h4 : a ≤ 4294967295) (h5 : 0 ≤ b) (h6 : b ≤ 4294967295) (w : World) : Calls Try.prog 82 #[.int .i64 p, .int .i64 n, .int .u32 a, .int .u32 b] w fun e w' => e = .returned (.tuple #[.bool (coX p n a b), .int .i64 (coE p n a b)]) ∧ Below w.heap.size w w' := by
  by_cases g : goodC p n a b = true
  · obtain ⟨g1, g2, g3, g4, g5, g6⟩ := (goodC_iff _ _ _ _).1 g
    have e2 : coE p n a b = 0 := by simp [coE, g]
    have e1 : coX p n a b = cmpV p n a b := by simp [coX, g]
    rw [e1, e2]
    have hn : isW n = true := by simp [isW, g3, g4]
    have fa : fit n a = true := by simp [fit, g5]
    have fb : fit n b = true := by simp [fit, g6]
    have hq : isP p = true := by simp [isP, g1, g2]
    have x1 := sgn_lo32 (n := n) (a := a) (by omega) (by omega) h3
    have x2 := sgn_hi32 (n := n) (a := a) (by omega) (by omega) g5
    have y1 := sgn_lo32 (n := n) (a := b) (by omega) (by omega) h5
    have y2 := sgn_hi32 (n := n) (a := b) (by omega) (by omega) g6
    clear e1 e2 g
    have h : p = 0 ∨ p = 1 ∨ p = 2 ∨ p = 3 ∨ p = 4 ∨ p = 5 ∨ p = 6 ∨ p = 7 ∨ p = 8 ∨ p = 9 := by omega
    rcases h with rfl | rfl | rfl | rfl | rfl | rfl | rfl | rfl | rfl | rfl
    · have e : cmpV 0 n a b = (a == b) := rfl
      rw [e]
      clear e
      go_enter Try.func82, Try.ntmps82
      go_wp2_with (first | (go_at_call 103; refine (isPred_any _ _).mono ?_; rintro e w' ⟨rfl, rfl⟩) | (go_at_call 104; refine (fits2 _ a b _ _ (by simp [go_sem]) (by simp [go_sem])).mono ?_; rintro e w' ⟨rfl, rfl⟩) | (go_at_call 105; refine (signed_any _ _ _ (by omega) (by omega) (by omega) (by omega)).mono ?_; rintro e w' ⟨rfl, rfl⟩))
      go_ret2
      exact ⟨rfl, (Below.refl _ _).alloc (Nat.le_refl _) _⟩
    · have e : cmpV 1 n a b = (a != b) := rfl
      rw [e]
      clear e
      go_enter Try.func82, Try.ntmps82
      go_wp2_with (first | (go_at_call 103; refine (isPred_any _ _).mono ?_; rintro e w' ⟨rfl, rfl⟩) | (go_at_call 104; refine (fits2 _ a b _ _ (by simp [go_sem]) (by simp [go_sem])).mono ?_; rintro e w' ⟨rfl, rfl⟩) | (go_at_call 105; refine (signed_any _ _ _ (by omega) (by omega) (by omega) (by omega)).mono ?_; rintro e w' ⟨rfl, rfl⟩))
      go_ret2
      exact ⟨rfl, (Below.refl _ _).alloc (Nat.le_refl _) _⟩
    · have e : cmpV 2 n a b = decide (a < b) := rfl
      rw [e]
      clear e
      go_enter Try.func82, Try.ntmps82
      go_wp2_with (first | (go_at_call 103; refine (isPred_any _ _).mono ?_; rintro e w' ⟨rfl, rfl⟩) | (go_at_call 104; refine (fits2 _ a b _ _ (by simp [go_sem]) (by simp [go_sem])).mono ?_; rintro e w' ⟨rfl, rfl⟩) | (go_at_call 105; refine (signed_any _ _ _ (by omega) (by omega) (by omega) (by omega)).mono ?_; rintro e w' ⟨rfl, rfl⟩))
      go_ret2
      exact ⟨rfl, (Below.refl _ _).alloc (Nat.le_refl _) _⟩
    · have e : cmpV 3 n a b = decide (a ≤ b) := rfl
      rw [e]
      clear e
      go_enter Try.func82, Try.ntmps82
      go_wp2_with (first | (go_at_call 103; refine (isPred_any _ _).mono ?_; rintro e w' ⟨rfl, rfl⟩) | (go_at_call 104; refine (fits2 _ a b _ _ (by simp [go_sem]) (by simp [go_sem])).mono ?_; rintro e w' ⟨rfl, rfl⟩) | (go_at_call 105; refine (signed_any _ _ _ (by omega) (by omega) (by omega) (by omega)).mono ?_; rintro e w' ⟨rfl, rfl⟩))
      go_ret2
      exact ⟨rfl, (Below.refl _ _).alloc (Nat.le_refl _) _⟩
    · have e : cmpV 4 n a b = decide (b < a) := rfl
      rw [e]
      clear e
      go_enter Try.func82, Try.ntmps82
      go_wp2_with (first | (go_at_call 103; refine (isPred_any _ _).mono ?_; rintro e w' ⟨rfl, rfl⟩) | (go_at_call 104; refine (fits2 _ a b _ _ (by simp [go_sem]) (by simp [go_sem])).mono ?_; rintro e w' ⟨rfl, rfl⟩) | (go_at_call 105; refine (signed_any _ _ _ (by omega) (by omega) (by omega) (by omega)).mono ?_; rintro e w' ⟨rfl, rfl⟩))
      go_ret2
      exact ⟨rfl, (Below.refl _ _).alloc (Nat.le_refl _) _⟩
    · have e : cmpV 5 n a b = decide (b ≤ a) := rfl
      rw [e]
      clear e
      go_enter Try.func82, Try.ntmps82
      go_wp2_with (first | (go_at_call 103; refine (isPred_any _ _).mono ?_; rintro e w' ⟨rfl, rfl⟩) | (go_at_call 104; refine (fits2 _ a b _ _ (by simp [go_sem]) (by simp [go_sem])).mono ?_; rintro e w' ⟨rfl, rfl⟩) | (go_at_call 105; refine (signed_any _ _ _ (by omega) (by omega) (by omega) (by omega)).mono ?_; rintro e w' ⟨rfl, rfl⟩))
      go_ret2
      exact ⟨rfl, (Below.refl _ _).alloc (Nat.le_refl _) _⟩
    · have e : cmpV 6 n a b = decide (sgn n a < sgn n b) := rfl
      rw [e]
      clear e
      go_enter Try.func82, Try.ntmps82
      go_wp2_with (first | (go_at_call 103; refine (isPred_any _ _).mono ?_; rintro e w' ⟨rfl, rfl⟩) | (go_at_call 104; refine (fits2 _ a b _ _ (by simp [go_sem]) (by simp [go_sem])).mono ?_; rintro e w' ⟨rfl, rfl⟩) | (go_at_call 105; refine (signed_any _ _ _ (by omega) (by omega) (by omega) (by omega)).mono ?_; rintro e w' ⟨rfl, rfl⟩))
      go_ret2
      exact ⟨rfl, (Below.refl _ _).alloc (Nat.le_refl _) _⟩
    · have e : cmpV 7 n a b = decide (sgn n a ≤ sgn n b) := rfl
      rw [e]
      clear e
      go_enter Try.func82, Try.ntmps82
      go_wp2_with (first | (go_at_call 103; refine (isPred_any _ _).mono ?_; rintro e w' ⟨rfl, rfl⟩) | (go_at_call 104; refine (fits2 _ a b _ _ (by simp [go_sem]) (by simp [go_sem])).mono ?_; rintro e w' ⟨rfl, rfl⟩) | (go_at_call 105; refine (signed_any _ _ _ (by omega) (by omega) (by omega) (by omega)).mono ?_; rintro e w' ⟨rfl, rfl⟩))
      go_ret2
      exact ⟨rfl, (Below.refl _ _).alloc (Nat.le_refl _) _⟩
    · have e : cmpV 8 n a b = decide (sgn n b < sgn n a) := rfl
      rw [e]
      clear e
      go_enter Try.func82, Try.ntmps82
      go_wp2_with (first | (go_at_call 103; refine (isPred_any _ _).mono ?_; rintro e w' ⟨rfl, rfl⟩) | (go_at_call 104; refine (fits2 _ a b _ _ (by simp [go_sem]) (by simp [go_sem])).mono ?_; rintro e w' ⟨rfl, rfl⟩) | (go_at_call 105; refine (signed_any _ _ _ (by omega) (by omega) (by omega) (by omega)).mono ?_; rintro e w' ⟨rfl, rfl⟩))
      go_ret2
      exact ⟨rfl, (Below.refl _ _).alloc (Nat.le_refl _) _⟩
    · have e : cmpV 9 n a b = decide (sgn n b ≤ sgn n a) := rfl
      rw [e]
      clear e
      go_enter Try.func82, Try.ntmps82
      go_wp2_with (first | (go_at_call 103; refine (isPred_any _ _).mono ?_; rintro e w' ⟨rfl, rfl⟩) | (go_at_call 104; refine (fits2 _ a b _ _ (by simp [go_sem]) (by simp [go_sem])).mono ?_; rintro e w' ⟨rfl, rfl⟩) | (go_at_call 105; refine (signed_any _ _ _ (by omega) (by omega) (by omega) (by omega)).mono ?_; rintro e w' ⟨rfl, rfl⟩))
      go_ret2
      exact ⟨rfl, (Below.refl _ _).alloc (Nat.le_refl _) _⟩
  · have e2 : coE p n a b = 1 := by simp [coE, g]
    have e1 : coX p n a b = false := by simp [coX, g]
    rw [e1, e2]
    clear e1 e2
    cases hq : isP p
    · clear g
      go_enter Try.func82, Try.ntmps82
      go_wp2_with (first | (go_at_call 103; refine (isPred_any _ _).mono ?_; rintro e w' ⟨rfl, rfl⟩) | (go_at_call 104; refine (fits2 _ a b _ _ (by simp [go_sem]) (by simp [go_sem])).mono ?_; rintro e w' ⟨rfl, rfl⟩) | (go_at_call 105; refine (signed_any _ _ _ (by omega) (by omega) (by omega) (by omega)).mono ?_; rintro e w' ⟨rfl, rfl⟩))
      go_ret2
      exact ⟨rfl, Below.refl _ _⟩
    · have hx : (isW n && fit n a && fit n b) = false := by
        rw [Bool.eq_false_iff]
        intro h
        apply g
        simp only [isP, isW, fit, Bool.and_eq_true, decide_eq_true_eq] at hq h
        exact (goodC_iff _ _ _ _).2 ⟨hq.1, hq.2, h.1.1.1, h.1.1.2, h.1.2, h.2⟩
      clear g
      cases hw : isW n
      · clear hx
        go_enter Try.func82, Try.ntmps82
        go_wp2_with (first | (go_at_call 103; refine (isPred_any _ _).mono ?_; rintro e w' ⟨rfl, rfl⟩) | (go_at_call 104; refine (fits2 _ a b _ _ (by simp [go_sem]) (by simp [go_sem])).mono ?_; rintro e w' ⟨rfl, rfl⟩) | (go_at_call 105; refine (signed_any _ _ _ (by omega) (by omega) (by omega) (by omega)).mono ?_; rintro e w' ⟨rfl, rfl⟩))
        go_ret2
        exact ⟨rfl, (Below.refl _ _).alloc (Nat.le_refl _) _⟩
      · cases fa : fit n a
        · clear hx
          go_enter Try.func82, Try.ntmps82
          go_wp2_with (first | (go_at_call 103; refine (isPred_any _ _).mono ?_; rintro e w' ⟨rfl, rfl⟩) | (go_at_call 104; refine (fits2 _ a b _ _ (by simp [go_sem]) (by simp [go_sem])).mono ?_; rintro e w' ⟨rfl, rfl⟩) | (go_at_call 105; refine (signed_any _ _ _ (by omega) (by omega) (by omega) (by omega)).mono ?_; rintro e w' ⟨rfl, rfl⟩))
          go_ret2
          exact ⟨rfl, (Below.refl _ _).alloc (Nat.le_refl _) _⟩
        · have fb : fit n b = false := by simpa [hw, fa] using hx
          clear hx
          go_enter Try.func82, Try.ntmps82
          go_wp2_with (first | (go_at_call 103; refine (isPred_any _ _).mono ?_; rintro e w' ⟨rfl, rfl⟩) | (go_at_call 104; refine (fits2 _ a b _ _ (by simp [go_sem]) (by simp [go_sem])).mono ?_; rintro e w' ⟨rfl, rfl⟩) | (go_at_call 105; refine (signed_any _ _ _ (by omega) (by omega) (by omega) (by omega)).mono ?_; rintro e w' ⟨rfl, rfl⟩))
          go_ret2
          exact ⟨rfl, (Below.refl _ _).alloc (Nat.le_refl _) _⟩

set_option maxHeartbeats 1000000 in
theorem rCompare (p n a b : Int) (h3 : 0 ≤ a) (h4 : a ≤ 4294967295) (h5 : 0 ≤ b) (h6 : b ≤ 4294967295) (w : World) : Calls Try.prog 86 #[.int .i64 p, .int .i64 n, .int .u32 a, .int .u32 b] w fun e w' => e = .returned (.tuple #[.bool (coX p n a b), .int .i64 (coE p n a b)]) ∧ w = w' := by
  by_cases g : goodC p n a b = true
  · obtain ⟨g1, g2, g3, g4, g5, g6⟩ := (goodC_iff _ _ _ _).1 g
    have e2 : coE p n a b = 0 := by simp [coE, g]
    have e1 : coX p n a b = cmpV p n a b := by simp [coX, g]
    rw [e1, e2]
    have hn : isW n = true := by simp [isW, g3, g4]
    have fa : fit n a = true := by simp [fit, g5]
    have fb : fit n b = true := by simp [fit, g6]
    have hq : isP p = true := by simp [isP, g1, g2]
    have x1 := sgn_lo32 (n := n) (a := a) (by omega) (by omega) h3
    have x2 := sgn_hi32 (n := n) (a := a) (by omega) (by omega) g5
    have y1 := sgn_lo32 (n := n) (a := b) (by omega) (by omega) h5
    have y2 := sgn_hi32 (n := n) (a := b) (by omega) (by omega) g6
    clear e1 e2 g
    have h : p = 0 ∨ p = 1 ∨ p = 2 ∨ p = 3 ∨ p = 4 ∨ p = 5 ∨ p = 6 ∨ p = 7 ∨ p = 8 ∨ p = 9 := by omega
    rcases h with rfl | rfl | rfl | rfl | rfl | rfl | rfl | rfl | rfl | rfl
    · have e : cmpV 0 n a b = cmp2 0 a b := rfl
      rw [e]
      clear e
      go_enter Try.func86, Try.ntmps86
      go_wp2_with (first | (go_at_call 109; refine (rIsPred_any _ _).mono ?_; rintro e w' ⟨rfl, rfl⟩) | (go_at_call 85; refine (rIsWord_any _ _ _ (by omega) (by omega)).mono ?_; rintro e w' ⟨rfl, rfl⟩) | (go_at_call 111; refine (rSign_any _ _ _ (by omega) (by omega) (by omega) (by omega)).mono ?_; rintro e w' ⟨rfl, rfl⟩) | (go_at_call 110; refine (rcompare_any _ _ _ _ (by omega) (by omega)).mono ?_; rintro e w' ⟨rfl, rfl⟩))
      go_ret2
      exact ⟨rfl, rfl⟩
    · have e : cmpV 1 n a b = cmp2 1 a b := rfl
      rw [e]
      clear e
      go_enter Try.func86, Try.ntmps86
      go_wp2_with (first | (go_at_call 109; refine (rIsPred_any _ _).mono ?_; rintro e w' ⟨rfl, rfl⟩) | (go_at_call 85; refine (rIsWord_any _ _ _ (by omega) (by omega)).mono ?_; rintro e w' ⟨rfl, rfl⟩) | (go_at_call 111; refine (rSign_any _ _ _ (by omega) (by omega) (by omega) (by omega)).mono ?_; rintro e w' ⟨rfl, rfl⟩) | (go_at_call 110; refine (rcompare_any _ _ _ _ (by omega) (by omega)).mono ?_; rintro e w' ⟨rfl, rfl⟩))
      go_ret2
      exact ⟨rfl, rfl⟩
    · have e : cmpV 2 n a b = cmp2 2 a b := rfl
      rw [e]
      clear e
      go_enter Try.func86, Try.ntmps86
      go_wp2_with (first | (go_at_call 109; refine (rIsPred_any _ _).mono ?_; rintro e w' ⟨rfl, rfl⟩) | (go_at_call 85; refine (rIsWord_any _ _ _ (by omega) (by omega)).mono ?_; rintro e w' ⟨rfl, rfl⟩) | (go_at_call 111; refine (rSign_any _ _ _ (by omega) (by omega) (by omega) (by omega)).mono ?_; rintro e w' ⟨rfl, rfl⟩) | (go_at_call 110; refine (rcompare_any _ _ _ _ (by omega) (by omega)).mono ?_; rintro e w' ⟨rfl, rfl⟩))
      go_ret2
      exact ⟨rfl, rfl⟩
    · have e : cmpV 3 n a b = cmp2 3 a b := rfl
      rw [e]
      clear e
      go_enter Try.func86, Try.ntmps86
      go_wp2_with (first | (go_at_call 109; refine (rIsPred_any _ _).mono ?_; rintro e w' ⟨rfl, rfl⟩) | (go_at_call 85; refine (rIsWord_any _ _ _ (by omega) (by omega)).mono ?_; rintro e w' ⟨rfl, rfl⟩) | (go_at_call 111; refine (rSign_any _ _ _ (by omega) (by omega) (by omega) (by omega)).mono ?_; rintro e w' ⟨rfl, rfl⟩) | (go_at_call 110; refine (rcompare_any _ _ _ _ (by omega) (by omega)).mono ?_; rintro e w' ⟨rfl, rfl⟩))
      go_ret2
      exact ⟨rfl, rfl⟩
    · have e : cmpV 4 n a b = cmp2 4 a b := rfl
      rw [e]
      clear e
      go_enter Try.func86, Try.ntmps86
      go_wp2_with (first | (go_at_call 109; refine (rIsPred_any _ _).mono ?_; rintro e w' ⟨rfl, rfl⟩) | (go_at_call 85; refine (rIsWord_any _ _ _ (by omega) (by omega)).mono ?_; rintro e w' ⟨rfl, rfl⟩) | (go_at_call 111; refine (rSign_any _ _ _ (by omega) (by omega) (by omega) (by omega)).mono ?_; rintro e w' ⟨rfl, rfl⟩) | (go_at_call 110; refine (rcompare_any _ _ _ _ (by omega) (by omega)).mono ?_; rintro e w' ⟨rfl, rfl⟩))
      go_ret2
      exact ⟨rfl, rfl⟩
    · have e : cmpV 5 n a b = cmp2 5 a b := rfl
      rw [e]
      clear e
      go_enter Try.func86, Try.ntmps86
      go_wp2_with (first | (go_at_call 109; refine (rIsPred_any _ _).mono ?_; rintro e w' ⟨rfl, rfl⟩) | (go_at_call 85; refine (rIsWord_any _ _ _ (by omega) (by omega)).mono ?_; rintro e w' ⟨rfl, rfl⟩) | (go_at_call 111; refine (rSign_any _ _ _ (by omega) (by omega) (by omega) (by omega)).mono ?_; rintro e w' ⟨rfl, rfl⟩) | (go_at_call 110; refine (rcompare_any _ _ _ _ (by omega) (by omega)).mono ?_; rintro e w' ⟨rfl, rfl⟩))
      go_ret2
      exact ⟨rfl, rfl⟩
    · have e : cmpV 6 n a b = cmp2 6 (sgn n a) (sgn n b) := rfl
      rw [e]
      clear e
      go_enter Try.func86, Try.ntmps86
      go_wp2_with (first | (go_at_call 109; refine (rIsPred_any _ _).mono ?_; rintro e w' ⟨rfl, rfl⟩) | (go_at_call 85; refine (rIsWord_any _ _ _ (by omega) (by omega)).mono ?_; rintro e w' ⟨rfl, rfl⟩) | (go_at_call 111; refine (rSign_any _ _ _ (by omega) (by omega) (by omega) (by omega)).mono ?_; rintro e w' ⟨rfl, rfl⟩) | (go_at_call 110; refine (rcompare_any _ _ _ _ (by omega) (by omega)).mono ?_; rintro e w' ⟨rfl, rfl⟩))
      go_ret2
      exact ⟨rfl, rfl⟩
    · have e : cmpV 7 n a b = cmp2 7 (sgn n a) (sgn n b) := rfl
      rw [e]
      clear e
      go_enter Try.func86, Try.ntmps86
      go_wp2_with (first | (go_at_call 109; refine (rIsPred_any _ _).mono ?_; rintro e w' ⟨rfl, rfl⟩) | (go_at_call 85; refine (rIsWord_any _ _ _ (by omega) (by omega)).mono ?_; rintro e w' ⟨rfl, rfl⟩) | (go_at_call 111; refine (rSign_any _ _ _ (by omega) (by omega) (by omega) (by omega)).mono ?_; rintro e w' ⟨rfl, rfl⟩) | (go_at_call 110; refine (rcompare_any _ _ _ _ (by omega) (by omega)).mono ?_; rintro e w' ⟨rfl, rfl⟩))
      go_ret2
      exact ⟨rfl, rfl⟩
    · have e : cmpV 8 n a b = cmp2 8 (sgn n a) (sgn n b) := rfl
      rw [e]
      clear e
      go_enter Try.func86, Try.ntmps86
      go_wp2_with (first | (go_at_call 109; refine (rIsPred_any _ _).mono ?_; rintro e w' ⟨rfl, rfl⟩) | (go_at_call 85; refine (rIsWord_any _ _ _ (by omega) (by omega)).mono ?_; rintro e w' ⟨rfl, rfl⟩) | (go_at_call 111; refine (rSign_any _ _ _ (by omega) (by omega) (by omega) (by omega)).mono ?_; rintro e w' ⟨rfl, rfl⟩) | (go_at_call 110; refine (rcompare_any _ _ _ _ (by omega) (by omega)).mono ?_; rintro e w' ⟨rfl, rfl⟩))
      go_ret2
      exact ⟨rfl, rfl⟩
    · have e : cmpV 9 n a b = cmp2 9 (sgn n a) (sgn n b) := rfl
      rw [e]
      clear e
      go_enter Try.func86, Try.ntmps86
      go_wp2_with (first | (go_at_call 109; refine (rIsPred_any _ _).mono ?_; rintro e w' ⟨rfl, rfl⟩) | (go_at_call 85; refine (rIsWord_any _ _ _ (by omega) (by omega)).mono ?_; rintro e w' ⟨rfl, rfl⟩) | (go_at_call 111; refine (rSign_any _ _ _ (by omega) (by omega) (by omega) (by omega)).mono ?_; rintro e w' ⟨rfl, rfl⟩) | (go_at_call 110; refine (rcompare_any _ _ _ _ (by omega) (by omega)).mono ?_; rintro e w' ⟨rfl, rfl⟩))
      go_ret2
      exact ⟨rfl, rfl⟩
  · have e2 : coE p n a b = 1 := by simp [coE, g]
    have e1 : coX p n a b = false := by simp [coX, g]
    rw [e1, e2]
    clear e1 e2
    cases hq : isP p
    · clear g
      go_enter Try.func86, Try.ntmps86
      go_wp2_with (first | (go_at_call 109; refine (rIsPred_any _ _).mono ?_; rintro e w' ⟨rfl, rfl⟩) | (go_at_call 85; refine (rIsWord_any _ _ _ (by omega) (by omega)).mono ?_; rintro e w' ⟨rfl, rfl⟩) | (go_at_call 111; refine (rSign_any _ _ _ (by omega) (by omega) (by omega) (by omega)).mono ?_; rintro e w' ⟨rfl, rfl⟩) | (go_at_call 110; refine (rcompare_any _ _ _ _ (by omega) (by omega)).mono ?_; rintro e w' ⟨rfl, rfl⟩))
      go_ret2
      exact ⟨rfl, rfl⟩
    · have hx : (isW n && fit n a && fit n b) = false := by
        rw [Bool.eq_false_iff]
        intro h
        apply g
        simp only [isP, isW, fit, Bool.and_eq_true, decide_eq_true_eq] at hq h
        exact (goodC_iff _ _ _ _).2 ⟨hq.1, hq.2, h.1.1.1, h.1.1.2, h.1.2, h.2⟩
      clear g
      cases hw : isW n
      · clear hx
        go_enter Try.func86, Try.ntmps86
        go_wp2_with (first | (go_at_call 109; refine (rIsPred_any _ _).mono ?_; rintro e w' ⟨rfl, rfl⟩) | (go_at_call 85; refine (rIsWord_any _ _ _ (by omega) (by omega)).mono ?_; rintro e w' ⟨rfl, rfl⟩) | (go_at_call 111; refine (rSign_any _ _ _ (by omega) (by omega) (by omega) (by omega)).mono ?_; rintro e w' ⟨rfl, rfl⟩) | (go_at_call 110; refine (rcompare_any _ _ _ _ (by omega) (by omega)).mono ?_; rintro e w' ⟨rfl, rfl⟩))
        go_ret2
        exact ⟨rfl, rfl⟩
      · cases fa : fit n a
        · clear hx
          go_enter Try.func86, Try.ntmps86
          go_wp2_with (first | (go_at_call 109; refine (rIsPred_any _ _).mono ?_; rintro e w' ⟨rfl, rfl⟩) | (go_at_call 85; refine (rIsWord_any _ _ _ (by omega) (by omega)).mono ?_; rintro e w' ⟨rfl, rfl⟩) | (go_at_call 111; refine (rSign_any _ _ _ (by omega) (by omega) (by omega) (by omega)).mono ?_; rintro e w' ⟨rfl, rfl⟩) | (go_at_call 110; refine (rcompare_any _ _ _ _ (by omega) (by omega)).mono ?_; rintro e w' ⟨rfl, rfl⟩))
          go_ret2
          exact ⟨rfl, rfl⟩
        · have fb : fit n b = false := by simpa [hw, fa] using hx
          clear hx
          go_enter Try.func86, Try.ntmps86
          go_wp2_with (first | (go_at_call 109; refine (rIsPred_any _ _).mono ?_; rintro e w' ⟨rfl, rfl⟩) | (go_at_call 85; refine (rIsWord_any _ _ _ (by omega) (by omega)).mono ?_; rintro e w' ⟨rfl, rfl⟩) | (go_at_call 111; refine (rSign_any _ _ _ (by omega) (by omega) (by omega) (by omega)).mono ?_; rintro e w' ⟨rfl, rfl⟩) | (go_at_call 110; refine (rcompare_any _ _ _ _ (by omega) (by omega)).mono ?_; rintro e w' ⟨rfl, rfl⟩))
          go_ret2
          exact ⟨rfl, rfl⟩

end Go.Proofs.Ythopdfikikdcbaa
/- The values of the nodes of a term: the plain law; and the walk of the closure that reads an Arg's value. -/
namespace Go.Proofs.Ythopdfikikdcbaa
open Go.RowKit Wd
set_option linter.unusedVariables false
set_option linter.unusedSimpArgs false
theorem getD_mem0 {xs : List Int} {i : Nat} (hi : i < xs.length) : xs.getD i 0 ∈ xs := by
  rw [List.getD_eq_getElem?_getD, List.getElem?_eq_getElem hi]; exact List.getElem_mem hi
def vArg (acc : List Int) (x : Nd) (i : Nat) : Int := acc.getD (x.args.getD i 0).toNat 0
/-- The value of a node; acc: those of the nodes before it. -/
def vNode (ts : List Nd) (env acc : List Int) (x : Nd) : Int :=
  if x.op = 0 then x.imm else if x.op = 33 then env.getD x.imm.toNat 0 else
  if x.op = 14 then (if coX x.imm (wdt ts x.args 0) (vArg acc x 0) (vArg acc x 1) = true then 1 else 0) else
  if x.op = 15 then vArg acc x (2 - vArg acc x 0).toNat else
  if 16 ≤ x.op then exX x.op (wdt ts x.args 0) x.width (vArg acc x 0) else toX x.op x.width (vArg acc x 0) (vArg acc x 1)
def valsF (ts : List Nd) (env : List Int) (us : List Nd) : List Int := us.foldl (fun acc x => acc ++ [vNode ts env acc x]) []
def vals (ts : List Nd) (env : List Int) : List Int := valsF ts env ts
theorem vals_snoc (ts : List Nd) (env : List Int) (j : Nat) (h : j < ts.length) : valsF ts env (ts.take (j + 1)) = valsF ts env (ts.take j) ++ [vNode ts env (valsF ts env (ts.take j)) (ts.getD j default)] := by
  unfold valsF; rw [take_snoc ts j h, List.foldl_append]; rfl
theorem valsF_len (ts : List Nd) (env : List Int) (us : List Nd) : (valsF ts env us).length = us.length := by
  have : ∀ (us : List Nd) (acc : List Int), (us.foldl (fun acc x => acc ++ [vNode ts env acc x]) acc).length = acc.length + us.length := by
    intro us
    induction us with
    | nil => intro acc; rfl
    | cons x us ih => intro acc; rw [List.foldl_cons, ih]; simp; omega
  have := this us []
  rw [List.length_nil, Nat.zero_add] at this
  exact this
theorem valsF_take_len {ts : List Nd} {env : List Int} {j : Nat} (h : j ≤ ts.length) : (valsF ts env (ts.take j)).length = j := by rw [valsF_len, List.length_take]; omega
/-- An environment of a term, all words. -/
def EnvOk (ts : List Nd) (env : List Int) : Prop := env.length = 4 ∧ ∀ v, v < 4 → 0 ≤ env.getD v 0 ∧ env.getD v 0 ≤ 4294967295 ∧ ((widL ts).getD v 0 ≠ 0 → env.getD v 0 < pw ((widL ts).getD v 0))
/-- The value of the a-th node is a word of its width. -/
def WordsTo (ts : List Nd) (acc : List Int) (j : Nat) : Prop := ∀ a, a < j → 0 ≤ acc.getD a 0 ∧ acc.getD a 0 < pw (ts.getD a default).width
/-- What the typing of a valid term gives for one node. -/
structure NodeOk (ts : List Nd) (j : Nat) (x : Nd) : Prop where
  len : (x.args.length : Int) = arV x.op
  rng : ∀ i, i < x.args.length → 0 ≤ x.args.getD i 0 ∧ x.args.getD i 0 < j
  wid : 1 ≤ x.width ∧ x.width ≤ 32
  imm : immOk x = true
  typ : typed ts x = true
  one : x.op = 14 → x.width = 1
  ar : arV x.op ≠ -1
theorem nodeOk {ts : List Nd} (h : valE ts = 0) {j : Nat} (hj : j < ts.length) : NodeOk ts j (ts.getD j default) := by
  obtain ⟨_, _, h1, h2, _⟩ := valid_facts h
  obtain ⟨s1, s2, s3, s4, s5, s6, s7, s8⟩ := shaped_facts (okS_at h1 hj)
  exact ⟨s1, fun i hi => s2 _ (getD_mem0 hi), s3, s5, okT_at h2 hj, s7, s8⟩
theorem wdt_eq (ts : List Nd) (x : Nd) (i : Nat) : wdt ts x.args i = (ts.getD (x.args.getD i 0).toNat default).width := rfl
theorem vArg_word {ts : List Nd} {acc : List Int} {j : Nat} {x : Nd} (hx : NodeOk ts j x) (hw : WordsTo ts acc j) {i : Nat} (hi : i < x.args.length) : 0 ≤ vArg acc x i ∧ vArg acc x i < pw (wdt ts x.args i) := by
  have h := hx.rng i hi
  unfold vArg
  rw [wdt_eq]
  exact hw _ (by omega)
theorem word_le {n a : Int} (h : n ≤ 32) (ha : a < pw n) : a ≤ 4294967295 := by have := pw_le32 h; omega
theorem wdt_bd {ts : List Nd} (h : valE ts = 0) {j : Nat} {x : Nd} (hx : NodeOk ts j x) (hj : j ≤ ts.length) {i : Nat} (hi : i < x.args.length) : 1 ≤ wdt ts x.args i ∧ wdt ts x.args i ≤ 32 := by
  have h2 := hx.rng i hi
  rw [wdt_eq]
  exact (nodeOk h (by omega)).wid
theorem exX_word {op m n x : Int} (hn : 1 ≤ n) : 0 ≤ exX op m n x ∧ exX op m n x < pw n := by
  have hp := pw_pos n
  unfold exX
  split
  · unfold extV
    split
    · exact word_wr _ _
    · exact word_wr _ _
  · omega
theorem toX_word {op n a b : Int} (ha : 0 ≤ a) (hb : 0 ≤ b) (hn : 1 ≤ n) : 0 ≤ toX op n a b ∧ toX op n a b < pw n := by
  have hp := pw_pos n
  unfold toX
  split
  · exact tot_word ‹_› ha hb
  · omega
theorem typed_sel {ts : List Nd} {x : Nd} (h : typed ts x = true) (ho : x.op = 15) : wdt ts x.args 0 = 1 ∧ wdt ts x.args 1 = x.width ∧ wdt ts x.args 2 = x.width := by
  simp [typed, ho] at h
  exact ⟨h.1.1, h.1.2, h.2⟩
theorem vNode_word {ts : List Nd} {env acc : List Int} (h : valE ts = 0) (hI : ∀ x ∈ ts, 0 ≤ x.imm ∧ x.imm ≤ 4294967295) (he : EnvOk ts env) {j : Nat} (hj : j < ts.length) (hw : WordsTo ts acc j) :
    0 ≤ vNode ts env acc (ts.getD j default) ∧ vNode ts env acc (ts.getD j default) < pw (ts.getD j default).width := by
  have hx := nodeOk h hj
  have hi := hI _ (mem_getD hj)
  obtain ⟨_, _, hS, _, l, hl⟩ := valid_facts h
  have hinv := (wmap_inv (fun x hx => (hI x hx).1) (fun i hi => okS_at hS hi) ts.length l (Nat.le_refl _) (by rw [List.take_length]; exact hl)).1 j hj
  have hwl : widL ts = l := by have := (widL_ok h).1; rw [hl] at this; cases this; rfl
  have hsh := shaped_facts (okS_at hS hj)
  generalize ts.getD j default = x at *
  have hp := pw_pos x.width
  unfold vNode
  by_cases o0 : x.op = 0
  · rw [if_pos o0]
    have := hx.imm
    unfold immOk at this
    rw [if_pos o0] at this
    simp only [Bool.and_eq_true, fit, decide_eq_true_eq] at this
    exact ⟨hi.1, this.2⟩
  rw [if_neg o0]
  by_cases o33 : x.op = 33
  · rw [if_pos o33]
    have h1 := hinv o33
    have h4 := hsh.2.2.2.2.2.1 o33
    have h2 := he.2 x.imm.toNat (by omega)
    rw [hwl, h1] at h2
    have := hx.wid
    exact ⟨h2.1, h2.2.2 (by omega)⟩
  rw [if_neg o33]
  by_cases o14 : x.op = 14
  · rw [if_pos o14, hx.one o14]
    have : pw 1 = 2 := rfl
    rw [this]
    split <;> omega
  rw [if_neg o14]
  by_cases o15 : x.op = 15
  · rw [if_pos o15]
    have hlen : x.args.length = 3 := by have := hx.len; rw [o15] at this; have h3 : arV 15 = 3 := rfl; omega
    obtain ⟨t0, t1, t2⟩ := typed_sel hx.typ o15
    have w0 := vArg_word hx hw (i := 0) (by omega)
    rw [t0] at w0
    have hp1 : pw 1 = 2 := rfl
    rw [hp1] at w0
    have hk : (2 - vArg acc x 0).toNat = 1 ∨ (2 - vArg acc x 0).toNat = 2 := by omega
    rcases hk with hk | hk
    · rw [hk]; have := vArg_word hx hw (i := 1) (by omega); rw [t1] at this; exact this
    · rw [hk]; have := vArg_word hx hw (i := 2) (by omega); rw [t2] at this; exact this
  rw [if_neg o15]
  by_cases o16 : 16 ≤ x.op
  · rw [if_pos o16]; exact exX_word hx.wid.1
  · rw [if_neg o16]
    have hlen : x.args.length = 2 := by have := hx.len; have := hx.ar; rcases arV_cases x.op with h | h | h | h | h <;> omega
    exact toX_word (vArg_word hx hw (by omega)).1 (vArg_word hx hw (by omega)).1 hx.wid.1
theorem words_snoc {ts : List Nd} {acc : List Int} {j : Nat} {v : Int} (hl : acc.length = j) (hw : WordsTo ts acc j) (h0 : 0 ≤ v) (h1 : v < pw (ts.getD j default).width) : WordsTo ts (acc ++ [v]) (j + 1) := by
  intro a ha
  by_cases e : a = j
  · subst e
    rw [List.getD_eq_getElem?_getD, List.getElem?_append_right (by omega), hl, Nat.sub_self]
    exact ⟨h0, h1⟩
  · rw [getD_append_lt (by omega)]
    exact hw a (by omega)
theorem vals_words {ts : List Nd} {env : List Int} (h : valE ts = 0) (hI : ∀ x ∈ ts, 0 ≤ x.imm ∧ x.imm ≤ 4294967295) (he : EnvOk ts env) : ∀ j, j ≤ ts.length → WordsTo ts (valsF ts env (ts.take j)) j
  | 0, _, a, ha => absurd ha (by omega)
  | j + 1, hj, a, ha => by
    have ih := vals_words h hI he j (by omega)
    have := vNode_word h hI he (show j < ts.length by omega) ih
    rw [vals_snoc ts env j (by omega)]
    exact words_snoc (valsF_take_len (by omega)) ih this.1 this.2 a ha

set_option maxRecDepth 100000 in
theorem varg1 (i : Nat) (args : List Int) (m n c : Nat) (y : Int) (bo bx B : Nat) (av : Value) (w : World) (ht : w.cell? ⟨bo, 0, none⟩ = some (.slice (some ⟨B, 0, none⟩) n c)) (hx : w.cell? ⟨bx, 3, none⟩ = some av) (ha : Ints .i64 w av args) (hi : i < args.length) (hm : args.getD i 0 = m) (h1 : m < n) (hn : n ≤ 140737488351232) (hc : w.cell? ⟨B, m, none⟩ = some (.int .u32 y)) : Calls Try.prog 81 #[.int .i64 i, .pointer (some ⟨bo, 0, none⟩), .pointer (some ⟨bx, 0, none⟩)] w fun e w' => e = .returned (.int .u32 y) ∧ Dr w w' := by
  obtain ⟨b1, o1, c1, rfl, l1, hb1, hc1⟩ := ha.at hi
  have hl := ha.shape.choose_spec.choose_spec.2.2
  rw [hm] at hc1
  have q1 : (i : Int) < args.length := by omega
  have q2 : (m : Int) < n := by omega
  clear ha hm
  go_enter Try.func81, Try.ntmps81
  go_wp2_with fail
  go_quiet (fail)
  go_wp2_with fail
  go_ret
  exact ⟨rfl, _, rfl⟩

theorem varg_0 (args : List Int) (m n c : Nat) (y : Int) (bo bx B : Nat) (av : Value) (w : World) (ht : w.cell? ⟨bo, 0, none⟩ = some (.slice (some ⟨B, 0, none⟩) n c)) (hx : w.cell? ⟨bx, 3, none⟩ = some av) (ha : Ints .i64 w av args) (hi : 0 < args.length) (hm : args.getD 0 0 = m) (h1 : m < n) (hn : n ≤ 140737488351232) (hc : w.cell? ⟨B, m, none⟩ = some (.int .u32 y)) : Calls Try.prog 81 #[.int .i64 0, .pointer (some ⟨bo, 0, none⟩), .pointer (some ⟨bx, 0, none⟩)] w fun e w' => e = .returned (.int .u32 y) ∧ Dr w w' := varg1 0 args m n c y bo bx B av w ht hx ha hi hm h1 hn hc
theorem varg_1 (args : List Int) (m n c : Nat) (y : Int) (bo bx B : Nat) (av : Value) (w : World) (ht : w.cell? ⟨bo, 0, none⟩ = some (.slice (some ⟨B, 0, none⟩) n c)) (hx : w.cell? ⟨bx, 3, none⟩ = some av) (ha : Ints .i64 w av args) (hi : 1 < args.length) (hm : args.getD 1 0 = m) (h1 : m < n) (hn : n ≤ 140737488351232) (hc : w.cell? ⟨B, m, none⟩ = some (.int .u32 y)) : Calls Try.prog 81 #[.int .i64 1, .pointer (some ⟨bo, 0, none⟩), .pointer (some ⟨bx, 0, none⟩)] w fun e w' => e = .returned (.int .u32 y) ∧ Dr w w' := varg1 1 args m n c y bo bx B av w ht hx ha hi hm h1 hn hc
theorem varg_2 (args : List Int) (m n c : Nat) (y : Int) (bo bx B : Nat) (av : Value) (w : World) (ht : w.cell? ⟨bo, 0, none⟩ = some (.slice (some ⟨B, 0, none⟩) n c)) (hx : w.cell? ⟨bx, 3, none⟩ = some av) (ha : Ints .i64 w av args) (hi : 2 < args.length) (hm : args.getD 2 0 = m) (h1 : m < n) (hn : n ≤ 140737488351232) (hc : w.cell? ⟨B, m, none⟩ = some (.int .u32 y)) : Calls Try.prog 81 #[.int .i64 2, .pointer (some ⟨bo, 0, none⟩), .pointer (some ⟨bx, 0, none⟩)] w fun e w' => e = .returned (.int .u32 y) ∧ Dr w w' := varg1 2 args m n c y bo bx B av w ht hx ha hi hm h1 hn hc
end Go.Proofs.Ythopdfikikdcbaa
