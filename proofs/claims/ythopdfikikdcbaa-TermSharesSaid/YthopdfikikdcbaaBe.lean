/- Walks of package bits: the table of operations, and its functions. -/
import Derived.Test.YthopdfikikdcbaaBd
import Derived.Test.YthopdfikikdcbaaMem
import Derived.Deep.RegionWith
namespace Go.Proofs.Ythopdfikikdcbaa
open Go.RowKit Wd

theorem wraps_any (f g : Nat) (w : World) : Calls Try.prog 134 #[.func (.func f) #[] #[], .func (.func g) #[] #[]] w fun e w' => e = .returned (.agg #[.func (.func 162) #[] #[.pointer (some ⟨w.heap.size, 0, none⟩)], .func (.func f) #[] #[], .nilFunc]) ∧ w' = (w.alloc (.cells #[.func (.func g) #[] #[]] 169)).alloc (.cells #[.func (.func 162) #[] #[.pointer (some ⟨w.heap.size, 0, none⟩)], .func (.func f) #[] #[], .nilFunc] 144) := by
  go_enter Try.func134, Try.ntmps134
  go_wp2
  exact bodyPost_ret (v := .agg #[.func (.func 162) #[] #[.pointer (some ⟨w.heap.size, 0, none⟩)], .func (.func f) #[] #[], .nilFunc]) (by simp [results, Try.results134, go_sem]) rfl ⟨rfl, rfl⟩
theorem plain_any (g : Nat) (w : World) : Calls Try.prog 149 #[.func (.func g) #[] #[]] w fun e w' => e = .returned (.agg #[.func (.func 163) #[] #[.pointer (some ⟨w.heap.size, 0, none⟩)], .nilFunc, .nilFunc]) ∧ w' = (w.alloc (.cells #[.func (.func g) #[] #[]] 169)).alloc (.cells #[.func (.func 163) #[] #[.pointer (some ⟨w.heap.size, 0, none⟩)], .nilFunc, .nilFunc] 144) := by
  go_enter Try.func149, Try.ntmps149
  go_wp2
  exact bodyPost_ret (v := .agg #[.func (.func 163) #[] #[.pointer (some ⟨w.heap.size, 0, none⟩)], .nilFunc, .nilFunc]) (by simp [results, Try.results149, go_sem]) rfl ⟨rfl, rfl⟩

/-- The entries of the table of operations; h: a block number. -/
def opEntries (h : Nat) : Array MapEntry := #[⟨.int .i64 1, .agg #[.func (.func 162) #[] #[.pointer (some ⟨h + 1, 0, none⟩)], .func (.func 135) #[] #[], .nilFunc], 0⟩,
  ⟨.int .i64 2, .agg #[.func (.func 162) #[] #[.pointer (some ⟨h + 3, 0, none⟩)], .func (.func 137) #[] #[], .nilFunc], 1⟩,
  ⟨.int .i64 3, .agg #[.func (.func 162) #[] #[.pointer (some ⟨h + 5, 0, none⟩)], .func (.func 139) #[] #[], .nilFunc], 2⟩,
  ⟨.int .i64 4, .agg #[.func (.func 142) #[] #[], .nilFunc, .func (.func 143) #[] #[]], 3⟩,
  ⟨.int .i64 5, .agg #[.func (.func 144) #[] #[], .nilFunc, .nilFunc], 4⟩,
  ⟨.int .i64 6, .agg #[.func (.func 145) #[] #[], .nilFunc, .func (.func 147) #[] #[]], 5⟩,
  ⟨.int .i64 7, .agg #[.func (.func 148) #[] #[], .nilFunc, .nilFunc], 6⟩,
  ⟨.int .i64 8, .agg #[.func (.func 163) #[] #[.pointer (some ⟨h + 7, 0, none⟩)], .nilFunc, .nilFunc], 7⟩,
  ⟨.int .i64 9, .agg #[.func (.func 163) #[] #[.pointer (some ⟨h + 9, 0, none⟩)], .nilFunc, .nilFunc], 8⟩,
  ⟨.int .i64 10, .agg #[.func (.func 163) #[] #[.pointer (some ⟨h + 11, 0, none⟩)], .nilFunc, .nilFunc], 9⟩,
  ⟨.int .i64 11, .agg #[.func (.func 153) #[] #[], .func (.func 154) #[] #[], .nilFunc], 10⟩,
  ⟨.int .i64 12, .agg #[.func (.func 155) #[] #[], .nilFunc, .func (.func 156) #[] #[]], 11⟩,
  ⟨.int .i64 13, .agg #[.func (.func 157) #[] #[], .nilFunc, .func (.func 159) #[] #[]], 12⟩]
/-- The functions that the table has captured lie behind block h. -/
def Boxes (B h : Nat) (w : World) : Prop := B ≤ h ∧ h + 11 < w.heap.size ∧ w.cell? ⟨h + 1, 0, none⟩ = some (.func (.func 136) #[] #[]) ∧ w.cell? ⟨h + 3, 0, none⟩ = some (.func (.func 138) #[] #[]) ∧ w.cell? ⟨h + 5, 0, none⟩ = some (.func (.func 141) #[] #[]) ∧ w.cell? ⟨h + 7, 0, none⟩ = some (.func (.func 150) #[] #[]) ∧ w.cell? ⟨h + 9, 0, none⟩ = some (.func (.func 151) #[] #[]) ∧ w.cell? ⟨h + 11, 0, none⟩ = some (.func (.func 152) #[] #[])
/-- The table of operations lies in block r, and the functions that it has captured behind block h. -/
def Ops (B r h : Nat) (w : World) : Prop := mapAt w r = some (opEntries h, 13) ∧ B ≤ r ∧ r < w.heap.size ∧ B ≤ h ∧ h + 11 < w.heap.size ∧ w.cell? ⟨h + 1, 0, none⟩ = some (.func (.func 136) #[] #[]) ∧ w.cell? ⟨h + 3, 0, none⟩ = some (.func (.func 138) #[] #[]) ∧ w.cell? ⟨h + 5, 0, none⟩ = some (.func (.func 141) #[] #[]) ∧ w.cell? ⟨h + 7, 0, none⟩ = some (.func (.func 150) #[] #[]) ∧ w.cell? ⟨h + 9, 0, none⟩ = some (.func (.func 151) #[] #[]) ∧ w.cell? ⟨h + 11, 0, none⟩ = some (.func (.func 152) #[] #[])
set_option maxHeartbeats 1000000 in
theorem operations_any (w : World) : Calls Try.prog 127 #[] w fun e w' => ∃ r h, e = .returned (.map (some r)) ∧ Ops w.heap.size r h w' ∧ Below w.heap.size w w' := by
  have hmm := @run_makeMap Try.prog
  have hins := run_insert_int Try.prog 160 3 144 .i64 Try.underlying160 Try.underlying3
  go_enter Try.func127, Try.ntmps127
  go_wp2_with (first | (go_at_call 134; refine (wraps_any _ _ _).mono ?_; rintro e w' ⟨rfl, rfl⟩) | (go_at_call 149; refine (plain_any _ _).mono ?_; rintro e w' ⟨rfl, rfl⟩))
  go_ret
  refine ⟨w.heap.size, w.heap.size, rfl, ⟨?_, Nat.le_refl _, ?_, Nat.le_refl _, ?_, ?_, ?_, ?_, ?_, ?_, ?_⟩, ?_⟩
  · simp [go_sem, opEntries]
  · simp; omega
  · simp
  · simp [go_sem]
  · simp [go_sem]
  · simp [go_sem]
  · simp [go_sem]
  · simp [go_sem]
  · simp [go_sem]
  · repeat (first | exact Below.refl _ _ | refine Below.alloc ?_ (by simp; try omega) _)

set_option maxHeartbeats 2000000 in
theorem asked_w (op n a b : Int) (i fd fw : Nat) (cd : Nat → Array Value) (w : World) (hf : ∀ h, Instr.findNow (.int .i64) (.int .i64 op) (opEntries h).toList 0 = some (some (i, .agg #[.func (.func fd) #[] (cd h), .func (.func fw) #[] #[], .nilFunc]))) : Calls Try.prog 106 #[.int .i64 op, .int .i64 n, .int .u32 a, .int .u32 b] w fun e w' => ∃ h, e = .returned (.tuple #[.agg #[.func (.func fd) #[] (cd h), .func (.func fw) #[] #[], .nilFunc], .bool (isW n && fit n a && fit n b)]) ∧ Boxes w.heap.size h w' ∧ Below w.heap.size w w' := by
  have hlk := run_lookup_int Try.prog 160 3 144 .i64 (.agg #[.nilFunc, .nilFunc, .nilFunc]) Try.underlying160 Try.underlying3 (fun w => by kernel_rfl)
  go_enter Try.func106, Try.ntmps106
  go_wp2_with (first | (go_at_call 127; refine (operations_any _).mono ?_; rintro e w1 ⟨r, h, rfl, ⟨m0, m1, m2, m3, m4, c1, c2, c3, c8, c9, c10⟩, hb1⟩))
  have hc := bcell hb1
  have z0 : w1.cell? ⟨w.heap.size, 0, none⟩ = some .nilFunc := by rw [hc.1 _ _ (by simp)]; simp [go_sem]
  have z1 : w1.cell? ⟨w.heap.size, 1, none⟩ = some .nilFunc := by rw [hc.1 _ _ (by simp)]; simp [go_sem]
  have z2 : w1.cell? ⟨w.heap.size, 2, none⟩ = some .nilFunc := by rw [hc.1 _ _ (by simp)]; simp [go_sem]
  have f0 : w1.frozen? ⟨w.heap.size, 0, none⟩ = false := by rw [hc.2 _ _ (by simp)]; simp [go_sem]
  have f1 : w1.frozen? ⟨w.heap.size, 1, none⟩ = false := by rw [hc.2 _ _ (by simp)]; simp [go_sem]
  have f2 : w1.frozen? ⟨w.heap.size, 2, none⟩ = false := by rw [hc.2 _ _ (by simp)]; simp [go_sem]
  have hz : w.heap.size < w1.heap.size := by have := hb1.size; simp at this; omega
  have hh : w.heap.size < h := by simp at m3; omega
  have HB : Hid (Below w.heap.size w w1) := ((Below.refl _ _).alloc (Nat.le_refl _) _).trans (hb1.mono (by simp))
  have C1 := Lib.hid c1
  have C2 := Lib.hid c2
  have C3 := Lib.hid c3
  have C8 := Lib.hid c8
  have C9 := Lib.hid c9
  have C10 := Lib.hid c10
  clear hlk hf m0 c1 c2 c3 c8 c9 c10 hc hb1 m1 m2 m3
  go_region_with (first | (go_at_call 104; refine (fits2 n a b _ _ (by simp [go_sem]) (by simp [go_sem])).mono ?_; rintro e w' ⟨rfl, rfl⟩))
  all_goals
    go_wp2
    refine bodyPost_ret (v := .tuple #[.agg #[.func (.func fd) #[] (cd h), .func (.func fw) #[] #[], .nilFunc], .bool (isW n && fit n a && fit n b)]) (by simp [results, Try.results106, go_sem, z0, z1, z2, hz]) rfl ⟨h, rfl, ⟨by omega, by simp; omega, ?_, ?_, ?_, ?_, ?_, ?_⟩, ?_⟩
    · exact (Only.cell (w := w1) (b := w.heap.size) (by repeat (first | with_reducible exact Only.refl _ _ | with_reducible refine Only.drew ?_ | with_reducible refine Only.alloc ?_ _ | with_reducible refine Only.at ?_ _ _)) (by omega) (by omega)).trans C1.out
    · exact (Only.cell (w := w1) (b := w.heap.size) (by repeat (first | with_reducible exact Only.refl _ _ | with_reducible refine Only.drew ?_ | with_reducible refine Only.alloc ?_ _ | with_reducible refine Only.at ?_ _ _)) (by omega) (by omega)).trans C2.out
    · exact (Only.cell (w := w1) (b := w.heap.size) (by repeat (first | with_reducible exact Only.refl _ _ | with_reducible refine Only.drew ?_ | with_reducible refine Only.alloc ?_ _ | with_reducible refine Only.at ?_ _ _)) (by omega) (by omega)).trans C3.out
    · exact (Only.cell (w := w1) (b := w.heap.size) (by repeat (first | with_reducible exact Only.refl _ _ | with_reducible refine Only.drew ?_ | with_reducible refine Only.alloc ?_ _ | with_reducible refine Only.at ?_ _ _)) (by omega) (by omega)).trans C8.out
    · exact (Only.cell (w := w1) (b := w.heap.size) (by repeat (first | with_reducible exact Only.refl _ _ | with_reducible refine Only.drew ?_ | with_reducible refine Only.alloc ?_ _ | with_reducible refine Only.at ?_ _ _)) (by omega) (by omega)).trans C9.out
    · exact (Only.cell (w := w1) (b := w.heap.size) (by repeat (first | with_reducible exact Only.refl _ _ | with_reducible refine Only.drew ?_ | with_reducible refine Only.alloc ?_ _ | with_reducible refine Only.at ?_ _ _)) (by omega) (by omega)).trans C10.out
    · exact HB.out.trans (by repeat (first | with_reducible exact Below.refl _ _ | with_reducible refine Below.drew ?_ | with_reducible refine Below.alloc ?_ (by simp; try omega) _ | with_reducible refine below_at ?_ (Nat.le_refl _) _ _))

set_option maxHeartbeats 2000000 in
theorem asked_l (op n a b : Int) (i fd fl : Nat) (cd : Nat → Array Value) (w : World) (hf : ∀ h, Instr.findNow (.int .i64) (.int .i64 op) (opEntries h).toList 0 = some (some (i, .agg #[.func (.func fd) #[] (cd h), .nilFunc, .func (.func fl) #[] #[]]))) : Calls Try.prog 106 #[.int .i64 op, .int .i64 n, .int .u32 a, .int .u32 b] w fun e w' => ∃ h, e = .returned (.tuple #[.agg #[.func (.func fd) #[] (cd h), .nilFunc, .func (.func fl) #[] #[]], .bool (isW n && fit n a && fit n b)]) ∧ Boxes w.heap.size h w' ∧ Below w.heap.size w w' := by
  have hlk := run_lookup_int Try.prog 160 3 144 .i64 (.agg #[.nilFunc, .nilFunc, .nilFunc]) Try.underlying160 Try.underlying3 (fun w => by kernel_rfl)
  go_enter Try.func106, Try.ntmps106
  go_wp2_with (first | (go_at_call 127; refine (operations_any _).mono ?_; rintro e w1 ⟨r, h, rfl, ⟨m0, m1, m2, m3, m4, c1, c2, c3, c8, c9, c10⟩, hb1⟩))
  have hc := bcell hb1
  have z0 : w1.cell? ⟨w.heap.size, 0, none⟩ = some .nilFunc := by rw [hc.1 _ _ (by simp)]; simp [go_sem]
  have z1 : w1.cell? ⟨w.heap.size, 1, none⟩ = some .nilFunc := by rw [hc.1 _ _ (by simp)]; simp [go_sem]
  have z2 : w1.cell? ⟨w.heap.size, 2, none⟩ = some .nilFunc := by rw [hc.1 _ _ (by simp)]; simp [go_sem]
  have f0 : w1.frozen? ⟨w.heap.size, 0, none⟩ = false := by rw [hc.2 _ _ (by simp)]; simp [go_sem]
  have f1 : w1.frozen? ⟨w.heap.size, 1, none⟩ = false := by rw [hc.2 _ _ (by simp)]; simp [go_sem]
  have f2 : w1.frozen? ⟨w.heap.size, 2, none⟩ = false := by rw [hc.2 _ _ (by simp)]; simp [go_sem]
  have hz : w.heap.size < w1.heap.size := by have := hb1.size; simp at this; omega
  have hh : w.heap.size < h := by simp at m3; omega
  have HB : Hid (Below w.heap.size w w1) := ((Below.refl _ _).alloc (Nat.le_refl _) _).trans (hb1.mono (by simp))
  have C1 := Lib.hid c1
  have C2 := Lib.hid c2
  have C3 := Lib.hid c3
  have C8 := Lib.hid c8
  have C9 := Lib.hid c9
  have C10 := Lib.hid c10
  clear hlk hf m0 c1 c2 c3 c8 c9 c10 hc hb1 m1 m2 m3
  go_region_with (first | (go_at_call 104; refine (fits2 n a b _ _ (by simp [go_sem]) (by simp [go_sem])).mono ?_; rintro e w' ⟨rfl, rfl⟩))
  all_goals
    go_wp2
    refine bodyPost_ret (v := .tuple #[.agg #[.func (.func fd) #[] (cd h), .nilFunc, .func (.func fl) #[] #[]], .bool (isW n && fit n a && fit n b)]) (by simp [results, Try.results106, go_sem, z0, z1, z2, hz]) rfl ⟨h, rfl, ⟨by omega, by simp; omega, ?_, ?_, ?_, ?_, ?_, ?_⟩, ?_⟩
    · exact (Only.cell (w := w1) (b := w.heap.size) (by repeat (first | with_reducible exact Only.refl _ _ | with_reducible refine Only.drew ?_ | with_reducible refine Only.alloc ?_ _ | with_reducible refine Only.at ?_ _ _)) (by omega) (by omega)).trans C1.out
    · exact (Only.cell (w := w1) (b := w.heap.size) (by repeat (first | with_reducible exact Only.refl _ _ | with_reducible refine Only.drew ?_ | with_reducible refine Only.alloc ?_ _ | with_reducible refine Only.at ?_ _ _)) (by omega) (by omega)).trans C2.out
    · exact (Only.cell (w := w1) (b := w.heap.size) (by repeat (first | with_reducible exact Only.refl _ _ | with_reducible refine Only.drew ?_ | with_reducible refine Only.alloc ?_ _ | with_reducible refine Only.at ?_ _ _)) (by omega) (by omega)).trans C3.out
    · exact (Only.cell (w := w1) (b := w.heap.size) (by repeat (first | with_reducible exact Only.refl _ _ | with_reducible refine Only.drew ?_ | with_reducible refine Only.alloc ?_ _ | with_reducible refine Only.at ?_ _ _)) (by omega) (by omega)).trans C8.out
    · exact (Only.cell (w := w1) (b := w.heap.size) (by repeat (first | with_reducible exact Only.refl _ _ | with_reducible refine Only.drew ?_ | with_reducible refine Only.alloc ?_ _ | with_reducible refine Only.at ?_ _ _)) (by omega) (by omega)).trans C9.out
    · exact (Only.cell (w := w1) (b := w.heap.size) (by repeat (first | with_reducible exact Only.refl _ _ | with_reducible refine Only.drew ?_ | with_reducible refine Only.alloc ?_ _ | with_reducible refine Only.at ?_ _ _)) (by omega) (by omega)).trans C10.out
    · exact HB.out.trans (by repeat (first | with_reducible exact Below.refl _ _ | with_reducible refine Below.drew ?_ | with_reducible refine Below.alloc ?_ (by simp; try omega) _ | with_reducible refine below_at ?_ (Nat.le_refl _) _ _))

set_option maxHeartbeats 2000000 in
theorem asked_n (op n a b : Int) (i fd : Nat) (cd : Nat → Array Value) (w : World) (hf : ∀ h, Instr.findNow (.int .i64) (.int .i64 op) (opEntries h).toList 0 = some (some (i, .agg #[.func (.func fd) #[] (cd h), .nilFunc, .nilFunc]))) : Calls Try.prog 106 #[.int .i64 op, .int .i64 n, .int .u32 a, .int .u32 b] w fun e w' => ∃ h, e = .returned (.tuple #[.agg #[.func (.func fd) #[] (cd h), .nilFunc, .nilFunc], .bool (isW n && fit n a && fit n b)]) ∧ Boxes w.heap.size h w' ∧ Below w.heap.size w w' := by
  have hlk := run_lookup_int Try.prog 160 3 144 .i64 (.agg #[.nilFunc, .nilFunc, .nilFunc]) Try.underlying160 Try.underlying3 (fun w => by kernel_rfl)
  go_enter Try.func106, Try.ntmps106
  go_wp2_with (first | (go_at_call 127; refine (operations_any _).mono ?_; rintro e w1 ⟨r, h, rfl, ⟨m0, m1, m2, m3, m4, c1, c2, c3, c8, c9, c10⟩, hb1⟩))
  have hc := bcell hb1
  have z0 : w1.cell? ⟨w.heap.size, 0, none⟩ = some .nilFunc := by rw [hc.1 _ _ (by simp)]; simp [go_sem]
  have z1 : w1.cell? ⟨w.heap.size, 1, none⟩ = some .nilFunc := by rw [hc.1 _ _ (by simp)]; simp [go_sem]
  have z2 : w1.cell? ⟨w.heap.size, 2, none⟩ = some .nilFunc := by rw [hc.1 _ _ (by simp)]; simp [go_sem]
  have f0 : w1.frozen? ⟨w.heap.size, 0, none⟩ = false := by rw [hc.2 _ _ (by simp)]; simp [go_sem]
  have f1 : w1.frozen? ⟨w.heap.size, 1, none⟩ = false := by rw [hc.2 _ _ (by simp)]; simp [go_sem]
  have f2 : w1.frozen? ⟨w.heap.size, 2, none⟩ = false := by rw [hc.2 _ _ (by simp)]; simp [go_sem]
  have hz : w.heap.size < w1.heap.size := by have := hb1.size; simp at this; omega
  have hh : w.heap.size < h := by simp at m3; omega
  have HB : Hid (Below w.heap.size w w1) := ((Below.refl _ _).alloc (Nat.le_refl _) _).trans (hb1.mono (by simp))
  have C1 := Lib.hid c1
  have C2 := Lib.hid c2
  have C3 := Lib.hid c3
  have C8 := Lib.hid c8
  have C9 := Lib.hid c9
  have C10 := Lib.hid c10
  clear hlk hf m0 c1 c2 c3 c8 c9 c10 hc hb1 m1 m2 m3
  go_region_with (first | (go_at_call 104; refine (fits2 n a b _ _ (by simp [go_sem]) (by simp [go_sem])).mono ?_; rintro e w' ⟨rfl, rfl⟩))
  all_goals
    go_wp2
    refine bodyPost_ret (v := .tuple #[.agg #[.func (.func fd) #[] (cd h), .nilFunc, .nilFunc], .bool (isW n && fit n a && fit n b)]) (by simp [results, Try.results106, go_sem, z0, z1, z2, hz]) rfl ⟨h, rfl, ⟨by omega, by simp; omega, ?_, ?_, ?_, ?_, ?_, ?_⟩, ?_⟩
    · exact (Only.cell (w := w1) (b := w.heap.size) (by repeat (first | with_reducible exact Only.refl _ _ | with_reducible refine Only.drew ?_ | with_reducible refine Only.alloc ?_ _ | with_reducible refine Only.at ?_ _ _)) (by omega) (by omega)).trans C1.out
    · exact (Only.cell (w := w1) (b := w.heap.size) (by repeat (first | with_reducible exact Only.refl _ _ | with_reducible refine Only.drew ?_ | with_reducible refine Only.alloc ?_ _ | with_reducible refine Only.at ?_ _ _)) (by omega) (by omega)).trans C2.out
    · exact (Only.cell (w := w1) (b := w.heap.size) (by repeat (first | with_reducible exact Only.refl _ _ | with_reducible refine Only.drew ?_ | with_reducible refine Only.alloc ?_ _ | with_reducible refine Only.at ?_ _ _)) (by omega) (by omega)).trans C3.out
    · exact (Only.cell (w := w1) (b := w.heap.size) (by repeat (first | with_reducible exact Only.refl _ _ | with_reducible refine Only.drew ?_ | with_reducible refine Only.alloc ?_ _ | with_reducible refine Only.at ?_ _ _)) (by omega) (by omega)).trans C8.out
    · exact (Only.cell (w := w1) (b := w.heap.size) (by repeat (first | with_reducible exact Only.refl _ _ | with_reducible refine Only.drew ?_ | with_reducible refine Only.alloc ?_ _ | with_reducible refine Only.at ?_ _ _)) (by omega) (by omega)).trans C9.out
    · exact (Only.cell (w := w1) (b := w.heap.size) (by repeat (first | with_reducible exact Only.refl _ _ | with_reducible refine Only.drew ?_ | with_reducible refine Only.alloc ?_ _ | with_reducible refine Only.at ?_ _ _)) (by omega) (by omega)).trans C10.out
    · exact HB.out.trans (by repeat (first | with_reducible exact Below.refl _ _ | with_reducible refine Below.drew ?_ | with_reducible refine Below.alloc ?_ (by simp; try omega) _ | with_reducible refine below_at ?_ (Nat.le_refl _) _ _))

set_option maxHeartbeats 2000000 in
theorem asked_none (op n a b : Int) (w : World) (hf : ∀ h, Instr.findNow (.int .i64) (.int .i64 op) (opEntries h).toList 0 = some none) : Calls Try.prog 106 #[.int .i64 op, .int .i64 n, .int .u32 a, .int .u32 b] w fun e w' => e = .returned (.tuple #[.agg #[.nilFunc, .nilFunc, .nilFunc], .bool false]) ∧ Below w.heap.size w w' := by
  have hlk := run_lookup_int Try.prog 160 3 144 .i64 (.agg #[.nilFunc, .nilFunc, .nilFunc]) Try.underlying160 Try.underlying3 (fun w => by kernel_rfl)
  go_enter Try.func106, Try.ntmps106
  go_wp2_with (first | (go_at_call 127; refine (operations_any _).mono ?_; rintro e w1 ⟨r, h, rfl, ⟨m0, m1, m2, m3, m4, c1, c2, c3, c8, c9, c10⟩, hb1⟩))
  have hc := bcell hb1
  have z0 : w1.cell? ⟨w.heap.size, 0, none⟩ = some .nilFunc := by rw [hc.1 _ _ (by simp)]; simp [go_sem]
  have z1 : w1.cell? ⟨w.heap.size, 1, none⟩ = some .nilFunc := by rw [hc.1 _ _ (by simp)]; simp [go_sem]
  have z2 : w1.cell? ⟨w.heap.size, 2, none⟩ = some .nilFunc := by rw [hc.1 _ _ (by simp)]; simp [go_sem]
  have f0 : w1.frozen? ⟨w.heap.size, 0, none⟩ = false := by rw [hc.2 _ _ (by simp)]; simp [go_sem]
  have f1 : w1.frozen? ⟨w.heap.size, 1, none⟩ = false := by rw [hc.2 _ _ (by simp)]; simp [go_sem]
  have f2 : w1.frozen? ⟨w.heap.size, 2, none⟩ = false := by rw [hc.2 _ _ (by simp)]; simp [go_sem]
  have hz : w.heap.size < w1.heap.size := by have := hb1.size; simp at this; omega
  have hh : w.heap.size < h := by simp at m3; omega
  have HB : Hid (Below w.heap.size w w1) := ((Below.refl _ _).alloc (Nat.le_refl _) _).trans (hb1.mono (by simp))
  have C1 := Lib.hid c1
  have C2 := Lib.hid c2
  have C3 := Lib.hid c3
  have C8 := Lib.hid c8
  have C9 := Lib.hid c9
  have C10 := Lib.hid c10
  clear hlk hf m0 c1 c2 c3 c8 c9 c10 hc hb1 m1 m2 m3
  clear C1 C2 C3 C8 C9 C10 hh m4
  go_region
  all_goals
    go_wp2
    refine bodyPost_ret (v := .tuple #[.agg #[.nilFunc, .nilFunc, .nilFunc], .bool false]) (by simp [results, Try.results106, go_sem, z0, z1, z2, hz]) rfl ⟨rfl, ?_⟩
    exact HB.out.trans (by repeat (first | with_reducible exact Below.refl _ _ | with_reducible refine Below.drew ?_ | with_reducible refine Below.alloc ?_ (by simp; try omega) _ | with_reducible refine below_at ?_ (Nat.le_refl _) _ _))

end Go.Proofs.Ythopdfikikdcbaa
