/- Walks of package bits: the table of operations, and its functions. -/
import Derived.Test.YtpgbepgbgpjmcaaDoorBd
import Derived.Test.YtpgbepgbgpjmcaaDoorMem
import Derived.Deep.RegionWith
namespace Go.Proofs.YtpgbepgbgpjmcaaDoor
open Go.RowKit Wd

theorem wraps_any (f g : Nat) (w : World) : Calls Tryd.prog 33 #[.func (.func f) #[] #[], .func (.func g) #[] #[]] w fun e w' => e = .returned (.agg #[.func (.func 59) #[] #[.pointer (some ⟨w.heap.size, 0, none⟩)], .func (.func f) #[] #[], .nilFunc]) ∧ w' = (w.alloc (.cells #[.func (.func g) #[] #[]] 66)).alloc (.cells #[.func (.func 59) #[] #[.pointer (some ⟨w.heap.size, 0, none⟩)], .func (.func f) #[] #[], .nilFunc] 53) := by
  go_enter Tryd.func33, Tryd.ntmps33
  go_wp2
  exact bodyPost_ret (v := .agg #[.func (.func 59) #[] #[.pointer (some ⟨w.heap.size, 0, none⟩)], .func (.func f) #[] #[], .nilFunc]) (by simp [results, Tryd.results33, go_sem]) rfl ⟨rfl, rfl⟩
theorem plain_any (g : Nat) (w : World) : Calls Tryd.prog 48 #[.func (.func g) #[] #[]] w fun e w' => e = .returned (.agg #[.func (.func 60) #[] #[.pointer (some ⟨w.heap.size, 0, none⟩)], .nilFunc, .nilFunc]) ∧ w' = (w.alloc (.cells #[.func (.func g) #[] #[]] 66)).alloc (.cells #[.func (.func 60) #[] #[.pointer (some ⟨w.heap.size, 0, none⟩)], .nilFunc, .nilFunc] 53) := by
  go_enter Tryd.func48, Tryd.ntmps48
  go_wp2
  exact bodyPost_ret (v := .agg #[.func (.func 60) #[] #[.pointer (some ⟨w.heap.size, 0, none⟩)], .nilFunc, .nilFunc]) (by simp [results, Tryd.results48, go_sem]) rfl ⟨rfl, rfl⟩

/-- The entries of the table of operations; h: a block number. -/
def opEntries (h : Nat) : Array MapEntry := #[⟨.int .i64 1, .agg #[.func (.func 59) #[] #[.pointer (some ⟨h + 1, 0, none⟩)], .func (.func 34) #[] #[], .nilFunc], 0⟩,
  ⟨.int .i64 2, .agg #[.func (.func 59) #[] #[.pointer (some ⟨h + 3, 0, none⟩)], .func (.func 36) #[] #[], .nilFunc], 1⟩,
  ⟨.int .i64 3, .agg #[.func (.func 59) #[] #[.pointer (some ⟨h + 5, 0, none⟩)], .func (.func 38) #[] #[], .nilFunc], 2⟩,
  ⟨.int .i64 4, .agg #[.func (.func 41) #[] #[], .nilFunc, .func (.func 42) #[] #[]], 3⟩,
  ⟨.int .i64 5, .agg #[.func (.func 43) #[] #[], .nilFunc, .nilFunc], 4⟩,
  ⟨.int .i64 6, .agg #[.func (.func 44) #[] #[], .nilFunc, .func (.func 46) #[] #[]], 5⟩,
  ⟨.int .i64 7, .agg #[.func (.func 47) #[] #[], .nilFunc, .nilFunc], 6⟩,
  ⟨.int .i64 8, .agg #[.func (.func 60) #[] #[.pointer (some ⟨h + 7, 0, none⟩)], .nilFunc, .nilFunc], 7⟩,
  ⟨.int .i64 9, .agg #[.func (.func 60) #[] #[.pointer (some ⟨h + 9, 0, none⟩)], .nilFunc, .nilFunc], 8⟩,
  ⟨.int .i64 10, .agg #[.func (.func 60) #[] #[.pointer (some ⟨h + 11, 0, none⟩)], .nilFunc, .nilFunc], 9⟩,
  ⟨.int .i64 11, .agg #[.func (.func 52) #[] #[], .func (.func 53) #[] #[], .nilFunc], 10⟩,
  ⟨.int .i64 12, .agg #[.func (.func 54) #[] #[], .nilFunc, .func (.func 55) #[] #[]], 11⟩,
  ⟨.int .i64 13, .agg #[.func (.func 56) #[] #[], .nilFunc, .func (.func 58) #[] #[]], 12⟩]
/-- The functions that the table has captured lie behind block h. -/
def Boxes (B h : Nat) (w : World) : Prop := B ≤ h ∧ h + 11 < w.heap.size ∧ w.cell? ⟨h + 1, 0, none⟩ = some (.func (.func 35) #[] #[]) ∧ w.cell? ⟨h + 3, 0, none⟩ = some (.func (.func 37) #[] #[]) ∧ w.cell? ⟨h + 5, 0, none⟩ = some (.func (.func 40) #[] #[]) ∧ w.cell? ⟨h + 7, 0, none⟩ = some (.func (.func 49) #[] #[]) ∧ w.cell? ⟨h + 9, 0, none⟩ = some (.func (.func 50) #[] #[]) ∧ w.cell? ⟨h + 11, 0, none⟩ = some (.func (.func 51) #[] #[])
/-- The table of operations lies in block r, and the functions that it has captured behind block h. -/
def Ops (B r h : Nat) (w : World) : Prop := mapAt w r = some (opEntries h, 13) ∧ B ≤ r ∧ r < w.heap.size ∧ B ≤ h ∧ h + 11 < w.heap.size ∧ w.cell? ⟨h + 1, 0, none⟩ = some (.func (.func 35) #[] #[]) ∧ w.cell? ⟨h + 3, 0, none⟩ = some (.func (.func 37) #[] #[]) ∧ w.cell? ⟨h + 5, 0, none⟩ = some (.func (.func 40) #[] #[]) ∧ w.cell? ⟨h + 7, 0, none⟩ = some (.func (.func 49) #[] #[]) ∧ w.cell? ⟨h + 9, 0, none⟩ = some (.func (.func 50) #[] #[]) ∧ w.cell? ⟨h + 11, 0, none⟩ = some (.func (.func 51) #[] #[])
set_option maxHeartbeats 1000000 in
theorem operations_any (w : World) : Calls Tryd.prog 31 #[] w fun e w' => ∃ r h, e = .returned (.map (some r)) ∧ Ops w.heap.size r h w' ∧ Below w.heap.size w w' := by
  have hmm := @run_makeMap Tryd.prog
  have hins := run_insert_int Tryd.prog 63 3 53 .i64 Tryd.underlying63 Tryd.underlying3
  go_enter Tryd.func31, Tryd.ntmps31
  go_wp2_with (first | (go_at_call 33; refine (wraps_any _ _ _).mono ?_; rintro e w' ⟨rfl, rfl⟩) | (go_at_call 48; refine (plain_any _ _).mono ?_; rintro e w' ⟨rfl, rfl⟩))
  go_ret
  refine ⟨w.heap.size, w.heap.size, rfl, ⟨?_, Nat.le_refl _, ?_, Nat.le_refl _, ?_, ?_, ?_, ?_, ?_, ?_, ?_⟩, ?_⟩
  · simp [go_sem, opEntries]
  · simp; omega
  · simp
  · simp [go_sem]
  · simp [go_sem]
  · simp [go_sem]
  · simp [go_sem]
  · simp [go_sem]
  · simp [go_sem]
  · repeat (first | exact Below.refl _ _ | refine Below.alloc ?_ (by simp; try omega) _)

set_option maxHeartbeats 2000000 in
theorem asked_w (op n a b : Int) (i fd fw : Nat) (cd : Nat → Array Value) (w : World) (hf : ∀ h, Instr.findNow (.int .i64) (.int .i64 op) (opEntries h).toList 0 = some (some (i, .agg #[.func (.func fd) #[] (cd h), .func (.func fw) #[] #[], .nilFunc]))) : Calls Tryd.prog 24 #[.int .i64 op, .int .i64 n, .int .u32 a, .int .u32 b] w fun e w' => ∃ h, e = .returned (.tuple #[.agg #[.func (.func fd) #[] (cd h), .func (.func fw) #[] #[], .nilFunc], .bool (isW n && fit n a && fit n b)]) ∧ Boxes w.heap.size h w' ∧ Below w.heap.size w w' := by
  have hlk := run_lookup_int Tryd.prog 63 3 53 .i64 (.agg #[.nilFunc, .nilFunc, .nilFunc]) Tryd.underlying63 Tryd.underlying3 (fun w => by kernel_rfl)
  go_enter Tryd.func24, Tryd.ntmps24
  go_wp2_with (first | (go_at_call 31; refine (operations_any _).mono ?_; rintro e w1 ⟨r, h, rfl, ⟨m0, m1, m2, m3, m4, c1, c2, c3, c8, c9, c10⟩, hb1⟩))
  have hc := bcell hb1
  have z0 : w1.cell? ⟨w.heap.size, 0, none⟩ = some .nilFunc := by rw [hc.1 _ _ (by simp)]; simp [go_sem]
  have z1 : w1.cell? ⟨w.heap.size, 1, none⟩ = some .nilFunc := by rw [hc.1 _ _ (by simp)]; simp [go_sem]
  have z2 : w1.cell? ⟨w.heap.size, 2, none⟩ = some .nilFunc := by rw [hc.1 _ _ (by simp)]; simp [go_sem]
  have f0 : w1.frozen? ⟨w.heap.size, 0, none⟩ = false := by rw [hc.2 _ _ (by simp)]; simp [go_sem]
  have f1 : w1.frozen? ⟨w.heap.size, 1, none⟩ = false := by rw [hc.2 _ _ (by simp)]; simp [go_sem]
  have f2 : w1.frozen? ⟨w.heap.size, 2, none⟩ = false := by rw [hc.2 _ _ (by simp)]; simp [go_sem]
  have hz : w.heap.size < w1.heap.size := by have := hb1.size; simp at this; omega
  have hh : w.heap.size < h := by simp at m3; omega
  have HB : Hid (Below w.heap.size w w1) := ((Below.refl _ _).alloc (Nat.le_refl _) _).trans (hb1.mono (by simp))
  have C1 := Lib.hid c1
  have C2 := Lib.hid c2
  have C3 := Lib.hid c3
  have C8 := Lib.hid c8
  have C9 := Lib.hid c9
  have C10 := Lib.hid c10
  clear hlk hf m0 c1 c2 c3 c8 c9 c10 hc hb1 m1 m2 m3
  go_region_with (first | (go_at_call 18; refine (fits2 n a b _ _ (by simp [go_sem]) (by simp [go_sem])).mono ?_; rintro e w' ⟨rfl, rfl⟩))
  all_goals
    go_wp2
    refine bodyPost_ret (v := .tuple #[.agg #[.func (.func fd) #[] (cd h), .func (.func fw) #[] #[], .nilFunc], .bool (isW n && fit n a && fit n b)]) (by simp [results, Tryd.results24, go_sem, z0, z1, z2, hz]) rfl ⟨h, rfl, ⟨by omega, by simp; omega, ?_, ?_, ?_, ?_, ?_, ?_⟩, ?_⟩
    · exact (Only.cell (w := w1) (b := w.heap.size) (by repeat (first | with_reducible exact Only.refl _ _ | with_reducible refine Only.drew ?_ | with_reducible refine Only.alloc ?_ _ | with_reducible refine Only.at ?_ _ _)) (by omega) (by omega)).trans C1.out
    · exact (Only.cell (w := w1) (b := w.heap.size) (by repeat (first | with_reducible exact Only.refl _ _ | with_reducible refine Only.drew ?_ | with_reducible refine Only.alloc ?_ _ | with_reducible refine Only.at ?_ _ _)) (by omega) (by omega)).trans C2.out
    · exact (Only.cell (w := w1) (b := w.heap.size) (by repeat (first | with_reducible exact Only.refl _ _ | with_reducible refine Only.drew ?_ | with_reducible refine Only.alloc ?_ _ | with_reducible refine Only.at ?_ _ _)) (by omega) (by omega)).trans C3.out
    · exact (Only.cell (w := w1) (b := w.heap.size) (by repeat (first | with_reducible exact Only.refl _ _ | with_reducible refine Only.drew ?_ | with_reducible refine Only.alloc ?_ _ | with_reducible refine Only.at ?_ _ _)) (by omega) (by omega)).trans C8.out
    · exact (Only.cell (w := w1) (b := w.heap.size) (by repeat (first | with_reducible exact Only.refl _ _ | with_reducible refine Only.drew ?_ | with_reducible refine Only.alloc ?_ _ | with_reducible refine Only.at ?_ _ _)) (by omega) (by omega)).trans C9.out
    · exact (Only.cell (w := w1) (b := w.heap.size) (by repeat (first | with_reducible exact Only.refl _ _ | with_reducible refine Only.drew ?_ | with_reducible refine Only.alloc ?_ _ | with_reducible refine Only.at ?_ _ _)) (by omega) (by omega)).trans C10.out
    · exact HB.out.trans (by repeat (first | with_reducible exact Below.refl _ _ | with_reducible refine Below.drew ?_ | with_reducible refine Below.alloc ?_ (by simp; try omega) _ | with_reducible refine below_at ?_ (Nat.le_refl _) _ _))

set_option maxHeartbeats 2000000 in
theorem asked_l (op n a b : Int) (i fd fl : Nat) (cd : Nat → Array Value) (w : World) (hf : ∀ h, Instr.findNow (.int .i64) (.int .i64 op) (opEntries h).toList 0 = some (some (i, .agg #[.func (.func fd) #[] (cd h), .nilFunc, .func (.func fl) #[] #[]]))) : Calls Tryd.prog 24 #[.int .i64 op, .int .i64 n, .int .u32 a, .int .u32 b] w fun e w' => ∃ h, e = .returned (.tuple #[.agg #[.func (.func fd) #[] (cd h), .nilFunc, .func (.func fl) #[] #[]], .bool (isW n && fit n a && fit n b)]) ∧ Boxes w.heap.size h w' ∧ Below w.heap.size w w' := by
  have hlk := run_lookup_int Tryd.prog 63 3 53 .i64 (.agg #[.nilFunc, .nilFunc, .nilFunc]) Tryd.underlying63 Tryd.underlying3 (fun w => by kernel_rfl)
  go_enter Tryd.func24, Tryd.ntmps24
  go_wp2_with (first | (go_at_call 31; refine (operations_any _).mono ?_; rintro e w1 ⟨r, h, rfl, ⟨m0, m1, m2, m3, m4, c1, c2, c3, c8, c9, c10⟩, hb1⟩))
  have hc := bcell hb1
  have z0 : w1.cell? ⟨w.heap.size, 0, none⟩ = some .nilFunc := by rw [hc.1 _ _ (by simp)]; simp [go_sem]
  have z1 : w1.cell? ⟨w.heap.size, 1, none⟩ = some .nilFunc := by rw [hc.1 _ _ (by simp)]; simp [go_sem]
  have z2 : w1.cell? ⟨w.heap.size, 2, none⟩ = some .nilFunc := by rw [hc.1 _ _ (by simp)]; simp [go_sem]
  have f0 : w1.frozen? ⟨w.heap.size, 0, none⟩ = false := by rw [hc.2 _ _ (by simp)]; simp [go_sem]
  have f1 : w1.frozen? ⟨w.heap.size, 1, none⟩ = false := by rw [hc.2 _ _ (by simp)]; simp [go_sem]
  have f2 : w1.frozen? ⟨w.heap.size, 2, none⟩ = false := by rw [hc.2 _ _ (by simp)]; simp [go_sem]
  have hz : w.heap.size < w1.heap.size := by have := hb1.size; simp at this; omega
  have hh : w.heap.size < h := by simp at m3; omega
  have HB : Hid (Below w.heap.size w w1) := ((Below.refl _ _).alloc (Nat.le_refl _) _).trans (hb1.mono (by simp))
  have C1 := Lib.hid c1
  have C2 := Lib.hid c2
  have C3 := Lib.hid c3
  have C8 := Lib.hid c8
  have C9 := Lib.hid c9
  have C10 := Lib.hid c10
  clear hlk hf m0 c1 c2 c3 c8 c9 c10 hc hb1 m1 m2 m3
  go_region_with (first | (go_at_call 18; refine (fits2 n a b _ _ (by simp [go_sem]) (by simp [go_sem])).mono ?_; rintro e w' ⟨rfl, rfl⟩))
  all_goals
    go_wp2
    refine bodyPost_ret (v := .tuple #[.agg #[.func (.func fd) #[] (cd h), .nilFunc, .func (.func fl) #[] #[]], .bool (isW n && fit n a && fit n b)]) (by simp [results, Tryd.results24, go_sem, z0, z1, z2, hz]) rfl ⟨h, rfl, ⟨by omega, by simp; omega, ?_, ?_, ?_, ?_, ?_, ?_⟩, ?_⟩
    · exact (Only.cell (w := w1) (b := w.heap.size) (by repeat (first | with_reducible exact Only.refl _ _ | with_reducible refine Only.drew ?_ | with_reducible refine Only.alloc ?_ _ | with_reducible refine Only.at ?_ _ _)) (by omega) (by omega)).trans C1.out
    · exact (Only.cell (w := w1) (b := w.heap.size) (by repeat (first | with_reducible exact Only.refl _ _ | with_reducible refine Only.drew ?_ | with_reducible refine Only.alloc ?_ _ | with_reducible refine Only.at ?_ _ _)) (by omega) (by omega)).trans C2.out
    · exact (Only.cell (w := w1) (b := w.heap.size) (by repeat (first | with_reducible exact Only.refl _ _ | with_reducible refine Only.drew ?_ | with_reducible refine Only.alloc ?_ _ | with_reducible refine Only.at ?_ _ _)) (by omega) (by omega)).trans C3.out
    · exact (Only.cell (w := w1) (b := w.heap.size) (by repeat (first | with_reducible exact Only.refl _ _ | with_reducible refine Only.drew ?_ | with_reducible refine Only.alloc ?_ _ | with_reducible refine Only.at ?_ _ _)) (by omega) (by omega)).trans C8.out
    · exact (Only.cell (w := w1) (b := w.heap.size) (by repeat (first | with_reducible exact Only.refl _ _ | with_reducible refine Only.drew ?_ | with_reducible refine Only.alloc ?_ _ | with_reducible refine Only.at ?_ _ _)) (by omega) (by omega)).trans C9.out
    · exact (Only.cell (w := w1) (b := w.heap.size) (by repeat (first | with_reducible exact Only.refl _ _ | with_reducible refine Only.drew ?_ | with_reducible refine Only.alloc ?_ _ | with_reducible refine Only.at ?_ _ _)) (by omega) (by omega)).trans C10.out
    · exact HB.out.trans (by repeat (first | with_reducible exact Below.refl _ _ | with_reducible refine Below.drew ?_ | with_reducible refine Below.alloc ?_ (by simp; try omega) _ | with_reducible refine below_at ?_ (Nat.le_refl _) _ _))

set_option maxHeartbeats 2000000 in
theorem asked_n (op n a b : Int) (i fd : Nat) (cd : Nat → Array Value) (w : World) (hf : ∀ h, Instr.findNow (.int .i64) (.int .i64 op) (opEntries h).toList 0 = some (some (i, .agg #[.func (.func fd) #[] (cd h), .nilFunc, .nilFunc]))) : Calls Tryd.prog 24 #[.int .i64 op, .int .i64 n, .int .u32 a, .int .u32 b] w fun e w' => ∃ h, e = .returned (.tuple #[.agg #[.func (.func fd) #[] (cd h), .nilFunc, .nilFunc], .bool (isW n && fit n a && fit n b)]) ∧ Boxes w.heap.size h w' ∧ Below w.heap.size w w' := by
  have hlk := run_lookup_int Tryd.prog 63 3 53 .i64 (.agg #[.nilFunc, .nilFunc, .nilFunc]) Tryd.underlying63 Tryd.underlying3 (fun w => by kernel_rfl)
  go_enter Tryd.func24, Tryd.ntmps24
  go_wp2_with (first | (go_at_call 31; refine (operations_any _).mono ?_; rintro e w1 ⟨r, h, rfl, ⟨m0, m1, m2, m3, m4, c1, c2, c3, c8, c9, c10⟩, hb1⟩))
  have hc := bcell hb1
  have z0 : w1.cell? ⟨w.heap.size, 0, none⟩ = some .nilFunc := by rw [hc.1 _ _ (by simp)]; simp [go_sem]
  have z1 : w1.cell? ⟨w.heap.size, 1, none⟩ = some .nilFunc := by rw [hc.1 _ _ (by simp)]; simp [go_sem]
  have z2 : w1.cell? ⟨w.heap.size, 2, none⟩ = some .nilFunc := by rw [hc.1 _ _ (by simp)]; simp [go_sem]
  have f0 : w1.frozen? ⟨w.heap.size, 0, none⟩ = false := by rw [hc.2 _ _ (by simp)]; simp [go_sem]
  have f1 : w1.frozen? ⟨w.heap.size, 1, none⟩ = false := by rw [hc.2 _ _ (by simp)]; simp [go_sem]
  have f2 : w1.frozen? ⟨w.heap.size, 2, none⟩ = false := by rw [hc.2 _ _ (by simp)]; simp [go_sem]
  have hz : w.heap.size < w1.heap.size := by have := hb1.size; simp at this; omega
  have hh : w.heap.size < h := by simp at m3; omega
  have HB : Hid (Below w.heap.size w w1) := ((Below.refl _ _).alloc (Nat.le_refl _) _).trans (hb1.mono (by simp))
  have C1 := Lib.hid c1
  have C2 := Lib.hid c2
  have C3 := Lib.hid c3
  have C8 := Lib.hid c8
  have C9 := Lib.hid c9
  have C10 := Lib.hid c10
  clear hlk hf m0 c1 c2 c3 c8 c9 c10 hc hb1 m1 m2 m3
  go_region_with (first | (go_at_call 18; refine (fits2 n a b _ _ (by simp [go_sem]) (by simp [go_sem])).mono ?_; rintro e w' ⟨rfl, rfl⟩))
  all_goals
    go_wp2
    refine bodyPost_ret (v := .tuple #[.agg #[.func (.func fd) #[] (cd h), .nilFunc, .nilFunc], .bool (isW n && fit n a && fit n b)]) (by simp [results, Tryd.results24, go_sem, z0, z1, z2, hz]) rfl ⟨h, rfl, ⟨by omega, by simp; omega, ?_, ?_, ?_, ?_, ?_, ?_⟩, ?_⟩
    · exact (Only.cell (w := w1) (b := w.heap.size) (by repeat (first | with_reducible exact Only.refl _ _ | with_reducible refine Only.drew ?_ | with_reducible refine Only.alloc ?_ _ | with_reducible refine Only.at ?_ _ _)) (by omega) (by omega)).trans C1.out
    · exact (Only.cell (w := w1) (b := w.heap.size) (by repeat (first | with_reducible exact Only.refl _ _ | with_reducible refine Only.drew ?_ | with_reducible refine Only.alloc ?_ _ | with_reducible refine Only.at ?_ _ _)) (by omega) (by omega)).trans C2.out
    · exact (Only.cell (w := w1) (b := w.heap.size) (by repeat (first | with_reducible exact Only.refl _ _ | with_reducible refine Only.drew ?_ | with_reducible refine Only.alloc ?_ _ | with_reducible refine Only.at ?_ _ _)) (by omega) (by omega)).trans C3.out
    · exact (Only.cell (w := w1) (b := w.heap.size) (by repeat (first | with_reducible exact Only.refl _ _ | with_reducible refine Only.drew ?_ | with_reducible refine Only.alloc ?_ _ | with_reducible refine Only.at ?_ _ _)) (by omega) (by omega)).trans C8.out
    · exact (Only.cell (w := w1) (b := w.heap.size) (by repeat (first | with_reducible exact Only.refl _ _ | with_reducible refine Only.drew ?_ | with_reducible refine Only.alloc ?_ _ | with_reducible refine Only.at ?_ _ _)) (by omega) (by omega)).trans C9.out
    · exact (Only.cell (w := w1) (b := w.heap.size) (by repeat (first | with_reducible exact Only.refl _ _ | with_reducible refine Only.drew ?_ | with_reducible refine Only.alloc ?_ _ | with_reducible refine Only.at ?_ _ _)) (by omega) (by omega)).trans C10.out
    · exact HB.out.trans (by repeat (first | with_reducible exact Below.refl _ _ | with_reducible refine Below.drew ?_ | with_reducible refine Below.alloc ?_ (by simp; try omega) _ | with_reducible refine below_at ?_ (Nat.le_refl _) _ _))

set_option maxHeartbeats 2000000 in
theorem asked_none (op n a b : Int) (w : World) (hf : ∀ h, Instr.findNow (.int .i64) (.int .i64 op) (opEntries h).toList 0 = some none) : Calls Tryd.prog 24 #[.int .i64 op, .int .i64 n, .int .u32 a, .int .u32 b] w fun e w' => e = .returned (.tuple #[.agg #[.nilFunc, .nilFunc, .nilFunc], .bool false]) ∧ Below w.heap.size w w' := by
  have hlk := run_lookup_int Tryd.prog 63 3 53 .i64 (.agg #[.nilFunc, .nilFunc, .nilFunc]) Tryd.underlying63 Tryd.underlying3 (fun w => by kernel_rfl)
  go_enter Tryd.func24, Tryd.ntmps24
  go_wp2_with (first | (go_at_call 31; refine (operations_any _).mono ?_; rintro e w1 ⟨r, h, rfl, ⟨m0, m1, m2, m3, m4, c1, c2, c3, c8, c9, c10⟩, hb1⟩))
  have hc := bcell hb1
  have z0 : w1.cell? ⟨w.heap.size, 0, none⟩ = some .nilFunc := by rw [hc.1 _ _ (by simp)]; simp [go_sem]
  have z1 : w1.cell? ⟨w.heap.size, 1, none⟩ = some .nilFunc := by rw [hc.1 _ _ (by simp)]; simp [go_sem]
  have z2 : w1.cell? ⟨w.heap.size, 2, none⟩ = some .nilFunc := by rw [hc.1 _ _ (by simp)]; simp [go_sem]
  have f0 : w1.frozen? ⟨w.heap.size, 0, none⟩ = false := by rw [hc.2 _ _ (by simp)]; simp [go_sem]
  have f1 : w1.frozen? ⟨w.heap.size, 1, none⟩ = false := by rw [hc.2 _ _ (by simp)]; simp [go_sem]
  have f2 : w1.frozen? ⟨w.heap.size, 2, none⟩ = false := by rw [hc.2 _ _ (by simp)]; simp [go_sem]
  have hz : w.heap.size < w1.heap.size := by have := hb1.size; simp at this; omega
  have hh : w.heap.size < h := by simp at m3; omega
  have HB : Hid (Below w.heap.size w w1) := ((Below.refl _ _).alloc (Nat.le_refl _) _).trans (hb1.mono (by simp))
  have C1 := Lib.hid c1
  have C2 := Lib.hid c2
  have C3 := Lib.hid c3
  have C8 := Lib.hid c8
  have C9 := Lib.hid c9
  have C10 := Lib.hid c10
  clear hlk hf m0 c1 c2 c3 c8 c9 c10 hc hb1 m1 m2 m3
  clear C1 C2 C3 C8 C9 C10 hh m4
  go_region
  all_goals
    go_wp2
    refine bodyPost_ret (v := .tuple #[.agg #[.nilFunc, .nilFunc, .nilFunc], .bool false]) (by simp [results, Tryd.results24, go_sem, z0, z1, z2, hz]) rfl ⟨rfl, ?_⟩
    exact HB.out.trans (by repeat (first | with_reducible exact Below.refl _ _ | with_reducible refine Below.drew ?_ | with_reducible refine Below.alloc ?_ (by simp; try omega) _ | with_reducible refine below_at ?_ (Nat.le_refl _) _ _))

end Go.Proofs.YtpgbepgbgpjmcaaDoor
