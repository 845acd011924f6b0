/- -/
import Derived.Shelf.SlicesQ.IndexFunc
import Derived.Ground.SlgfProg
import Derived.Deep.Cut
import Derived.Maps.Keyed
import Derived.DeepKeys5
import Derived.Laws.OwnMore
import Derived.Laws.AppendOwnNone
import Derived.WalkKit
import Derived.Deep.MidRow
import Derived.Laws.ResultCell
import Derived.Laws.IdiomCopy
import Derived.Test.YtaegpeofecdhfaaGreatC1
set_option maxRecDepth 100000
namespace Go.Proofs.YtaegpeofecdhfaaGreat
open Go.RowKit
set_option linter.unusedVariables false
set_option linter.unusedSimpArgs false
theorem isNumber_any (n : Int) (w : World) : Calls Tryz.prog 37 #[.int .i64 n] w fun e w' => e = .returned (.bool (num32 n)) ∧ w = w' := by
  unfold num32
  cases h1 : decide (-2147483648 ≤ n)
  · go_enter Tryz.func37, Tryz.ntmps37
    go_wp2_with fail
    go_ret
    exact ⟨rfl, rfl⟩
  · cases h2 : decide (n ≤ 2147483647)
    all_goals go_enter Tryz.func37, Tryz.ntmps37
    all_goals go_wp2_with fail
    all_goals go_ret
    all_goals exact ⟨rfl, rfl⟩
set_option maxHeartbeats 2000000 in
theorem isWant_any (x : Wn) (z : Int) (w : World) (hz : -1 ≤ z ∧ z ≤ 1000000) : Calls Tryz.prog 38 #[.agg #[.int .i64 x.a, .int .i64 x.k, .int .i64 x.n, .int .i64 x.p], .int .i64 z] w fun e w' => e = .returned (.bool (wantB x z)) ∧ Below w.heap.size w w' := by
  obtain ⟨a, k, n, p⟩ := x
  simp only [wantB]
  have HB : Hid (Below w.heap.size w (w.alloc (.cells #[.int .i64 a, .int .i64 k, .int .i64 n, .int .i64 p] 43))) := (Below.refl _ _).alloc (Nat.le_refl _) _
  have C1 := Lib.hid fun w => isNumber_any n w
  have C2 := Lib.hid fun w => isNumber_any p w
  generalize num32 n = bn at *
  generalize num32 p = bp at *
  cases h1 : decide (0 ≤ a)
  · go_enter Tryz.func38, Tryz.ntmps38
    go_wp2_with fail
    go_ret
    exact ⟨rfl, HB.out⟩
  cases h2 : decide (a ≤ z - 4)
  · go_enter Tryz.func38, Tryz.ntmps38
    go_wp2_with fail
    go_ret
    exact ⟨rfl, HB.out⟩
  cases h3 : (k == 0) <;> cases h4 : (k == 1) <;> cases bn <;> cases bp
  all_goals go_enter Tryz.func38, Tryz.ntmps38
  all_goals go_wp2_with (first | (go_at_call 37; with_reducible first | refine (C1.out _).mono ?_ | refine (C2.out _).mono ?_); rintro e w' ⟨rfl, rfl⟩)
  all_goals go_ret
  all_goals exact ⟨rfl, HB.out⟩
theorem vo1_any (s : Sy) (z B : Nat) (vb : Option Addr) (cb : Nat) (w : World) (hB : B < w.heap.size) (hb : w.cell? ⟨B, 0, none⟩ = some (.slice vb z cb)) :
    Calls Tryz.prog 36 #[.agg #[.int .i64 s.n, .int .i64 s.a], .pointer (some ⟨B, 0, none⟩)] w fun e w' => e = .returned (.bool (symX z s)) ∧ Below w.heap.size w w' := by
  obtain ⟨n, a⟩ := s
  simp only [symX]
  have hne : ¬ B = w.heap.size := by omega
  have HB : Hid (Below w.heap.size w (w.alloc (.cells #[.int .i64 n, .int .i64 a] 41))) := (Below.refl _ _).alloc (Nat.le_refl _) _
  have C1 := Lib.hid fun w => isNumber_any n w
  generalize num32 n = bn at *
  cases bn <;> cases h1 : decide (a < 0) <;> cases h2 : decide ((z : Int) < a)
  all_goals go_enter Tryz.func36, Tryz.ntmps36
  all_goals go_wp2_with (go_at_call 37; with_reducible refine (C1.out _).mono ?_; rintro e w' ⟨rfl, rfl⟩)
  all_goals go_ret
  all_goals exact ⟨rfl, HB.out⟩
theorem vo2_any (x y : Wn) (B : Nat) (w : World) (hB : B < w.heap.size) (hb : w.cell? ⟨B, 0, none⟩ = some (.int .i64 x.a)) :
    Calls Tryz.prog 40 #[.agg #[.int .i64 y.a, .int .i64 y.k, .int .i64 y.n, .int .i64 y.p], .pointer (some ⟨B, 0, none⟩)] w fun e w' => e = .returned (.bool (nearP x y)) ∧ Below w.heap.size w w' := by
  obtain ⟨a, k, n, p⟩ := y
  obtain ⟨a', k', n', p'⟩ := x
  simp only [nearP] at hb ⊢
  have hne : ¬ B = w.heap.size := by omega
  have HB : Hid (Below w.heap.size w (w.alloc (.cells #[.int .i64 a, .int .i64 k, .int .i64 n, .int .i64 p] 43))) := (Below.refl _ _).alloc (Nat.le_refl _) _
  generalize hy : wrap64 (a + 4) = y
  generalize hy' : wrap64 (a' + 4) = y'
  cases h1 : decide (a' < y) <;> cases h2 : decide (a < y')
  all_goals go_enter Tryz.func40, Tryz.ntmps40
  all_goals go_wp2_with fail
  all_goals go_ret
  all_goals exact ⟨rfl, HB.out⟩
theorem vo3_any (x y : Sy) (B : Nat) (w : World) (hB : B < w.heap.size) (hb : w.cell? ⟨B, 0, none⟩ = some (.int .i64 x.n)) :
    Calls Tryz.prog 41 #[.agg #[.int .i64 y.n, .int .i64 y.a], .pointer (some ⟨B, 0, none⟩)] w fun e w' => e = .returned (.bool (x.n == y.n)) ∧ Below w.heap.size w w' := by
  obtain ⟨n, a⟩ := y
  obtain ⟨n', a'⟩ := x
  simp only at hb ⊢
  have hne : ¬ B = w.heap.size := by omega
  have HB : Hid (Below w.heap.size w (w.alloc (.cells #[.int .i64 n, .int .i64 a] 41))) := (Below.refl _ _).alloc (Nat.le_refl _) _
  cases h1 : (n' == n)
  all_goals go_enter Tryz.func41, Tryz.ntmps41
  all_goals go_wp2_with fail
  all_goals go_ret
  all_goals exact ⟨rfl, HB.out⟩
end Go.Proofs.YtaegpeofecdhfaaGreat
namespace Go.Proofs
open Go.Shelf Go.RowKit Go.Lib
def Tryz.contS_ren : Go.Shelf.Ren := ⟨fun | 8 => 35 | 6 => 67 | n => n, fun | 22 => 23 | 23 => 41 | 25 => 83 | 4 => 4 | 3 => 3 | 0 => 0 | n => n, fun | n => n⟩
theorem Tryz.contS : Go.Proofs.SlLaysH0.n8 Tryz.prog Tryz.contS_ren := {
  mixed := by kernel_rfl
  f6 := ⟨Tryz.f67.name, by decide, Tryz.func67.trans (congrArg some (by kernel_rfl))⟩
  f8 := ⟨Tryz.f35.name, by decide, Tryz.func35.trans (congrArg some (by kernel_rfl))⟩
  t0 := Tryz.underlying0
  a0 := Tryz.isAgg0
  z0 := Tryz.sizeOf0
  v0 := Tryz.zeroValue0
  t3 := Tryz.underlying3
  a3 := Tryz.isAgg3
  z3 := Tryz.sizeOf3
  v3 := Tryz.zeroValue3
  t4 := Tryz.underlying4
  a4 := Tryz.isAgg4
  z4 := Tryz.sizeOf4
  v4 := Tryz.zeroValue4
  t22 := Tryz.underlying23
  a22 := Tryz.isAgg23
  z22 := Tryz.sizeOf23
  v22 := Tryz.zeroValue23
  t25 := Tryz.underlying83
  a25 := Tryz.isAgg83
  z25 := Tryz.sizeOf83
  v25 := Tryz.zeroValue83 }
def Tryz.contW_ren : Go.Shelf.Ren := ⟨fun | 8 => 39 | 6 => 68 | n => n, fun | 22 => 24 | 23 => 43 | 25 => 86 | 4 => 4 | 3 => 3 | 0 => 0 | n => n, fun | n => n⟩
theorem Tryz.contW : Go.Proofs.SlLaysH0.n8 Tryz.prog Tryz.contW_ren := {
  mixed := by kernel_rfl
  f6 := ⟨Tryz.f68.name, by decide, Tryz.func68.trans (congrArg some (by kernel_rfl))⟩
  f8 := ⟨Tryz.f39.name, by decide, Tryz.func39.trans (congrArg some (by kernel_rfl))⟩
  t0 := Tryz.underlying0
  a0 := Tryz.isAgg0
  z0 := Tryz.sizeOf0
  v0 := Tryz.zeroValue0
  t3 := Tryz.underlying3
  a3 := Tryz.isAgg3
  z3 := Tryz.sizeOf3
  v3 := Tryz.zeroValue3
  t4 := Tryz.underlying4
  a4 := Tryz.isAgg4
  z4 := Tryz.sizeOf4
  v4 := Tryz.zeroValue4
  t22 := Tryz.underlying24
  a22 := Tryz.isAgg24
  z22 := Tryz.sizeOf24
  v22 := Tryz.zeroValue24
  t25 := Tryz.underlying86
  a25 := Tryz.isAgg86
  z25 := Tryz.sizeOf86
  v25 := Tryz.zeroValue86 }
end Go.Proofs
namespace Go.Proofs.YtaegpeofecdhfaaGreat
open Go.RowKit
set_option linter.unusedVariables false
set_option linter.unusedSimpArgs false
def encS (x : Sy) : List Value := [.int .i64 x.n, .int .i64 x.a]
def encW (x : Wn) : List Value := [.int .i64 x.a, .int .i64 x.k, .int .i64 x.n, .int .i64 x.p]
theorem contS_none (a : Option Addr) (c : Nat) (f : Value) (w : World) : Calls Tryz.prog 35 #[.slice a 0 c, f] w fun e w' => e = .returned (.bool false) ∧ Below w.heap.size w w' := by
  have C : Hid (∀ w, Calls Tryz.prog 67 #[.slice a 0 c, f] w fun e w' => e = .returned (.int .i64 (-1)) ∧ w = w') := Lib.hid fun w => by
    go_enter Tryz.func67, Tryz.ntmps67
    go_wp2_with fail
    go_loopg [5, 8] 0 (fun _ _ s8 wr => s8 = .int .i64 0 ∧ wr = w)
    case atStart => exact ⟨rfl, rfl⟩
    case round =>
      obtain ⟨rfl, rfl⟩ := hrel
      go_wp2_with fail
      go_ret
      exact ⟨rfl, rfl⟩
  have HB := Lib.hid (Below.refl w.heap.size w)
  go_enter Tryz.func35, Tryz.ntmps35
  go_wp2_with (go_at_call 67; with_reducible refine (C.out _).mono ?_; rintro e w' ⟨rfl, rfl⟩)
  go_ret
  exact ⟨rfl, HB.out⟩
theorem contW_none (a : Option Addr) (c : Nat) (f : Value) (w : World) : Calls Tryz.prog 39 #[.slice a 0 c, f] w fun e w' => e = .returned (.bool false) ∧ Below w.heap.size w w' := by
  have C : Hid (∀ w, Calls Tryz.prog 68 #[.slice a 0 c, f] w fun e w' => e = .returned (.int .i64 (-1)) ∧ w = w') := Lib.hid fun w => by
    go_enter Tryz.func68, Tryz.ntmps68
    go_wp2_with fail
    go_loopg [5, 8] 0 (fun _ _ s8 wr => s8 = .int .i64 0 ∧ wr = w)
    case atStart => exact ⟨rfl, rfl⟩
    case round =>
      obtain ⟨rfl, rfl⟩ := hrel
      go_wp2_with fail
      go_ret
      exact ⟨rfl, rfl⟩
  have HB := Lib.hid (Below.refl w.heap.size w)
  go_enter Tryz.func39, Tryz.ntmps39
  go_wp2_with (go_at_call 68; with_reducible refine (C.out _).mono ?_; rintro e w' ⟨rfl, rfl⟩)
  go_ret
  exact ⟨rfl, HB.out⟩
theorem getD_bang {α : Type} [Inhabited α] (l : List α) (j : Nat) (h : j < l.length) : l[j]! = l.getD j default := by
  rw [List.getD_eq_getElem?_getD, List.getElem?_eq_getElem h, getElem!_pos l j h]; rfl
theorem contS_any (l : List Sy) (p : Sy → Bool) (g : Nat) (lb : Array Value) (eg : ∀ args w, (callFunc g args).run Tryz.prog w = .ok (.enter g args) w) (n c : Nat) (a : Option Addr) (w : World)
    (hS : ∀ i, i < l.length → ∃ b o, a = some ⟨b, o, none⟩ ∧ b < w.heap.size ∧ SyAt w b (o + i * 2) (l.getD i default)) (hn : n ≤ l.length) (hl : l.length ≤ 140737488351232)
    (hp : PredBelow Tryz.prog g lb (fun x => .agg (encS x).toArray) p w) :
    Calls Tryz.prog 35 #[.slice a n c, .func (.func g) #[] lb] w fun e w' => e = .returned (.bool ((l.take n).any p)) ∧ Below w.heap.size w w' := by
  by_cases h0 : n = 0
  · subst h0
    exact contS_none a c _ w
  · obtain ⟨b, o, rfl, hb, -⟩ := hS 0 (by omega)
    refine AnyQ.slices_ContainsFunc Tryz.contS 2 Tryz.isAgg41 Tryz.sizeOf41 encS (fun _ => rfl) p g lb eg b o n c l w hp hn (by omega) hb (fun j hj i v hi => ?_)
    obtain ⟨b', o', e, -, h1, h2⟩ := hS j hj
    cases e
    rw [getD_bang l j hj] at hi
    generalize l.getD j default = y at hi h1 h2
    match i, hi with
    | 0, hi => simp [encS] at hi; rw [← hi]; exact h1
    | 1, hi => simp [encS] at hi; rw [← hi]; exact h2
    | i + 2, hi => simp [encS] at hi
theorem contW_any (l : List Wn) (p : Wn → Bool) (g : Nat) (lb : Array Value) (eg : ∀ args w, (callFunc g args).run Tryz.prog w = .ok (.enter g args) w) (n c : Nat) (a : Option Addr) (w : World)
    (hS : ∀ i, i < l.length → ∃ b o, a = some ⟨b, o, none⟩ ∧ b < w.heap.size ∧ WnAt w b (o + i * 4) (l.getD i default)) (hn : n ≤ l.length) (hl : l.length ≤ 140737488351232)
    (hp : PredBelow Tryz.prog g lb (fun x => .agg (encW x).toArray) p w) :
    Calls Tryz.prog 39 #[.slice a n c, .func (.func g) #[] lb] w fun e w' => e = .returned (.bool ((l.take n).any p)) ∧ Below w.heap.size w w' := by
  by_cases h0 : n = 0
  · subst h0
    exact contW_none a c _ w
  · obtain ⟨b, o, rfl, hb, -⟩ := hS 0 (by omega)
    refine AnyQ.slices_ContainsFunc Tryz.contW 4 Tryz.isAgg43 Tryz.sizeOf43 encW (fun _ => rfl) p g lb eg b o n c l w hp hn (by omega) hb (fun j hj i v hi => ?_)
    obtain ⟨b', o', e, -, h1, h2, h3, h4⟩ := hS j hj
    cases e
    rw [getD_bang l j hj] at hi
    generalize l.getD j default = y at hi h1 h2 h3 h4
    match i, hi with
    | 0, hi => simp [encW] at hi; rw [← hi]; exact h1
    | 1, hi => simp [encW] at hi; rw [← hi]; exact h2
    | 2, hi => simp [encW] at hi; rw [← hi]; exact h3
    | 3, hi => simp [encW] at hi; rw [← hi]; exact h4
    | i + 4, hi => simp [encW] at hi
theorem eg1 : ∀ args w, (callFunc 36 args).run Tryz.prog w = .ok (.enter 36 args) w := enters_of Tryz.func36 (by kernel_rfl) rfl
theorem eg2 : ∀ args w, (callFunc 40 args).run Tryz.prog w = .ok (.enter 40 args) w := enters_of Tryz.func40 (by kernel_rfl) rfl
theorem eg3 : ∀ args w, (callFunc 41 args).run Tryz.prog w = .ok (.enter 41 args) w := enters_of Tryz.func41 (by kernel_rfl) rfl
theorem pred1 (z B : Nat) (vb : Option Addr) (cb : Nat) (w : World) (hB : B < w.heap.size) (hb : w.cell? ⟨B, 0, none⟩ = some (.slice vb z cb)) : PredBelow Tryz.prog 36 #[.pointer (some ⟨B, 0, none⟩)] (fun x => .agg (encS x).toArray) (symX z) w := fun W x h =>
  (vo1_any x z B vb cb W (Nat.lt_of_lt_of_le hB h.size) ((h.cell (p := ⟨B, 0, none⟩) hB).trans hb)).mono fun e w' ⟨he, h'⟩ => ⟨he, h.trans (h'.mono h.size)⟩
theorem pred2 (x : Wn) (B : Nat) (w : World) (hB : B < w.heap.size) (hb : w.cell? ⟨B, 0, none⟩ = some (.int .i64 x.a)) : PredBelow Tryz.prog 40 #[.pointer (some ⟨B, 0, none⟩)] (fun x => .agg (encW x).toArray) (nearP x) w := fun W y h =>
  (vo2_any x y B W (Nat.lt_of_lt_of_le hB h.size) ((h.cell (p := ⟨B, 0, none⟩) hB).trans hb)).mono fun e w' ⟨he, h'⟩ => ⟨he, h.trans (h'.mono h.size)⟩
theorem pred3 (x : Sy) (B : Nat) (w : World) (hB : B < w.heap.size) (hb : w.cell? ⟨B, 0, none⟩ = some (.int .i64 x.n)) : PredBelow Tryz.prog 41 #[.pointer (some ⟨B, 0, none⟩)] (fun x => .agg (encS x).toArray) (fun y => x.n == y.n) w := fun W y h =>
  (vo3_any x y B W (Nat.lt_of_lt_of_le hB h.size) ((h.cell (p := ⟨B, 0, none⟩) hB).trans hb)).mono fun e w' ⟨he, h'⟩ => ⟨he, h.trans (h'.mono h.size)⟩
theorem Sys.shape {w : World} {v : Value} {l : List Sy} (h : Sys w v l) : ∃ a c, v = .slice a l.length c ∧ l.length ≤ c ∧ l.length ≤ 140737488351232 ∧ ∀ i, i < l.length → ∃ b o, a = some ⟨b, o, none⟩ ∧ b < w.heap.size ∧ SyAt w b (o + i * 2) (l.getD i default) := by
  obtain ⟨a, c, rfl, h1, h2, _, h3⟩ := h
  exact ⟨a, c, rfl, h1, h2.1, h3⟩
theorem Wns.shape {w : World} {v : Value} {l : List Wn} (h : Wns w v l) : ∃ a c, v = .slice a l.length c ∧ l.length ≤ c ∧ l.length ≤ 140737488351232 ∧ ∀ i, i < l.length → ∃ b o, a = some ⟨b, o, none⟩ ∧ b < w.heap.size ∧ WnAt w b (o + i * 4) (l.getD i default) := by
  obtain ⟨a, c, rfl, h1, h2, _, h3⟩ := h
  exact ⟨a, c, rfl, h1, h2.1, h3⟩
theorem Ints.shape2 {k : IntKind} {w : World} {v : Value} {l : List Int} (h : Ints k w v l) : ∃ a c, v = .slice a l.length c ∧ l.length ≤ c ∧ l.length ≤ 140737488351232 := by
  obtain ⟨a, c, rfl, h1, h2, _⟩ := h
  exact ⟨a, c, rfl, h1, h2.1⟩
theorem sRows {w w' : World} {a : Option Addr} {l : List Sy} (h : ∀ i, i < l.length → ∃ b o, a = some ⟨b, o, none⟩ ∧ b < w.heap.size ∧ SyAt w b (o + i * 2) (l.getD i default)) (hb : Below w.heap.size w w') : ∀ i, i < l.length → ∃ b o, a = some ⟨b, o, none⟩ ∧ b < w'.heap.size ∧ SyAt w' b (o + i * 2) (l.getD i default) := fun i hi => by
  obtain ⟨b, o, e, h1, h2⟩ := h i hi
  exact ⟨b, o, e, Nat.lt_of_lt_of_le h1 hb.size, h2.stays h1 hb⟩
theorem wRows {w w' : World} {a : Option Addr} {l : List Wn} (h : ∀ i, i < l.length → ∃ b o, a = some ⟨b, o, none⟩ ∧ b < w.heap.size ∧ WnAt w b (o + i * 4) (l.getD i default)) (hb : Below w.heap.size w w') : ∀ i, i < l.length → ∃ b o, a = some ⟨b, o, none⟩ ∧ b < w'.heap.size ∧ WnAt w' b (o + i * 4) (l.getD i default) := fun i hi => by
  obtain ⟨b, o, e, h1, h2⟩ := h i hi
  exact ⟨b, o, e, Nat.lt_of_lt_of_le h1 hb.size, h2.stays h1 hb⟩
theorem valO_3 {o : Ob} (h : 8192 < o.b.length ∨ 64 < o.s.length ∨ 64 < o.t.length) : valO o = 3 := if_pos h
theorem valO_1s {o : Ob} (h : ¬ (8192 < o.b.length ∨ 64 < o.s.length ∨ 64 < o.t.length)) (h1 : o.s.any (symX o.b.length) = true) : valO o = 1 := by
  unfold valO valW; rw [if_neg h, if_pos h1]
theorem valO_1w {o : Ob} (h : ¬ (8192 < o.b.length ∨ 64 < o.s.length ∨ 64 < o.t.length)) (h1 : o.s.any (symX o.b.length) = false) (h2 : wantsX nearP o.b.length o.t o.t.length = true) : valO o = 1 := by
  unfold valO valW; rw [if_neg h, h1, if_neg (by simp), if_pos h2]
theorem valO_7 {o : Ob} (h : ¬ (8192 < o.b.length ∨ 64 < o.s.length ∨ 64 < o.t.length)) (h1 : o.s.any (symX o.b.length) = false) (h2 : wantsX nearP o.b.length o.t o.t.length = false) (h3 : twiceX o.s o.s.length = true) : valO o = 7 := by
  unfold valO valW; rw [if_neg h, h1, if_neg (by simp), h2, if_neg (by simp), if_pos h3]
theorem valO_0 {o : Ob} (h : ¬ (8192 < o.b.length ∨ 64 < o.s.length ∨ 64 < o.t.length)) (h1 : o.s.any (symX o.b.length) = false) (h2 : wantsX nearP o.b.length o.t o.t.length = false) (h3 : twiceX o.s o.s.length = false) : valO o = 0 := by
  unfold valO valW; rw [if_neg h, h1, if_neg (by simp), h2, if_neg (by simp), h3, if_neg (by simp)]
theorem wantsX_hit {near : Wn → Wn → Bool} {z : Int} {t : List Wn} {n j : Nat} (hj : j < n) (h : (!wantB (t.getD j default) z || (t.take j).any (near (t.getD j default))) = true) : wantsX near z t n = true :=
  List.any_eq_true.2 ⟨j, List.mem_range.2 hj, h⟩
theorem wantsX_step {near : Wn → Wn → Bool} {z : Int} {t : List Wn} {j : Nat} (h0 : wantsX near z t j = false) (h : (!wantB (t.getD j default) z || (t.take j).any (near (t.getD j default))) = false) : wantsX near z t (j + 1) = false := by
  unfold wantsX at h0 ⊢
  rw [any_range_succ, h0, h]; rfl
theorem twiceX_hit {s : List Sy} {n j : Nat} (hj : j < n) (h : ((s.take j).any fun u => (s.getD j default).n == u.n) = true) : twiceX s n = true :=
  List.any_eq_true.2 ⟨j, List.mem_range.2 hj, h⟩
theorem twiceX_step {s : List Sy} {j : Nat} (h0 : twiceX s j = false) (h : ((s.take j).any fun u => (s.getD j default).n == u.n) = false) : twiceX s (j + 1) = false := by
  unfold twiceX at h0 ⊢
  rw [any_range_succ, h0, h]; rfl
set_option maxHeartbeats 4000000 in
theorem pVal_any (o : Ob) (vb vs vt : Value) (w : World) (h : Ob3 w vb vs vt o) : Calls Tryz.prog 13 #[.agg #[vb, vs, vt]] w fun e w' => e = .returned (.int .i64 (valO o)) ∧ Below w.heap.size w w' := by
  obtain ⟨hb, hs, ht⟩ := h
  obtain ⟨ba, cb, rfl, hb1, hb2⟩ := hb.shape2
  obtain ⟨sa, cs, rfl, hs1, hs2, hs3⟩ := hs.shape
  obtain ⟨ta, ct, rfl, ht1, ht2, ht3⟩ := ht.shape
  clear hb hs ht
  have B0 := Lib.hid ((Below.refl _ w).alloc (Nat.le_refl _) (.cells #[.slice ba o.b.length cb, .slice sa o.s.length cs, .slice ta o.t.length ct] 26))
  cases g1 : decide ((8192 : Int) < (o.b.length : Int))
  case true =>
    have HV : Hid (valO o = 3) := valO_3 (.inl (by have := of_decide_eq_true g1; omega))
    clear hs3 ht3
    go_enter Tryz.func13, Tryz.ntmps13
    go_wp2_with fail
    go_ret
    exact ⟨ret_i HV.out.symm, B0.out⟩
  cases g2 : decide ((64 : Int) < (o.s.length : Int))
  case true =>
    have HV : Hid (valO o = 3) := valO_3 (.inr (.inl (by have := of_decide_eq_true g2; omega)))
    clear hs3 ht3
    go_enter Tryz.func13, Tryz.ntmps13
    go_wp2_with fail
    go_ret
    exact ⟨ret_i HV.out.symm, B0.out⟩
  cases g3 : decide ((64 : Int) < (o.t.length : Int))
  case true =>
    have HV : Hid (valO o = 3) := valO_3 (.inr (.inr (by have := of_decide_eq_true g3; omega)))
    clear hs3 ht3
    go_enter Tryz.func13, Tryz.ntmps13
    go_wp2_with fail
    go_ret
    exact ⟨ret_i HV.out.symm, B0.out⟩
  have G : Hid (¬ (8192 < o.b.length ∨ 64 < o.s.length ∨ 64 < o.t.length)) := fun h => by
    have := of_decide_eq_false g1; have := of_decide_eq_false g2; have := of_decide_eq_false g3; omega
  have hz := of_decide_eq_false g1
  obtain ⟨W1, hW1⟩ : ∃ W, w.alloc (.cells #[.slice ba o.b.length cb, .slice sa o.s.length cs, .slice ta o.t.length ct] 26) = W := ⟨_, rfl⟩
  have q0 : W1.cell? ⟨w.heap.size, 0, none⟩ = some (.slice ba o.b.length cb) := by rw [← hW1]; simp [go_sem]
  have q1 : W1.cell? ⟨w.heap.size, 1, none⟩ = some (.slice sa o.s.length cs) := by rw [← hW1]; simp [go_sem]
  have q2 : W1.cell? ⟨w.heap.size, 2, none⟩ = some (.slice ta o.t.length ct) := by rw [← hW1]; simp [go_sem]
  have hlt : w.heap.size < W1.heap.size := by rw [← hW1]; simp
  rw [hW1] at B0
  have C1 := Lib.hid (contS_any o.s (symX o.b.length) 36 #[.pointer (some ⟨w.heap.size, 0, none⟩)] eg1 o.s.length cs sa W1 (sRows hs3 (B0.out.mono (Nat.le_refl _))) (Nat.le_refl _) hs2 (pred1 o.b.length w.heap.size ba cb W1 hlt q0))
  rw [List.take_length] at C1
  have HS := Lib.hid (sRows hs3 B0.out)
  have HT := Lib.hid (wRows ht3 B0.out)
  clear hs3 ht3
  cases g4 : o.s.any (symX o.b.length)
  case true =>
    have HV : Hid (valO o = 1) := valO_1s G.out g4
    rw [g4] at C1
    clear HS HT g4
    go_enter Tryz.func13, Tryz.ntmps13
    go_wp2_with (go_at_call 35; with_reducible refine C1.out.mono ?_; rintro e w2 ⟨rfl, hb2⟩)
    go_ret
    exact ⟨ret_i HV.out.symm, below_next B0.out (by omega) hb2⟩
  rw [g4] at C1
  have G4 := Lib.hid g4
  clear g4
  have hn4 : wrap64 ((o.b.length : Int)) = o.b.length := IntWalk.wrap64_in _ (by omega)
  go_enter Tryz.func13, Tryz.ntmps13
  go_wp2_with (go_at_call 35; with_reducible refine C1.out.mono ?_; rintro e w2 ⟨rfl, hb2⟩; have p0 := below_cell hb2 hlt q0; have p1 := below_cell hb2 hlt q1; have p2 := below_cell hb2 hlt q2; have HB2 := Lib.hid hb2; clear hb2 C1 q0 q1 q2 hW1)
  have T0 := Lib.hid p0
  have T1 := Lib.hid p1
  have T2 := Lib.hid p2
  have HS2 := Lib.hid (sRows HS.out HB2.out)
  have HT2 := Lib.hid (wRows HT.out HB2.out)
  have hlt2 : w.heap.size < w2.heap.size := Nat.lt_of_lt_of_le hlt HB2.out.size
  have HB0 : Hid (Below w.heap.size w w2) := below_next B0.out (by omega) HB2.out
  clear HS HT HB2 B0 hlt p0 p1 p2
  go_loopw [3, 4, 30] (fun _ _ i wr => ∃ j : Nat, j ≤ o.t.length ∧ i = .int .i64 j ∧ Hid (wantsX nearP o.b.length o.t j = false) ∧ Below w2.heap.size w2 wr) (fun _ _ i _ => o.t.length - (intOf i).toNat)
  case atStart => exact ⟨0, Nat.zero_le _, rfl, rfl, Below.refl _ _⟩
  case round =>
    obtain ⟨j, hj, rfl, hno, hb⟩ := hrel
    have HB := Lib.hid hb
    have hbs := hb.size
    by_cases hjl : j < o.t.length
    · obtain ⟨b, q, ea, hbl, x0, x1, x2, x3⟩ := wRows HT2.out hb j hjl
      subst ea
      have HR := Lib.hid (wRows HT2.out hb)
      generalize hx : o.t.getD j default = x at *
      have HX := Lib.hid hx
      clear hx
      obtain ⟨xa, xk, xn, xp⟩ := x
      simp only at x0 x1 x2 x3
      have p0 := below_cell hb hlt2 T0.out
      have p2 := below_cell hb hlt2 T2.out
      have hne : ¬ w.heap.size = wr.heap.size := by omega
      have hne2 : ¬ b = wr.heap.size := by omega
      have hlr : w.heap.size < wr.heap.size := by omega
      obtain ⟨Wx, hWx⟩ : ∃ W, wr.alloc (.cells #[.int .i64 xa, .int .i64 xk, .int .i64 xn, .int .i64 xp] 43) = W := ⟨_, rfl⟩
      have BX : Hid (Below wr.heap.size wr Wx) := by rw [← hWx]; exact (Below.refl _ _).alloc (Nat.le_refl _) _
      have z0 : Wx.cell? ⟨wr.heap.size, 0, none⟩ = some (.int .i64 xa) := by rw [← hWx]; simp [go_sem]
      have z1 : Wx.cell? ⟨wr.heap.size, 1, none⟩ = some (.int .i64 xk) := by rw [← hWx]; simp [go_sem]
      have z2 : Wx.cell? ⟨wr.heap.size, 2, none⟩ = some (.int .i64 xn) := by rw [← hWx]; simp [go_sem]
      have z3 : Wx.cell? ⟨wr.heap.size, 3, none⟩ = some (.int .i64 xp) := by rw [← hWx]; simp [go_sem]
      have hlx : wr.heap.size < Wx.heap.size := by rw [← hWx]; simp
      have p0x := below_cell BX.out hlr p0
      have p2x := below_cell BX.out hlr p2
      have C2 := Lib.hid fun W => isWant_any ⟨xa, xk, xn, xp⟩ o.b.length W (by omega)
      clear hb
      cases hw : wantB ⟨xa, xk, xn, xp⟩ o.b.length
      · have HV : Hid (valO o = 1) := valO_1w G.out G4.out (wantsX_hit hjl (by rw [HX.out, hw]; rfl))
        rw [hw] at C2
        go_wp2_with (go_at_call 38; with_reducible refine (C2.out _).mono ?_; rintro e w3 ⟨rfl, hb3⟩)
        go_ret
        exact ⟨ret_i HV.out.symm, below_next (below_next (below_next HB0.out (by omega) HB.out) (by omega) BX.out) (by omega) hb3⟩
      · rw [hw] at C2
        have HW := Lib.hid hw
        clear hw
        have C3 : Hid (∀ W, Below Wx.heap.size Wx W → Calls Tryz.prog 39 #[.slice (some ⟨b, q, none⟩) j ct, .func (.func 40) #[] #[.pointer (some ⟨wr.heap.size, 0, none⟩)]] W fun e w' => e = .returned (.bool ((o.t.take j).any (nearP ⟨xa, xk, xn, xp⟩))) ∧ Below W.heap.size W w') := fun W hW =>
          contW_any o.t (nearP ⟨xa, xk, xn, xp⟩) 40 _ eg2 j ct _ W (wRows HR.out (below_next BX.out (by omega) hW)) (by omega) ht2 (pred2 ⟨xa, xk, xn, xp⟩ wr.heap.size W (Nat.lt_of_lt_of_le hlx hW.size) (below_cell hW hlx z0))
        have B3 : Hid (∀ W W', Below Wx.heap.size Wx W → Below W.heap.size W W' → Below w2.heap.size w2 W') := fun W W' h1 h2 => by
          have e1 := h1.size
          exact below_next (below_next (below_next HB.out (by omega) BX.out) (by omega) h1) (by omega) h2
        have j0 : (0 : Int) ≤ (j : Int) := by omega
        have j1 : (j : Int) ≤ (o.t.length : Int) := by omega
        have j2 : (j : Int) ≤ (ct : Int) := by omega
        have j3 : j ≤ ct := by omega
        have hjn : (j : Int) < (o.t.length : Int) := by omega
        have hlwx : w.heap.size < Wx.heap.size := by omega
        cases hn : (o.t.take j).any (nearP ⟨xa, xk, xn, xp⟩)
        · rw [hn] at C3
          have HN : Hid (wantsX nearP o.b.length o.t (j + 1) = false) := wantsX_step hno.out (by rw [HX.out, HW.out, hn]; rfl)
          clear hn
          go_wp2_with (first | (go_at_call 38; with_reducible refine (C2.out _).mono ?_; rintro e w3 ⟨rfl, hb3⟩; have p3 := below_cell hb3 hlwx p2x; have HB3 := Lib.hid hb3; clear hb3) | (go_at_call 39; with_reducible refine (C3.out _ HB3.out).mono ?_; rintro e w4 ⟨rfl, hb4⟩))
          go_roundw
          case rel => exact ⟨j + 1, by omega, by go_num, HN.out, B3.out _ _ HB3.out hb4⟩
          case measure => simp [intOf]; omega
        · rw [hn] at C3
          have HV : Hid (valO o = 1) := valO_1w G.out G4.out (wantsX_hit hjl (by rw [HX.out, hn]; simp))
          clear hn
          go_wp2_with (first | (go_at_call 38; with_reducible refine (C2.out _).mono ?_; rintro e w3 ⟨rfl, hb3⟩; have p3 := below_cell hb3 hlwx p2x; have HB3 := Lib.hid hb3; clear hb3) | (go_at_call 39; with_reducible refine (C3.out _ HB3.out).mono ?_; rintro e w4 ⟨rfl, hb4⟩))
          go_ret
          exact ⟨ret_i HV.out.symm, below_next HB0.out (by omega) (B3.out _ _ HB3.out hb4)⟩
    · obtain rfl : j = o.t.length := by omega
      have HW := Lib.hid hno.out
      have p1 := below_cell hb hlt2 T1.out
      have HB1 : Hid (Below w.heap.size w wr) := below_next HB0.out (by omega) HB.out
      have HS1 := Lib.hid (sRows HS2.out hb)
      have hlr : w.heap.size < wr.heap.size := by omega
      obtain ⟨wo, rfl⟩ : ∃ wo : World, wo = wr := ⟨_, rfl⟩
      have P1 := Lib.hid p1
      clear hb hbs HB HT2 HS2 HB0 hlt2 hno T0 T2 T1
      go_wp2_with fail
      clear p1
      go_loopw [5, 6, 51] (fun _ _ i wr => ∃ j : Nat, j ≤ o.s.length ∧ i = .int .i64 j ∧ Hid (twiceX o.s j = false) ∧ Below wo.heap.size wo wr) (fun _ _ i _ => o.s.length - (intOf i).toNat)
      case atStart => exact ⟨0, Nat.zero_le _, rfl, rfl, Below.refl _ _⟩
      case round =>
        obtain ⟨j, hj, rfl, hno, hb⟩ := hrel
        have HB := Lib.hid hb
        have hbs := hb.size
        by_cases hjl : j < o.s.length
        · obtain ⟨b, q, ea, hbl, x0, x1⟩ := sRows HS1.out hb j hjl
          subst ea
          have HR := Lib.hid (sRows HS1.out hb)
          generalize hx : o.s.getD j default = x at *
          have HX := Lib.hid hx
          clear hx
          obtain ⟨xn, xa⟩ := x
          simp only at x0 x1
          have p1 := below_cell hb hlr P1.out
          have hne : ¬ w.heap.size = wr.heap.size := by omega
          have hne2 : ¬ b = wr.heap.size := by omega
          obtain ⟨Wx, hWx⟩ : ∃ W, wr.alloc (.cells #[.int .i64 xn, .int .i64 xa] 41) = W := ⟨_, rfl⟩
          have BX : Hid (Below wr.heap.size wr Wx) := by rw [← hWx]; exact (Below.refl _ _).alloc (Nat.le_refl _) _
          have z0 : Wx.cell? ⟨wr.heap.size, 0, none⟩ = some (.int .i64 xn) := by rw [← hWx]; simp [go_sem]
          have hlx : wr.heap.size < Wx.heap.size := by rw [← hWx]; simp
          have p1x := below_cell BX.out (by omega) p1
          clear hb
          have C3 : Hid (Calls Tryz.prog 35 #[.slice (some ⟨b, q, none⟩) j cs, .func (.func 41) #[] #[.pointer (some ⟨wr.heap.size, 0, none⟩)]] Wx fun e w' => e = .returned (.bool ((o.s.take j).any fun y => xn == y.n)) ∧ Below Wx.heap.size Wx w') :=
            contS_any o.s (fun y => xn == y.n) 41 _ eg3 j cs _ Wx (sRows HR.out BX.out) (by omega) hs2 (pred3 ⟨xn, xa⟩ wr.heap.size Wx hlx z0)
          have B3 : Hid (∀ W', Below Wx.heap.size Wx W' → Below wo.heap.size wo W') := fun W' h1 => below_next (below_next HB.out (by omega) BX.out) (by omega) h1
          have j0 : (0 : Int) ≤ (j : Int) := by omega
          have j1 : (j : Int) ≤ (o.s.length : Int) := by omega
          have j2 : (j : Int) ≤ (cs : Int) := by omega
          have j3 : j ≤ cs := by omega
          have hjn : (j : Int) < (o.s.length : Int) := by omega
          cases hn : (o.s.take j).any fun y => xn == y.n
          · rw [hn] at C3
            have HN : Hid (twiceX o.s (j + 1) = false) := twiceX_step hno.out (by rw [HX.out]; exact hn)
            clear hn
            go_wp2_with (go_at_call 35; with_reducible refine C3.out.mono ?_; rintro e w4 ⟨rfl, hb4⟩)
            go_roundw
            case rel => exact ⟨j + 1, by omega, by go_num, HN.out, B3.out _ hb4⟩
            case measure => simp [intOf]; omega
          · rw [hn] at C3
            have HV : Hid (valO o = 7) := valO_7 G.out G4.out HW.out (twiceX_hit hjl (by rw [HX.out]; exact hn))
            clear hn
            go_wp2_with (go_at_call 35; with_reducible refine C3.out.mono ?_; rintro e w4 ⟨rfl, hb4⟩)
            go_ret
            exact ⟨ret_i HV.out.symm, below_next HB1.out (by omega) (B3.out _ hb4)⟩
        · obtain rfl : j = o.s.length := by omega
          have HV : Hid (valO o = 0) := valO_0 G.out G4.out HW.out hno.out
          go_wp2_with fail
          go_ret
          exact ⟨ret_i HV.out.symm, below_next HB1.out (by omega) HB.out⟩
theorem any_take_step {α : Type} [Inhabited α] {f : α → Bool} {s : List α} {j : Nat} (hj : j < s.length) (h0 : (s.take j).any f = false) (h : f (s.getD j default) = false) : (s.take (j + 1)).any f = false := by
  rw [List.take_add_one, List.any_append, h0, List.getElem?_eq_getElem hj]
  rw [List.getD_eq_getElem?_getD, List.getElem?_eq_getElem hj] at h
  simpa using h
theorem any_take_hit {α : Type} [Inhabited α] {f : α → Bool} {s : List α} {j n : Nat} (hj : j < s.length) (hn : j < n) (h : f (s.getD j default) = true) : (s.take n).any f = true := by
  rw [List.getD_eq_getElem?_getD, List.getElem?_eq_getElem hj] at h
  refine List.any_eq_true.2 ⟨s[j], ?_, h⟩
  rw [List.mem_take_iff_getElem]
  exact ⟨j, by omega, rfl⟩
end Go.Proofs.YtaegpeofecdhfaaGreat
namespace Go.Proofs.YtaegpeofecdhfaaGreat
open Go.RowKit Go.Maps
set_option linter.unusedVariables false
set_option linter.unusedSimpArgs false
def ents (l : List (Value × Value)) : Array MapEntry := (l.mapIdx fun i p => (⟨p.1, p.2, i⟩ : MapEntry)).toArray
theorem mem_ents {l : List (Value × Value)} {e : MapEntry} (h : e ∈ (ents l).toList) : (e.key, e.val) ∈ l := by
  unfold ents at h
  simp only [List.mem_mapIdx] at h
  obtain ⟨i, hi, rfl⟩ := h
  exact List.getElem_mem hi
theorem ents_push (l : List (Value × Value)) (k v : Value) : (ents l).push ⟨k, v, l.length⟩ = ents (l ++ [(k, v)]) := by
  unfold ents
  simp
def MapIs (P : Program) (K : TypeId) (w : World) (r : Nat) (l : List (Value × Value)) : Prop :=
  r < w.heap.size ∧ mapAt w r = some (ents l, l.length) ∧ (∀ p ∈ l, ∃ q, keyOf P K p.1 = some q) ∧ (l.map (·.1)).Nodup
section
variable {P : Program} {t K E : TypeId} {w : World} {r : Nat} {l : List (Value × Value)}
theorem lookup_hit (law : Keyed P K) (ht : P.underlying t = some (.map K E)) (h : MapIs P K w r l) {k v : Value} {q : Lit} (hk : keyOf P K k = some q) (hm : (k, v) ∈ l) :
    (Instr.lookup t (.map (some r)) k true).run P w = .ok (.tuple #[v, .bool true]) w := by
  obtain ⟨_, h1, h2, h3⟩ := h
  have hb := mapAt_some h1
  have hfind := law.find w hk (ents l).toList (fun e he => h2 _ (mem_ents he))
  have hval : ∀ e ∈ (ents l).toList, e.key = k → e.val = v := by
    intro e he hek
    have hm2 := mem_ents he
    rw [hek] at hm2
    obtain ⟨i, hi, e1⟩ := List.getElem_of_mem hm
    obtain ⟨j, hj, e2⟩ := List.getElem_of_mem hm2
    have hij : i = j := by
      have hp := List.pairwise_iff_getElem.1 h3
      rcases Nat.lt_trichotomy i j with h | h | h
      · exact absurd (show (l.map (·.1))[i]'(by simpa using hi) = (l.map (·.1))[j]'(by simpa using hj) from by simp [e1, e2]) (hp i j (by simpa using hi) (by simpa using hj) h)
      · exact h
      · exact absurd (show (l.map (·.1))[j]'(by simpa using hj) = (l.map (·.1))[i]'(by simpa using hi) from by simp [e1, e2]) (hp j i (by simpa using hj) (by simpa using hi) h)
    subst hij
    rw [e1] at e2
    cases e2; rfl
  rcases hfind with ⟨_, hno⟩ | ⟨j, e, hrun, hj, hek⟩
  · exfalso
    obtain ⟨i, hi, e1⟩ := List.getElem_of_mem hm
    refine hno ⟨k, v, i⟩ ?_ rfl
    unfold ents
    simp only [List.mem_mapIdx]
    exact ⟨i, hi, by rw [e1]⟩
  · have hv := hval e (List.mem_of_getElem? hj) hek
    simp [Instr.lookup, run_underlying ht, MapKept.run_getObj_map hb, law.check w _ hk, hrun, hv, Result.andThen]
theorem lookup_miss (law : Keyed P K) (ht : P.underlying t = some (.map K E)) {z : Value} (hz : ∀ w, (zeroValue E).run P w = .ok z w) (h : MapIs P K w r l) {k : Value} {q : Lit} (hk : keyOf P K k = some q) (hm : ∀ p ∈ l, p.1 ≠ k) :
    (Instr.lookup t (.map (some r)) k true).run P w = .ok (.tuple #[z, .bool false]) w := by
  obtain ⟨_, h1, h2, h3⟩ := h
  have hb := mapAt_some h1
  rcases law.find w hk (ents l).toList (fun e he => h2 _ (mem_ents he)) with ⟨hrun, _⟩ | ⟨j, e, hrun, hj, hek⟩
  · simp [Instr.lookup, run_underlying ht, MapKept.run_getObj_map hb, law.check w _ hk, hrun, hz, Result.andThen]
  · exact absurd hek (hm _ (mem_ents (List.mem_of_getElem? hj)))
theorem update_new (law : Keyed P K) (ht : P.underlying t = some (.map K E)) (h : MapIs P K w r l) {k v : Value} {q : Lit} (hk : keyOf P K k = some q) (hm : ∀ p ∈ l, p.1 ≠ k) :
    (Instr.mapUpdate t (.map (some r)) k v).run P w = .ok () (setMap w r (ents (l ++ [(k, v)])) (l.length + 1)) := by
  obtain ⟨_, h1, h2, h3⟩ := h
  have hb := mapAt_some h1
  rcases law.find w hk (ents l).toList (fun e he => h2 _ (mem_ents he)) with ⟨hrun, _⟩ | ⟨j, e, hrun, hj, hek⟩
  · simp [Instr.mapUpdate, run_underlying ht, MapKept.run_getObj_map hb, law.check w _ hk, hrun, MapKept.run_setObj_map _ hb, Result.andThen, setMap, ents_push]
  · exact absurd hek (hm _ (mem_ents (List.mem_of_getElem? hj)))
theorem mapAt_setMap {es es' : Array MapEntry} {c c' : Nat} (h : mapAt w r = some (es, c)) : mapAt (setMap w r es' c') r = some (es', c') := by
  have hb := mapAt_some h
  have hlt : r < w.heap.size := by
    rcases Nat.lt_or_ge r w.heap.size with h | h
    · exact h
    · rw [Array.getElem?_eq_none h] at hb; cases hb
  unfold mapAt setMap
  simp [Array.getElem?_setIfInBounds, hlt]
theorem MapIs.new (h : MapIs P K w r l) {k v : Value} {q : Lit} (hk : keyOf P K k = some q) (hm : ∀ p ∈ l, p.1 ≠ k) : MapIs P K (setMap w r (ents (l ++ [(k, v)])) (l.length + 1)) r (l ++ [(k, v)]) := by
  obtain ⟨h0, h1, h2, h3⟩ := h
  refine ⟨by rw [size_setMap]; exact h0, by rw [mapAt_setMap h1]; simp, ?_, ?_⟩
  · intro p hp
    rcases List.mem_append.1 hp with hp | hp
    · exact h2 p hp
    · simp at hp; subst hp; exact ⟨q, hk⟩
  · rw [List.map_append, List.nodup_append]
    refine ⟨h3, by simp, ?_⟩
    intro a ha b hb
    simp at hb
    subst hb
    obtain ⟨p, hp, rfl⟩ := List.mem_map.1 ha
    exact hm p hp
theorem MapIs.below {w' : World} (h : MapIs P K w r l) (hb : Below w.heap.size w w') : MapIs P K w' r l := by
  obtain ⟨h0, h1, h2, h3⟩ := h
  refine ⟨Nat.lt_of_lt_of_le h0 hb.size, ?_, h2, h3⟩
  rw [← h1]; unfold mapAt; rw [hb.block r h0]
theorem MapIs.made {w : World} : MapIs P K (w.alloc (.map #[] 0)) w.heap.size [] :=
  ⟨by simp, by rw [mapAt_alloc_at _ _ _ _ rfl]; rfl, (fun p hp => by cases hp), by simp⟩
theorem below_setMap {B : Nat} {w w' : World} (h : Below B w w') {r : Nat} (hr : B ≤ r) (es : Array MapEntry) (c : Nat) : Below B w (setMap w' r es c) := by
  refine h.trans ⟨rfl, rfl, rfl, by simp [setMap], fun k hk => ?_⟩
  show (w'.heap.setIfInBounds r _)[k]? = _
  rw [Array.getElem?_setIfInBounds, if_neg (by omega)]
theorem cell_setMap {w : World} {r b o : Nat} {es : Array MapEntry} {c : Nat} (h : b ≠ r) : (setMap w r es c).cell? ⟨b, o, none⟩ = w.cell? ⟨b, o, none⟩ := by
  unfold World.cell? setMap
  simp only [Array.getElem?_setIfInBounds]
  rw [if_neg (fun e => h e.symm)]
theorem free_setMap {w : World} {r b o : Nat} {es : Array MapEntry} {c : Nat} (h : b ≠ r) : (setMap w r es c).frozen? ⟨b, o, none⟩ = w.frozen? ⟨b, o, none⟩ := by
  unfold World.frozen? setMap
  simp only [Array.getElem?_setIfInBounds]
  rw [if_neg (fun e => h e.symm)]
end
end Go.Proofs.YtaegpeofecdhfaaGreat
namespace Go.Proofs.YtaegpeofecdhfaaGreat
open Go.RowKit Go.Maps
set_option linter.unusedVariables false
set_option linter.unusedSimpArgs false
structure Im where
  p : List Int
  z : Int
  m : List (Int × Int)
def addS (c : Int) (l : List Sy) (m : List (Int × Int)) : Option (List (Int × Int)) := l.foldlM (fun m s => if m.any (fun q => q.1 == s.n) then none else some (m ++ [(s.n, c + s.a)])) m
def nextAt (z : Int) : Int := (z + 3) / 4 * 4
def putO (base : Int) (st : Im) (o : Ob) : Option Im := (addS (base + nextAt st.z) o.s st.m).map fun m => ⟨st.p ++ [nextAt st.z], nextAt st.z + o.b.length, m⟩
def arrL (base : Int) (l : List Ob) : Option Im := l.foldlM (putO base) ⟨[], 0, []⟩
def firstE : List Ob → Int
  | [] => 0
  | o :: l => if valO o = 0 then firstE l else valO o
def arrE (base : Int) (l : List Ob) : Int :=
  if 4 < l.length then 3 else if firstE l ≠ 0 then firstE l else if base < 0 ∨ 32768 < base ∨ base.tmod 4 ≠ 0 then 1 else if (arrL base l).isNone then 7 else 0
theorem firstE_hit : ∀ {l : List Ob} {j : Nat}, (∀ i, i < j → valO (l.getD i default) = 0) → j < l.length → valO (l.getD j default) ≠ 0 → firstE l = valO (l.getD j default)
  | o :: l, 0, _, _, h => by simp at h ⊢; unfold firstE; rw [if_neg h]
  | o :: l, j + 1, h0, hj, h => by
    have e0 : valO o = 0 := h0 0 (by omega)
    unfold firstE
    rw [if_pos e0]
    have := firstE_hit (l := l) (j := j) (fun i hi => by have := h0 (i + 1) (by omega); simpa using this) (by simpa using hj) (by simpa using h)
    simpa using this
theorem firstE_none : ∀ {l : List Ob}, (∀ i, i < l.length → valO (l.getD i default) = 0) → firstE l = 0
  | [], _ => rfl
  | o :: l, h => by
    have e0 : valO o = 0 := h 0 (by simp)
    unfold firstE
    rw [if_pos e0]
    exact firstE_none fun i hi => by have := h (i + 1) (by simpa using hi); simpa using this
theorem firstE_zero : ∀ {l : List Ob}, firstE l = 0 → ∀ o ∈ l, valO o = 0
  | [], _, o, h => by cases h
  | x :: l, h, o, ho => by
    unfold firstE at h
    by_cases e : valO x = 0
    · rw [if_pos e] at h
      rcases List.mem_cons.1 ho with rfl | ho
      · exact e
      · exact firstE_zero h o ho
    · rw [if_neg e] at h; exact absurd h e
theorem addS_step {c : Int} {l : List Sy} {m0 m : List (Int × Int)} {k : Nat} (hk : k < l.length) (h : addS c (l.take k) m0 = some m) : addS c (l.take (k + 1)) m0 = if m.any (fun q => q.1 == (l.getD k default).n) then none else some (m ++ [((l.getD k default).n, c + (l.getD k default).a)]) := by
  unfold addS at h ⊢
  rw [List.take_succ_eq_append_getElem hk, List.foldlM_append, h, List.getD_eq_getElem?_getD, List.getElem?_eq_getElem hk]
  simp
theorem addS_none {c : Int} {l : List Sy} {m0 : List (Int × Int)} {k : Nat} (h : addS c (l.take k) m0 = none) : addS c l m0 = none := by
  unfold addS at h ⊢
  rw [← List.take_append_drop k l, List.foldlM_append, h]; rfl
theorem arrL_step {base : Int} {l : List Ob} {st : Im} {j : Nat} (hj : j < l.length) (h : arrL base (l.take j) = some st) : arrL base (l.take (j + 1)) = putO base st (l.getD j default) := by
  unfold arrL at h ⊢
  rw [List.take_succ_eq_append_getElem hj, List.foldlM_append, h, List.getD_eq_getElem?_getD, List.getElem?_eq_getElem hj]
  simp
theorem arrL_none {base : Int} {l : List Ob} {j : Nat} (h : arrL base (l.take j) = none) : arrL base l = none := by
  unfold arrL at h ⊢
  rw [← List.take_append_drop j l, List.foldlM_append, h]; rfl
theorem arrL_size {base : Int} : ∀ {l : List Ob} {j : Nat} {st : Im}, (∀ o ∈ l, o.b.length ≤ 8192) → j ≤ l.length → arrL base (l.take j) = some st → 0 ≤ st.z ∧ st.z ≤ 8196 * j ∧ st.p.length = j
  | l, 0, st, _, _, h => by simp [arrL] at h; subst h; simp
  | l, j + 1, st, hl, hj, h => by
    cases hp : arrL base (l.take j) with
    | none => rw [arrL_none (l := l.take (j + 1)) (j := j) (by rw [List.take_take, Nat.min_eq_left (by omega)]; exact hp)] at h; cases h
    | some s =>
      have ih := arrL_size hl (by omega) hp
      rw [arrL_step (by omega) hp] at h
      unfold putO at h
      cases ha : addS (base + nextAt s.z) (l.getD j default).s s.m with
      | none => rw [ha] at h; cases h
      | some m =>
        rw [ha] at h
        simp only [Option.map_some, Option.some.injEq] at h
        subst h
        have hm : l.getD j default ∈ l := by rw [List.getD_eq_getElem?_getD, List.getElem?_eq_getElem (by omega)]; exact List.getElem_mem _
        have := hl _ hm
        simp only [List.length_append, List.length_cons, List.length_nil]
        unfold nextAt
        omega
def Cls (w : World) (b : Nat) (cs : List Value) : Prop := ∀ k v, cs[k]? = some v → w.cell? ⟨b, k, none⟩ = some v ∧ w.frozen? ⟨b, k, none⟩ = false
theorem Cls.set {w : World} {b : Nat} {cs : List Value} (h : Cls w b cs) {k : Nat} (hk : k < cs.length) (u : Value) : Cls (w.setCell ⟨b, k, none⟩ u) b (cs.set k u) := by
  intro j v hj
  have hc := h k _ (List.getElem?_eq_getElem hk)
  by_cases e : k = j
  · subst e
    rw [List.getElem?_set_self hk] at hj
    cases hj
    exact ⟨World.cell?_setCell_same _ _ _ hc.1, by rw [World.frozen?_setCell]; exact hc.2⟩
  · rw [List.getElem?_set_ne e] at hj
    have := h j v hj
    exact ⟨by rw [World.cell?_setCell_other _ _ _ _ (by intro hh; cases hh; exact e rfl)]; exact this.1, by rw [World.frozen?_setCell]; exact this.2⟩
theorem Cls.other {w : World} {b b' k : Nat} {cs : List Value} (h : Cls w b cs) (hb : b ≠ b') (u : Value) : Cls (w.setCell ⟨b', k, none⟩ u) b cs := by
  intro j v hj
  have := h j v hj
  exact ⟨by rw [World.cell?_setCell_other _ _ _ _ (by intro hh; cases hh; exact hb rfl)]; exact this.1, by rw [World.frozen?_setCell]; exact this.2⟩
theorem Cls.lt {w : World} {b : Nat} {cs : List Value} (h : Cls w b cs) (h0 : 0 < cs.length) : b < w.heap.size := cell_lt (h 0 _ (List.getElem?_eq_getElem h0)).1
theorem Cls.block {w w' : World} {b : Nat} {cs : List Value} (h : Cls w b cs) (hb : w'.heap[b]? = w.heap[b]?) : Cls w' b cs := fun k v hk => by
  have := h k v hk
  unfold World.cell? World.frozen? at this ⊢
  rw [hb]; exact this
theorem Cls.below {w w' : World} {b B : Nat} {cs : List Value} (h : Cls w b cs) (hB : b < B) (hb : Below B w w') : Cls w' b cs := h.block (hb.block b hB)
theorem Cls.map {w : World} {b r : Nat} {cs : List Value} (h : Cls w b cs) (hb : b ≠ r) (es : Array MapEntry) (c : Nat) : Cls (setMap w r es c) b cs := fun k v hk => by
  have := h k v hk
  exact ⟨by rw [cell_setMap hb]; exact this.1, by rw [free_setMap hb]; exact this.2⟩
theorem Cls.made {w : World} {cs : List Value} {t : TypeId} : Cls (w.alloc (.cells cs.toArray t)) w.heap.size cs := fun k v hk => by
  constructor
  · simp [go_sem, hk]
  · simp [go_sem]
theorem mapAt_setCell {w : World} {b o r : Nat} {v : Value} (h : b ≠ r) : mapAt (w.setCell ⟨b, o, none⟩ v) r = mapAt w r := by
  unfold mapAt
  rw [Below.heap_setCell w ⟨b, o, none⟩ v r (fun e => h e.symm)]
theorem MapIs.set {P : Program} {K : TypeId} {w : World} {r b o : Nat} {l : List (Value × Value)} {v : Value} (h : MapIs P K w r l) (hb : b ≠ r) : MapIs P K (w.setCell ⟨b, o, none⟩ v) r l := by
  obtain ⟨h0, h1, h2, h3⟩ := h
  exact ⟨by simpa using h0, by rw [mapAt_setCell hb]; exact h1, h2, h3⟩
def symE (m : List (Int × Int)) : List (Value × Value) := m.map fun q => (.int .i64 q.1, .int .i64 q.2)
theorem ownsRow_block {w w' : World} {base : Nat} {e : TypeId} {z : Nat} {v : Value} {n : Nat} {xs : List Value} (h : w.ownsRow base e z v n xs) (hb : ∀ k, base ≤ k → w'.heap[k]? = w.heap[k]?) : w'.ownsRow base e z v n xs := by
  obtain ⟨h0, ⟨rfl, h1⟩ | ⟨g, cap, cur, rfl, hb', hg, h1, h2, h3, h4⟩⟩ := h
  · exact ⟨h0, .inl ⟨rfl, h1⟩⟩
  · exact ⟨h0, .inr ⟨g, cap, cur, rfl, hb', by rw [hb g hb']; exact hg, h1, h2, h3, h4⟩⟩
structure ArS (w0 : World) (R M I : Nat) (st : Im) (w : World) : Prop where
  keep : Below w0.heap.size w0 w
  o : w0.heap.size = R ∧ R < M ∧ M < I ∧ I < w.heap.size
  r : Cls w R [.slice none 0 0, .int .i64 0, .map none]
  i : ∃ v, Cls w I [v, .int .i64 st.z, .map (some M)] ∧ RowI w (I + 1) 3 .i64 v st.p
  m : MapIs Tryz.prog 3 w M (symE st.m)
theorem ArS.below {w0 : World} {R M I : Nat} {st : Im} {w w' : World} (h : ArS w0 R M I st w) (hb : Below w.heap.size w w') : ArS w0 R M I st w' := by
  obtain ⟨h1, ⟨o1, o2, o3, o4⟩, h2, ⟨v, h3, h4⟩, h5⟩ := h
  exact ⟨below_next h1 h1.size hb, ⟨o1, o2, o3, Nat.lt_of_lt_of_le o4 hb.size⟩, h2.below (by omega) hb, ⟨v, h3.below o4 hb, h4.below hb⟩, h5.below hb⟩
theorem ArS.app {w0 : World} {R M I : Nat} {st : Im} {w w' : World} {v' : Value} {y : Int} (h : ArS w0 R M I st w) (hb : Below (I + 1) w w') (hr : RowI w' (I + 1) 3 .i64 v' (st.p ++ [y])) : ArS w0 R M I ⟨st.p ++ [y], st.z, st.m⟩ (w'.setCell ⟨I, 0, none⟩ v') := by
  obtain ⟨h1, ⟨o1, o2, o3, o4⟩, h2, ⟨v, h3, h4⟩, h5⟩ := h
  have hs := hb.size
  refine ⟨below_at (h1.trans (hb.mono (by omega))) (by omega) _ _, ⟨o1, o2, o3, by simp; omega⟩, (h2.below (by omega) hb).other (by omega) _, ⟨v', ?_, ?_⟩, ?_⟩
  · exact (h3.below (by omega) hb).set (k := 0) (by simp) v'
  · exact ownsRow_block hr fun k hk => Below.heap_setCell w' ⟨I, 0, none⟩ v' k (by show k ≠ I; omega)
  · obtain ⟨a, b, c, d⟩ := h5
    refine MapIs.set ⟨by omega, ?_, c, d⟩ (by omega)
    rw [← b]; unfold mapAt; rw [hb.block M (by omega)]
theorem ArS.size {w0 : World} {R M I : Nat} {st : Im} {w : World} (h : ArS w0 R M I st w) (n : Int) : ArS w0 R M I ⟨st.p, n, st.m⟩ (w.setCell ⟨I, 1, none⟩ (.int .i64 n)) := by
  obtain ⟨h1, ⟨o1, o2, o3, o4⟩, h2, ⟨v, h3, h4⟩, h5⟩ := h
  refine ⟨below_at h1 (by omega) _ _, ⟨o1, o2, o3, by simp; omega⟩, h2.other (by omega) _, ⟨v, ?_, ?_⟩, h5.set (by omega)⟩
  · exact h3.set (k := 1) (by simp) _
  · exact ownsRow_block h4 fun k hk => Below.heap_setCell w ⟨I, 1, none⟩ _ k (by show k ≠ I; omega)
def I64n (n : Int) : Prop := -9223372036854775808 ≤ n ∧ n ≤ 9223372036854775807
theorem key_int {n : Int} (h : I64n n) : keyOf Tryz.prog 3 (.int .i64 n) = some (.int .i64 n) := keyOf_int_mk Tryz.underlying3 (WalkArith.wf_i64 h)
theorem symE_new {m : List (Int × Int)} {n : Int} (h : m.any (fun q => q.1 == n) = false) : ∀ p ∈ symE m, p.1 ≠ .int .i64 n := by
  intro p hp e
  unfold symE at hp
  obtain ⟨q, hq, rfl⟩ := List.mem_map.1 hp
  have := List.any_eq_false.1 h q hq
  cases e
  simp at this
theorem ArS.put {w0 : World} {R M I : Nat} {st : Im} {w : World} (h : ArS w0 R M I st w) (n a : Int) (hI : I64n n) (hn : st.m.any (fun q => q.1 == n) = false) :
    ArS w0 R M I ⟨st.p, st.z, st.m ++ [(n, a)]⟩ (setMap w M (ents (symE st.m ++ [(.int .i64 n, .int .i64 a)])) ((symE st.m).length + 1)) := by
  obtain ⟨h1, ⟨o1, o2, o3, o4⟩, h2, ⟨v, h3, h4⟩, h5⟩ := h
  have hq := key_int hI
  refine ⟨below_setMap h1 (by omega) _ _, ⟨o1, o2, o3, by rw [size_setMap]; exact o4⟩, h2.map (by omega) _ _, ⟨v, h3.map (by omega) _ _, ?_⟩, ?_⟩
  · exact ownsRow_block h4 fun k hk => by
      show (w.heap.setIfInBounds M _)[k]? = _
      rw [Array.getElem?_setIfInBounds, if_neg (by omega)]
  · have := h5.new (v := .int .i64 a) hq (symE_new hn)
    simpa [symE] using this
theorem info_int64 : (Tryz.prog.info? 3).map (fun i => (i.zero, i.size, i.bytes)) = some (some (.int .i64 0), 1, 8) := by kernel_rfl
theorem app_int {w : World} {ops : Array Oper} {rest : List Oper} {o : Oper} {a : Act} {Q : Exit → Act → World → Prop} (hgd : o.guard = none) (s x : Operand)
    (ho : o.op = .call { callee := .builtin .append, args := #[s, x], argTypes := #[69, 69] }) (base : Nat) (v : Value) (xs : List Int) (hs : a.eval s = v) (hown : RowI w base 3 .i64 v xs)
    (g c : Nat) (y : Int) (hx : a.eval x = .slice (some ⟨g, 0, none⟩) 1 c) (hy : w.cell? ⟨g, 0, none⟩ = some (.int .i64 y)) (hl : xs.length ≤ 100000) (hbase : base ≤ w.heap.size)
    (h : ∀ v' w', RowI w' base 3 .i64 v' (xs ++ [y]) → Below base w w' → w.grownBy w' v.ownBlock → wpList Tryz.prog ops Q rest (a.put o.dst v') w') : wpList Tryz.prog ops Q (o :: rest) a w := by
  obtain ⟨i0, hi0, hz0, hz1, hz2⟩ := info_parts info_int64
  refine wpList_append_own (P := Tryz.prog) w hgd s x _ ho base 3 i0 (.int .i64 0) 1 8 Tryz.underlying69 hi0 hz0 hz1 hz2 rfl (by decide) v xs.length _ hs hown ⟨g, 0, none⟩ 1 c [.int .i64 y] hx rfl (fun j u hj => ?_) (fun u hu => ?_) ?_ ?_ hbase ?_
  · rcases j with _ | j
    · cases hj; simpa [Addr.add] using hy
    · cases hj
  · simp at hu; subst hu; rfl
  · unfold maxLen; omega
  · omega
  · intro v' w' hown' hg _
    exact h v' w' (RowI.app1 hown' rfl rfl) ((Below.refl _ _).grown hg hbase (own_ge hown)) hg
theorem Cls.three {w : World} {b : Nat} {x y z : Value} (h : Cls w b [x, y, z]) : (w.cell? ⟨b, 0, none⟩ = some x ∧ w.frozen? ⟨b, 0, none⟩ = false) ∧ (w.cell? ⟨b, 1, none⟩ = some y ∧ w.frozen? ⟨b, 1, none⟩ = false) ∧ (w.cell? ⟨b, 2, none⟩ = some z ∧ w.frozen? ⟨b, 2, none⟩ = false) := ⟨h 0 _ rfl, h 1 _ rfl, h 2 _ rfl⟩
theorem Cls.res2 {P : Program} {fn : Func} {p u : Tmp} {ty : TypeId} {tmps : Array Value} {w : World} {b : Nat} {cs : List Value} {d : TypeDesc} {v : Value} (h : Cls w b cs) (hf : fn.results = #[.cell p ty, .tmp u]) (hp : tmps.getD p undef = .pointer (some ⟨b, 0, none⟩)) (hv : tmps.getD u undef = v) (hu : P.underlying ty = some d) (hd : d.isRow = true) (hi : (P.info? ty).map (·.size) = some cs.length) :
    (results fn tmps).run P w = .ok (.tuple #[.agg cs.toArray, v]) w := by
  have hr : w.rangeAt b 0 cs := fun j v hj => by rw [Nat.zero_add]; exact (h j v hj).1
  rw [results_cell_tmp hf, hp, hv]
  simp [asAddr, run_loadVar_mid w b 0 ty cs d hr hu hd hi, Result.andThen]
theorem Obs.shape {w : World} {v : Value} {l : List Ob} (h : Obs w v l) : ∃ a c, v = .slice a l.length c ∧ l.length ≤ c ∧ l.length ≤ 140737488351232 ∧ ∀ i, i < l.length → ∃ b o, a = some ⟨b, o, none⟩ ∧ b < w.heap.size ∧ ObAt w b (o + i * 3) (l.getD i default) := by
  obtain ⟨a, c, rfl, h1, h2, _, h3⟩ := h
  exact ⟨a, c, rfl, h1, h2.1, h3⟩
theorem oRows {w w' : World} {a : Option Addr} {l : List Ob} (h : ∀ i, i < l.length → ∃ b o, a = some ⟨b, o, none⟩ ∧ b < w.heap.size ∧ ObAt w b (o + i * 3) (l.getD i default)) (hb : Below w.heap.size w w') : ∀ i, i < l.length → ∃ b o, a = some ⟨b, o, none⟩ ∧ b < w'.heap.size ∧ ObAt w' b (o + i * 3) (l.getD i default) := fun i hi => by
  obtain ⟨b, o, e, h1, h2⟩ := h i hi
  exact ⟨b, o, e, Nat.lt_of_lt_of_le h1 hb.size, h2.stays h1 hb⟩
def ArrP (base : Int) (l : List Ob) (w : World) (e : Ending) (w' : World) : Prop :=
  Below w.heap.size w w' ∧
  ((arrE base l ≠ 0 ∧ e = .returned (.tuple #[.agg #[.slice none 0 0, .int .i64 0, .map none], .int .i64 (arrE base l)])) ∨
   (arrE base l = 0 ∧ ∃ st v M, arrL base l = some st ∧ e = .returned (.tuple #[.agg #[v, .int .i64 st.z, .map (some M)], .int .i64 0]) ∧ Ints .i64 w' v st.p ∧ MapIs Tryz.prog 3 w' M (symE st.m)))
theorem arrE_3 {base : Int} {l : List Ob} (h : 4 < l.length) : arrE base l = 3 := if_pos h
theorem arrE_v {base : Int} {l : List Ob} {j : Nat} (h : ¬ 4 < l.length) (h0 : ∀ i, i < j → valO (l.getD i default) = 0) (hj : j < l.length) (h1 : valO (l.getD j default) ≠ 0) : arrE base l = valO (l.getD j default) := by
  unfold arrE
  rw [if_neg h, firstE_hit h0 hj h1, if_pos h1]
theorem arrE_1 {base : Int} {l : List Ob} (h : ¬ 4 < l.length) (h0 : ∀ i, i < l.length → valO (l.getD i default) = 0) (h1 : base < 0 ∨ 32768 < base ∨ base.tmod 4 ≠ 0) : arrE base l = 1 := by
  unfold arrE
  rw [if_neg h, firstE_none h0, if_neg (by simp), if_pos h1]
theorem arrE_7 {base : Int} {l : List Ob} (h : ¬ 4 < l.length) (h0 : ∀ i, i < l.length → valO (l.getD i default) = 0) (h1 : ¬ (base < 0 ∨ 32768 < base ∨ base.tmod 4 ≠ 0)) (h2 : arrL base l = none) : arrE base l = 7 := by
  unfold arrE
  rw [if_neg h, firstE_none h0, if_neg (by simp), if_neg h1, h2]; rfl
theorem arrE_0 {base : Int} {l : List Ob} {st : Im} (h : ¬ 4 < l.length) (h0 : ∀ i, i < l.length → valO (l.getD i default) = 0) (h1 : ¬ (base < 0 ∨ 32768 < base ∨ base.tmod 4 ≠ 0)) (h2 : arrL base l = some st) : arrE base l = 0 := by
  unfold arrE
  rw [if_neg h, firstE_none h0, if_neg (by simp), if_neg h1, h2]; rfl
theorem sym_ok {o : Ob} (h : valO o = 0) : ∀ s ∈ o.s, (-2147483648 ≤ s.n ∧ s.n ≤ 2147483647) ∧ 0 ≤ s.a ∧ s.a ≤ o.b.length := by
  intro s hs
  by_cases g : 8192 < o.b.length ∨ 64 < o.s.length ∨ 64 < o.t.length
  · rw [valO_3 g] at h; omega
  · cases g2 : o.s.any (symX o.b.length) with
    | true => rw [valO_1s g g2] at h; omega
    | false =>
      have := List.any_eq_false.1 g2 s hs
      unfold symX num32 at this
      simp at this
      omega
theorem mem_getD' {α : Type} [Inhabited α] {l : List α} {k : Nat} (h : k < l.length) : l.getD k default ∈ l := by
  rw [List.getD_eq_getElem?_getD, List.getElem?_eq_getElem h]; exact List.getElem_mem h
theorem symE_hit {m : List (Int × Int)} {n : Int} (h : m.any (fun q => q.1 == n) = true) : ∃ a, (Value.int .i64 n, Value.int .i64 a) ∈ symE m := by
  obtain ⟨q, hq, h1⟩ := List.any_eq_true.1 h
  refine ⟨q.2, List.mem_map.2 ⟨q, hq, ?_⟩⟩
  have : q.1 = n := by simpa using h1
  rw [this]
theorem map_law : Keyed Tryz.prog 3 := int_keyed Tryz.underlying3
theorem isz : (Tryz.prog.info? 90).map (·.size) = some 3 := by kernel_rfl
set_option maxHeartbeats 4000000 in
theorem arranged_any (l : List Ob) (lv : Value) (base : Int) (w : World) (h : Obs w lv l) (hwf : ∀ o ∈ l, ObF o) : Calls Tryz.prog 44 #[lv, .int .i64 base] w fun e w' => ArrP base l w e w' := by
  obtain ⟨a, c, rfl, hc1, hc2, hrow⟩ := h.shape
  clear h
  have HR := Lib.hid hrow
  have B0 := Lib.hid ((Below.refl _ w).alloc (Nat.le_refl _) (.cells #[.slice none 0 0, .int .i64 0, .map none] 90))
  clear hrow
  by_cases h4 : 4 < l.length
  · have HV := Lib.hid (arrE_3 (base := base) h4)
    have g1 : decide ((4 : Int) < (l.length : Int)) = true := decide_eq_true (by omega)
    go_enter Tryz.func44, Tryz.ntmps44
    go_wp2_with fail
    refine bodyPost_ret (v := .tuple #[.agg #[.slice none 0 0, .int .i64 0, .map none], .int .i64 3]) (Cls.res2 (cs := [.slice none 0 0, .int .i64 0, .map none]) Cls.made rfl rfl rfl Tryz.underlying90 rfl isz) rfl ⟨B0.out, .inl ⟨by rw [HV.out]; decide, by rw [HV.out]⟩⟩
  · have g1 : decide ((4 : Int) < (l.length : Int)) = false := decide_eq_false (by omega)
    have H4 := Lib.hid h4
    obtain ⟨W1, hW1⟩ : ∃ W, w.alloc (.cells #[.slice none 0 0, .int .i64 0, .map none] 90) = W := ⟨_, rfl⟩
    have CR : Hid (Cls W1 w.heap.size [.slice none 0 0, .int .i64 0, .map none]) := by rw [← hW1]; exact Cls.made
    have hs1 : W1.heap.size = w.heap.size + 1 := by rw [← hW1]; simp
    rw [hW1] at B0
    clear h4
    go_enter Tryz.func44, Tryz.ntmps44
    go_wp2_with fail
    clear hW1
    go_loopw [23] (fun i wr => ∃ j : Nat, j ≤ l.length ∧ i = .int .i64 j ∧ Hid (∀ i, i < j → valO (l.getD i default) = 0) ∧ Below W1.heap.size W1 wr) (fun i _ => l.length - (intOf i).toNat)
    case atStart => exact ⟨0, Nat.zero_le _, rfl, (fun i hi => absurd hi (by omega)), Below.refl _ _⟩
    case round =>
      obtain ⟨j, hj, rfl, hno, hb⟩ := hrel
      have HB := Lib.hid hb
      have hbs := hb.size
      have CR1 : Hid (Cls wr w.heap.size [.slice none 0 0, .int .i64 0, .map none]) := CR.out.below (by omega) hb
      have HW : Hid (Below w.heap.size w wr) := below_next B0.out (by omega) hb
      by_cases hjl : j < l.length
      · obtain ⟨b, q, ea, hbl, vb, vs, vt, x0, x1, x2, hx⟩ := oRows HR.out HW.out j hjl
        subst ea
        obtain ⟨ba, cb, rfl, _, _⟩ := hx.1.shape2
        obtain ⟨sa, cs, rfl, _⟩ := hx.2.1.shape
        obtain ⟨ta, ct, rfl, _⟩ := hx.2.2.shape
        generalize hlo : l.getD j default = oj at *
        have HLO := Lib.hid hlo
        clear hlo
        have hv := pVal_any oj _ _ _ (wr.alloc (.cells #[.slice ba oj.b.length cb, .slice sa oj.s.length cs, .slice ta oj.t.length ct] 26)) (hx.stays ((Below.refl _ _).alloc (Nat.le_refl _) _))
        have BX : Hid (Below wr.heap.size wr (wr.alloc (.cells #[.slice ba oj.b.length cb, .slice sa oj.s.length cs, .slice ta oj.t.length ct] 26))) := (Below.refl _ _).alloc (Nat.le_refl _) _
        have C1 := Lib.hid hv
        have hne : ¬ b = wr.heap.size := by omega
        have hlr : w.heap.size < wr.heap.size := by omega
        clear hb hv hx
        cases hz : (valO oj == 0)
        · have hz' : valO oj ≠ 0 := by simpa using hz
          have HV : Hid (arrE base l = valO oj) := by have := arrE_v (base := base) H4.out hno.out hjl (by rw [HLO.out]; exact hz'); rw [HLO.out] at this; exact this
          have HNZ := Lib.hid hz'
          have hbne : (valO oj != 0) = true := by simp [bne, hz]
          clear hz' hz
          generalize valO oj = ev at *
          have BX2 : Hid (∀ w', Below (wr.heap.size + 1) (wr.alloc (.cells #[.slice ba oj.b.length cb, .slice sa oj.s.length cs, .slice ta oj.t.length ct] 26)) w' → Cls w' w.heap.size [.slice none 0 0, .int .i64 0, .map none] ∧ Below w.heap.size w w') := fun w' h' =>
            ⟨(CR1.out.below (by omega) BX.out).below (by omega) h', below_next (below_next HW.out (by omega) BX.out) (by simp; omega) (by rw [World.size_alloc]; exact h')⟩
          clear BX HB HR HW CR1 hwf
          go_wp2_with (go_at_call 13; with_reducible refine C1.out.mono ?_; rintro e w3 ⟨rfl, hb3⟩; obtain ⟨hc3, hw3⟩ := BX2.out w3 (by rw [World.size_alloc] at hb3; exact hb3); obtain ⟨⟨r0, f0⟩, ⟨r1, f1⟩, ⟨r2, f2⟩⟩ := hc3.three; have HC3 := Lib.hid hc3; have HW3 := Lib.hid hw3; clear hc3 hw3 hb3)
          refine bodyPost_ret (v := .tuple #[.agg #[.slice none 0 0, .int .i64 0, .map none], .int .i64 ev]) (Cls.res2 (cs := [.slice none 0 0, .int .i64 0, .map none]) (((HC3.out.set (k := 0) (by simp) _).set (k := 1) (by simp) _).set (k := 2) (by simp) _) rfl rfl rfl Tryz.underlying90 rfl isz) rfl ⟨below_at (below_at (below_at HW3.out (Nat.le_refl _) _ _) (Nat.le_refl _) _ _) (Nat.le_refl _) _ _, .inl ⟨by rw [HV.out]; exact HNZ.out, by rw [HV.out]⟩⟩
        · have hz' : valO oj = 0 := by simpa using hz
          have HN : Hid (∀ i, i < j + 1 → valO (l.getD i default) = 0) := fun i hi => by
            rcases Nat.lt_or_ge i j with h | h
            · exact hno.out i h
            · obtain rfl : i = j := by omega
              rw [HLO.out]; exact hz'
          rw [hz'] at C1
          clear hz hz'
          go_wp2_with (go_at_call 13; with_reducible refine C1.out.mono ?_; rintro e w3 ⟨rfl, hb3⟩)
          go_roundw
          case rel => exact ⟨j + 1, by omega, by go_num, HN.out, below_next (below_next HB.out (by omega) BX.out) (by simp; omega) hb3⟩
          case measure => simp [intOf]; omega
      · obtain rfl : j = l.length := by omega
        have HV0 := Lib.hid hno.out
        obtain ⟨wo, rfl⟩ : ∃ wo : World, wo = wr := ⟨_, rfl⟩
        have hlr : w.heap.size < wo.heap.size := by omega
        obtain ⟨⟨r0, f0⟩, ⟨r1, f1⟩, ⟨r2, f2⟩⟩ := CR1.out.three
        clear hb hbs HB hno CR B0
        by_cases hbad : base < 0 ∨ 32768 < base ∨ base.tmod 4 ≠ 0
        · have HV := Lib.hid (arrE_1 H4.out HV0.out hbad)
          cases d1 : decide (base < 0)
          case true =>
            clear hbad
            go_wp2_with fail
            refine bodyPost_ret (v := .tuple #[.agg #[.slice none 0 0, .int .i64 0, .map none], .int .i64 1]) (Cls.res2 (cs := [.slice none 0 0, .int .i64 0, .map none]) (((CR1.out.set (k := 0) (by simp) _).set (k := 1) (by simp) _).set (k := 2) (by simp) _) rfl rfl rfl Tryz.underlying90 rfl isz) rfl ⟨below_at (below_at (below_at HW.out (Nat.le_refl _) _ _) (Nat.le_refl _) _ _) (Nat.le_refl _) _ _, .inl ⟨by rw [HV.out]; decide, by rw [HV.out]⟩⟩
          cases d2 : decide (32768 < base)
          case true =>
            clear hbad
            go_wp2_with fail
            refine bodyPost_ret (v := .tuple #[.agg #[.slice none 0 0, .int .i64 0, .map none], .int .i64 1]) (Cls.res2 (cs := [.slice none 0 0, .int .i64 0, .map none]) (((CR1.out.set (k := 0) (by simp) _).set (k := 1) (by simp) _).set (k := 2) (by simp) _) rfl rfl rfl Tryz.underlying90 rfl isz) rfl ⟨below_at (below_at (below_at HW.out (Nat.le_refl _) _ _) (Nat.le_refl _) _ _) (Nat.le_refl _) _ _, .inl ⟨by rw [HV.out]; decide, by rw [HV.out]⟩⟩
          have b0 : 0 ≤ base := by have := of_decide_eq_false d1; omega
          have b1 : base ≤ 32768 := by have := of_decide_eq_false d2; omega
          have d3 : (base % 4 != 0) = true := by
            rw [Int.tmod_eq_emod_of_nonneg b0] at hbad
            rcases hbad with h | h | h
            · omega
            · omega
            · simpa using h
          clear hbad
          go_wp2_with fail
          refine bodyPost_ret (v := .tuple #[.agg #[.slice none 0 0, .int .i64 0, .map none], .int .i64 1]) (Cls.res2 (cs := [.slice none 0 0, .int .i64 0, .map none]) (((CR1.out.set (k := 0) (by simp) _).set (k := 1) (by simp) _).set (k := 2) (by simp) _) rfl rfl rfl Tryz.underlying90 rfl isz) rfl ⟨below_at (below_at (below_at HW.out (Nat.le_refl _) _ _) (Nat.le_refl _) _ _) (Nat.le_refl _) _ _, .inl ⟨by rw [HV.out]; decide, by rw [HV.out]⟩⟩
        · have HG := Lib.hid hbad
          have b0 : 0 ≤ base := by omega
          have b1 : base ≤ 32768 := by omega
          have hm4 : base.tmod 4 = 0 := by
            by_cases h : base.tmod 4 = 0
            · exact h
            · exact absurd (.inr (.inr h)) hbad
          have HM4 := Lib.hid hm4
          have d1 : decide (base < 0) = false := decide_eq_false (by omega)
          have d2 : decide (32768 < base) = false := decide_eq_false (by omega)
          have d3 : (base % 4 != 0) = false := by rw [← Int.tmod_eq_emod_of_nonneg b0, hm4]; rfl
          obtain ⟨hmk⟩ : Nonempty (∀ w : World, (Instr.makeMap 88 none).run Tryz.prog w = .ok (.map (some w.heap.size)) (w.alloc (.map #[] 0))) := ⟨fun _ => by kernel_rfl⟩
          clear hbad hm4
          have A0 : Hid (ArS w w.heap.size wo.heap.size (wo.heap.size + 1) ⟨[], 0, []⟩ ((wo.alloc (.map #[] 0)).alloc (.cells #[.slice none 0 0, .int .i64 0, .map (some wo.heap.size)] 90))) := by
            have e1 : (wo.alloc (.map #[] 0)).heap.size = wo.heap.size + 1 := by simp
            refine ⟨(HW.out.alloc (by omega) _).alloc (by simp; omega) _, ⟨rfl, hlr, by omega, by simp⟩, ?_, ⟨.slice none 0 0, ?_, RowI.nil _ _ _ _⟩, ?_⟩
            · exact (CR1.out.below (by omega) ((Below.refl wo.heap.size wo).alloc (Nat.le_refl _) _)).below (B := wo.heap.size + 1) (by omega) ((Below.refl _ _).alloc (by simp) _)
            · have := Cls.made (w := wo.alloc (.map #[] 0)) (cs := [.slice none 0 0, .int .i64 0, .map (some wo.heap.size)]) (t := 90)
              rw [e1] at this
              exact this
            · exact (MapIs.made (P := Tryz.prog) (K := 3) (w := wo)).below ((Below.refl _ _).alloc (Nat.le_refl _) _)
          go_wp2_with fail
          clear hmk r0 r1 r2 f0 f1 f2
          generalize hM : wo.heap.size = M at *
          go_loopw [50] (fun i wr => ∃ (j : Nat) (st : Im), j ≤ l.length ∧ i = .int .i64 j ∧ Hid (arrL base (l.take j) = some st) ∧ ArS w w.heap.size M (M + 1) st wr) (fun i _ => l.length - (intOf i).toNat)
          case atStart => exact ⟨0, ⟨[], 0, []⟩, Nat.zero_le _, rfl, rfl, A0.out⟩
          case round =>
            obtain ⟨j, st, hj, rfl, hst, hA⟩ := hrel
            have HA := Lib.hid hA
            by_cases hjl : j < l.length
            · obtain ⟨b, q, ea, hbl, hxo⟩ := HR.out j hjl
              subst ea
              obtain ⟨vb, vs, vt, y0, y1, y2, hx⟩ := hxo
              obtain ⟨ba, cb, rfl, _, _⟩ := hx.1.shape2
              obtain ⟨sa, cs, rfl, hs1, hs2, hs3⟩ := hx.2.1.shape
              obtain ⟨ta, ct, rfl, _⟩ := hx.2.2.shape
              have x0 := below_cell hA.keep hbl y0
              have x1 := below_cell hA.keep hbl y1
              have x2 := below_cell hA.keep hbl y2
              clear y0 y1 y2
              have hstep := arrL_step (base := base) hjl hst.out
              have hov := HV0.out j hjl
              generalize hlo : l.getD j default = oj at *
              have hbz : oj.b.length ≤ 8192 ∧ oj.s.length ≤ 64 := by
                by_cases g : 8192 < oj.b.length ∨ 64 < oj.s.length ∨ 64 < oj.t.length
                · rw [valO_3 g] at hov; omega
                · omega
              have hsz := arrL_size (base := base) (l := l) (j := j) (st := st) (fun o ho => by
                obtain ⟨i, hi, rfl⟩ := List.getElem_of_mem ho
                have h0 := HV0.out i hi
                rw [List.getD_eq_getElem?_getD, List.getElem?_eq_getElem hi] at h0
                by_cases g : 8192 < l[i].b.length ∨ 64 < l[i].s.length ∨ 64 < l[i].t.length
                · have : valO l[i] = 3 := valO_3 g
                  simp at h0; omega
                · omega) hj hst.out
              obtain ⟨z0, z1, hpl⟩ := hsz
              have h4' := H4.out
              have z2 : st.z ≤ 40000 := by omega
              have hz3 : Hid (nextAt st.z = (st.z + 3) / 4 * 4) := rfl
              have hat : 0 ≤ (st.z + 3) / 4 * 4 ∧ (st.z + 3) / 4 * 4 ≤ 50000 := by omega
              obtain ⟨o1, o2, o3, o4⟩ := hA.o
              obtain ⟨v, hi, hrow⟩ := hA.i
              obtain ⟨⟨i0, j0⟩, ⟨i1, j1⟩, ⟨i2, j2⟩⟩ := hi.three
              have hlt := hrow.shape
              have hne : ¬ M + 1 = wr.heap.size := by omega
              have hne2 : ¬ b = wr.heap.size := by omega
              have hnb : ¬ b = M + 1 := by omega
              have hwr : w.heap.size ≤ wr.heap.size := hA.keep.size
              obtain ⟨Wb, hWb⟩ : ∃ W, wr.alloc (.cells #[.slice ba oj.b.length cb, .slice sa oj.s.length cs, .slice ta oj.t.length ct] 26) = W := ⟨_, rfl⟩
              have BB : Hid (Below wr.heap.size wr Wb) := by rw [← hWb]; exact (Below.refl _ _).alloc (Nat.le_refl _) _
              have c0 : Wb.cell? ⟨wr.heap.size, 0, none⟩ = some (.slice ba oj.b.length cb) := by rw [← hWb]; simp [go_sem]
              have c1 : Wb.cell? ⟨wr.heap.size, 1, none⟩ = some (.slice sa oj.s.length cs) := by rw [← hWb]; simp [go_sem]
              have hsb : Wb.heap.size = wr.heap.size + 1 := by rw [← hWb]; simp
              have HAB : Hid (ArS w w.heap.size M (M + 1) st Wb) := hA.below BB.out
              have HRB : Hid (RowI Wb (M + 1 + 1) 3 .i64 v st.p) := hrow.below BB.out
              have hown : Hid (∀ k, v.ownBlock = some k → k < wr.heap.size) := fun k hk => (World.ownsRow.lt hrow k hk).2
              obtain ⟨va, vc, rfl⟩ := hlt
              have i0b := below_cell BB.out (by omega) i0
              have i1b := below_cell BB.out (by omega) i1
              have HS3 := Lib.hid hs3
              have HOV := Lib.hid hov
              have HST := Lib.hid hstep
              clear hA hi hrow hx hs3 hov hstep
              go_upto_region 17 with fail
              generalize hAT : (st.z + 3) / 4 * 4 = AT at *
              have hpl2 : st.p.length ≤ 1000 := by omega
              have HPL := Lib.hid hpl
              have hlWb : wr.heap.size < Wb.heap.size := by omega
              have HSB := Lib.hid hsb
              clear hpl hsb
              have hgc : (Wb.alloc (.cells #[.int .i64 AT] 3)).cell? ⟨Wb.heap.size, 0, none⟩ = some (.int .i64 AT) := by simp [go_sem]
              have HRB2 : Hid (RowI (Wb.alloc (.cells #[.int .i64 AT] 3)) (M + 1 + 1) 3 .i64 (.slice va st.p.length vc) st.p) := HRB.out.below ((Below.refl _ _).alloc (Nat.le_refl _) _)
              have HK : Hid (∀ v' w4, RowI w4 (M + 1 + 1) 3 .i64 v' (st.p ++ [AT]) → Below (M + 1 + 1) (Wb.alloc (.cells #[.int .i64 AT] 3)) w4 → (Wb.alloc (.cells #[.int .i64 AT] 3)).grownBy w4 (Value.slice va st.p.length vc).ownBlock →
                  ArS w w.heap.size M (M + 1) ⟨st.p ++ [AT], st.z, st.m⟩ (w4.setCell ⟨M + 1, 0, none⟩ v') ∧ (w4.cell? ⟨M + 1, 0, none⟩ = some (.slice va st.p.length vc) ∧ w4.frozen? ⟨M + 1, 0, none⟩ = false) ∧ (w4.cell? ⟨M + 1, 1, none⟩ = some (.int .i64 st.z) ∧ w4.frozen? ⟨M + 1, 1, none⟩ = false) ∧
                  w4.cell? ⟨wr.heap.size, 0, none⟩ = some (.slice ba oj.b.length cb) ∧ w4.cell? ⟨wr.heap.size, 1, none⟩ = some (.slice sa oj.s.length cs) ∧ wr.heap.size < w4.heap.size) := fun v' w4 hr4 hb4 hg4 => by
                have hA2 := HAB.out.below ((Below.refl Wb.heap.size Wb).alloc (Nat.le_refl _) (.cells #[.int .i64 AT] 3))
                obtain ⟨v3, hi3, _⟩ := hA2.i
                have hsb := HSB.out
                have hno : some wr.heap.size ≠ (Value.slice va st.p.length vc).ownBlock := fun e => by have := hown.out _ e.symm; omega
                have hlt : wr.heap.size < Wb.heap.size := by omega
                have hBe := (Below.refl Wb.heap.size Wb).alloc (Nat.le_refl _) (.cells #[.int .i64 AT] 3)
                have e0 : (Wb.alloc (.cells #[.int .i64 AT] 3)).cell? ⟨M + 1, 0, none⟩ = some (.slice va st.p.length vc) := below_cell hBe (by omega) i0b
                have hi4 := hi3.below (B := M + 1 + 1) (by omega) hb4
                have e1 := (hi3.three).1.1
                rw [e0] at e1
                cases e1
                have hs4 := hb4.size
                exact ⟨hA2.app hb4 hr4, hi4.three.1, hi4.three.2.1, hg4.cell (below_cell hBe hlt c0) hno, hg4.cell (below_cell hBe hlt c1) hno, by have := hg4.size; simp at this; omega⟩
              clear i0 i1 i2 j0 j1 j2 i1b c0 c1 HAB HRB BB hown
              have hbl2 : oj.b.length ≤ 8192 := hbz.1
              go_wp2_with (at_builtin; refine app_int rfl _ _ rfl (M + 1 + 1) _ st.p rfl HRB2.out Wb.heap.size _ AT rfl hgc (by omega) (by simp; omega) (fun v' w4 hr4 hb4 hg4 => ?_); obtain ⟨va4, vc4, rfl⟩ := hr4.shape; obtain ⟨A5, ⟨k0, g0⟩, ⟨k1, g1⟩, d0, d1, hl4⟩ := HK.out _ w4 hr4 hb4 hg4; simp only [List.length_append, List.length_cons, List.length_nil, Nat.zero_add] at A5; have A6 := Lib.hid A5; clear A5 hr4 hb4 hg4 HRB2 hgc)
              have hA7 := A6.out.size (AT + oj.b.length)
              clear A6 k0 g0 k1 g1 d0 d1 i0b HK
              generalize (w4.setCell ⟨M + 1, 0, none⟩ (.slice va4 (st.p.length + 1) vc4)).setCell ⟨M + 1, 1, none⟩ (.int .i64 (AT + oj.b.length)) = W7 at *
              obtain ⟨wz, rfl⟩ : ∃ wz : World, wz = wr := ⟨_, rfl⟩
              go_loopw [74] (fun i wr => ∃ (k : Nat) (ms : List (Int × Int)), k ≤ oj.s.length ∧ i = .int .i64 k ∧ Hid (addS (base + AT) (oj.s.take k) st.m = some ms) ∧ ArS w w.heap.size M (M + 1) ⟨st.p ++ [AT], AT + oj.b.length, ms⟩ wr) (fun i _ => oj.s.length - (intOf i).toNat)
              case atStart => exact ⟨0, st.m, Nat.zero_le _, rfl, rfl, hA7⟩
              case round =>
                obtain ⟨k, ms, hk, rfl, hms, hA⟩ := hrel
                have HAk := Lib.hid hA
                by_cases hkl : k < oj.s.length
                · obtain ⟨b', q', ea, hbl', u0, u1⟩ := sRows HS3.out hA.keep k hkl
                  subst ea
                  have hyb := sym_ok HOV.out _ (mem_getD' hkl)
                  generalize hy : oj.s.getD k default = y at *
                  have HY := Lib.hid hy
                  clear hy
                  obtain ⟨yn, ya⟩ := y
                  simp only at u0 u1 hyb
                  obtain ⟨⟨hn1, hn2⟩, ha1, ha2⟩ := hyb
                  have hne3 : ¬ b' = wr.heap.size := by omega
                  obtain ⟨Wb, hWb⟩ : ∃ W, wr.alloc (.cells #[.int .i64 yn, .int .i64 ya] 41) = W := ⟨_, rfl⟩
                  have BB : Hid (Below wr.heap.size wr Wb) := by rw [← hWb]; exact (Below.refl _ _).alloc (Nat.le_refl _) _
                  have v0 : Wb.cell? ⟨wr.heap.size, 0, none⟩ = some (.int .i64 yn) := by rw [← hWb]; simp [go_sem]
                  have v1 : Wb.cell? ⟨wr.heap.size, 1, none⟩ = some (.int .i64 ya) := by rw [← hWb]; simp [go_sem]
                  have hAb := hA.below BB.out
                  have HAB : Hid (ArS w w.heap.size M (M + 1) ⟨st.p ++ [AT], AT + oj.b.length, ms⟩ Wb) := hAb
                  obtain ⟨vv, hi, -⟩ := hAb.i
                  have i2 := hi.three.2.2.1
                  obtain ⟨⟨r0, f0⟩, ⟨r1, f1⟩, ⟨r2, f2⟩⟩ := hAb.r.three
                  have hMl := hAb.m.1
                  obtain ⟨o1', o2', o3', o4'⟩ := hAb.o
                  have hkey := key_int (n := yn) ⟨by omega, by omega⟩
                  cases hf : ms.any (fun q => q.1 == yn)
                  · have hlk := lookup_miss map_law Tryz.underlying88 (z := .int .i64 0) (fun w => by kernel_rfl) hAb.m hkey (symE_new hf)
                    have hup := update_new map_law Tryz.underlying88 hAb.m (v := .int .i64 (base + AT + ya)) hkey (symE_new hf)
                    have HPUT := Lib.hid (HAB.out.put yn (base + AT + ya) ⟨by omega, by omega⟩ hf)
                    have HN : Hid (addS (base + AT) (oj.s.take (k + 1)) st.m = some (ms ++ [(yn, base + AT + ya)])) := by
                      have e1 := addS_step hkl hms.out
                      rw [HY.out] at e1
                      simp only [hf] at e1
                      exact e1
                    clear hf hA hAb hi hkey
                    go_wp2_with fail
                    go_roundw
                    case rel => exact ⟨k + 1, ms ++ [(yn, base + AT + ya)], by omega, by go_num, HN.out, HPUT.out⟩
                    case measure => simp [intOf]; omega
                  · obtain ⟨a', hm'⟩ := symE_hit hf
                    have hlk := lookup_hit map_law Tryz.underlying88 hAb.m hkey hm'
                    have HV : Hid (arrE base l = 7) := by
                      have e1 := addS_step hkl hms.out
                      rw [HY.out] at e1
                      simp only [hf, if_true] at e1
                      have e2 := addS_none e1
                      have e3 := HST.out
                      unfold putO at e3
                      rw [hz3.out, e2] at e3
                      exact arrE_7 H4.out HV0.out HG.out (arrL_none e3)
                    clear hf hA hAb hi hkey
                    go_wp2_with fail
                    refine bodyPost_ret (v := .tuple #[.agg #[.slice none 0 0, .int .i64 0, .map none], .int .i64 7]) (Cls.res2 (cs := [.slice none 0 0, .int .i64 0, .map none]) (((HAB.out.r.set (k := 0) (by simp) _).set (k := 1) (by simp) _).set (k := 2) (by simp) _) rfl rfl rfl Tryz.underlying90 rfl isz) rfl ⟨below_at (below_at (below_at HAB.out.keep (Nat.le_refl _) _ _) (Nat.le_refl _) _ _) (Nat.le_refl _) _ _, .inl ⟨by rw [HV.out]; decide, by rw [HV.out]⟩⟩
                · obtain rfl : k = oj.s.length := by omega
                  have HN : Hid (arrL base (l.take (j + 1)) = some ⟨st.p ++ [AT], AT + oj.b.length, ms⟩) := by
                    have e1 := hms.out
                    rw [List.take_length] at e1
                    have e3 := HST.out
                    unfold putO at e3
                    rw [hz3.out, e1] at e3
                    exact e3
                  clear hA
                  go_wp2_with fail
                  go_roundw
                  case rel => exact ⟨j + 1, ⟨st.p ++ [AT], AT + oj.b.length, ms⟩, by omega, by go_num, HN.out, HAk.out⟩
                  case measure => simp [intOf]; omega
            · obtain rfl : j = l.length := by omega
              have HST : Hid (arrL base l = some st) := by have := hst.out; rwa [List.take_length] at this
              have HV : Hid (arrE base l = 0) := arrE_0 H4.out HV0.out HG.out HST.out
              obtain ⟨o1, o2, o3, o4⟩ := hA.o
              obtain ⟨v, hi, hrow⟩ := hA.i
              obtain ⟨⟨i0, j0⟩, ⟨i1, j1⟩, ⟨i2, j2⟩⟩ := hi.three
              obtain ⟨⟨r0, f0⟩, ⟨r1, f1⟩, ⟨r2, f2⟩⟩ := hA.r.three
              have HRow := Lib.hid hrow
              obtain ⟨va, vc, rfl⟩ := hrow.shape
              have hpl : Hid (st.p.length ≤ 140737488351232) := by
                have := (arrL_size (base := base) (l := l) (j := l.length) (st := st) (fun o ho => by
                  obtain ⟨i, hi, rfl⟩ := List.getElem_of_mem ho
                  have h0 := HV0.out i hi
                  rw [List.getD_eq_getElem?_getD, List.getElem?_eq_getElem hi] at h0
                  by_cases g : 8192 < l[i].b.length ∨ 64 < l[i].s.length ∨ 64 < l[i].t.length
                  · have : valO l[i] = 3 := valO_3 g
                    simp at h0; omega
                  · omega) (Nat.le_refl _) (by rw [List.take_length]; exact HST.out)).2.2
                show _ ≤ _
                omega
              have hRM : ¬ w.heap.size = M + 1 := by omega
              clear hA hi hrow
              go_wp2_with fail
              refine bodyPost_ret (v := .tuple #[.agg #[.slice va st.p.length vc, .int .i64 st.z, .map (some M)], .int .i64 0]) (Cls.res2 (cs := [.slice va st.p.length vc, .int .i64 st.z, .map (some M)]) (((HA.out.r.set (k := 0) (by simp) _).set (k := 1) (by simp) _).set (k := 2) (by simp) _) rfl rfl rfl Tryz.underlying90 rfl isz) rfl ⟨below_at (below_at (below_at HA.out.keep (Nat.le_refl _) _ _) (Nat.le_refl _) _ _) (Nat.le_refl _) _ _, .inr ⟨HV.out, st, .slice va st.p.length vc, M, HST.out, rfl, ?_, ?_⟩⟩
              · refine RowI.ints (base := M + 1 + 1) (e := 3) ?_ hpl.out
                refine ownsRow_block HRow.out fun k hk => ?_
                rw [Below.heap_setCell _ ⟨w.heap.size, 2, none⟩ _ k (by show k ≠ w.heap.size; omega), Below.heap_setCell _ ⟨w.heap.size, 1, none⟩ _ k (by show k ≠ w.heap.size; omega), Below.heap_setCell _ ⟨w.heap.size, 0, none⟩ _ k (by show k ≠ w.heap.size; omega)]
              · exact ((HA.out.m.set (by omega)).set (by omega)).set (by omega)
theorem by_contra_tm {base : Int} (h : ¬ (base < 0 ∨ 32768 < base ∨ base.tmod 4 ≠ 0)) : base.tmod 4 = 0 := by
  by_cases e : base.tmod 4 = 0
  · exact e
  · exact absurd (.inr (.inr e)) h
theorem arrE_zero {base : Int} {l : List Ob} (h : arrE base l = 0) : ∃ st, arrL base l = some st ∧ l.length ≤ 4 ∧ (∀ o ∈ l, valO o = 0) ∧ 0 ≤ base ∧ base ≤ 32768 ∧ base.tmod 4 = 0 := by
  unfold arrE at h
  by_cases h1 : 4 < l.length
  · rw [if_pos h1] at h; cases h
  · rw [if_neg h1] at h
    by_cases h2 : firstE l ≠ 0
    · rw [if_pos h2] at h; exact absurd h h2
    · rw [if_neg h2] at h
      by_cases h3 : base < 0 ∨ 32768 < base ∨ base.tmod 4 ≠ 0
      · rw [if_pos h3] at h; cases h
      · rw [if_neg h3] at h
        cases h4 : arrL base l with
        | none => rw [h4] at h; cases h
        | some st => exact ⟨st, rfl, by omega, firstE_zero (by omega), by omega, by omega, by_contra_tm h3⟩
theorem val_len {o : Ob} (h : valO o = 0) : o.b.length ≤ 8192 ∧ o.s.length ≤ 64 ∧ o.t.length ≤ 64 := by
  by_cases g : 8192 < o.b.length ∨ 64 < o.s.length ∨ 64 < o.t.length
  · rw [valO_3 g] at h; omega
  · omega
theorem arrL_bd {base : Int} {l : List Ob} {st : Im} (hl : l.length ≤ 4) (hv : ∀ o ∈ l, valO o = 0) (h : arrL base l = some st) : 0 ≤ st.z ∧ st.z ≤ 32784 ∧ st.p.length = l.length := by
  have := arrL_size (base := base) (l := l) (j := l.length) (st := st) (fun o ho => (val_len (hv o ho)).1) (Nat.le_refl _) (by rw [List.take_length]; exact h)
  omega
theorem arranged_ok {l : List Ob} {lv : Value} {base : Int} {w : World} {st : Im} (h : Obs w lv l) (hwf : ∀ o ∈ l, ObF o) (hE : arrE base l = 0) (hst : arrL base l = some st) : Calls Tryz.prog 44 #[lv, .int .i64 base] w fun e w' =>
    ∃ va vc M, e = .returned (.tuple #[.agg #[.slice va st.p.length vc, .int .i64 st.z, .map (some M)], .int .i64 0]) ∧ Ints .i64 w' (.slice va st.p.length vc) st.p ∧ MapIs Tryz.prog 3 w' M (symE st.m) ∧ Below w.heap.size w w' := by
  refine (arranged_any l lv base w h hwf).mono fun e w' ⟨hb, hc⟩ => ?_
  rcases hc with ⟨h1, _⟩ | ⟨_, st', v, M, h1, rfl, h2, h3⟩
  · exact absurd hE h1
  · rw [hst] at h1
    cases h1
    obtain ⟨va, vc, rfl, _⟩ := h2.shape2
    exact ⟨va, vc, M, rfl, h2, h3, hb⟩
theorem arranged_no {l : List Ob} {lv : Value} {base : Int} {w : World} (h : Obs w lv l) (hwf : ∀ o ∈ l, ObF o) (hE : arrE base l ≠ 0) : Calls Tryz.prog 44 #[lv, .int .i64 base] w fun e w' =>
    e = .returned (.tuple #[.agg #[.slice none 0 0, .int .i64 0, .map none], .int .i64 (arrE base l)]) ∧ Below w.heap.size w w' := by
  refine (arranged_any l lv base w h hwf).mono fun e w' ⟨hb, hc⟩ => ?_
  rcases hc with ⟨_, h1⟩ | ⟨h1, _⟩
  · exact ⟨h1, hb⟩
  · exact absurd h1 hE
def lookM (m : List (Int × Int)) (n : Int) : Option Int := (m.find? fun q => q.1 == n).map (·.2)
def findP (base : Int) (l : List Ob) (n : Int) : Int × Bool × Int :=
  if arrE base l ≠ 0 then (0, false, arrE base l)
  else match arrL base l with
    | none => (0, false, 0)
    | some st => if 32768 < base + st.z then (0, false, 3) else match lookM st.m n with | some a => (a, true, (0 : Int)) | none => (0, false, (0 : Int))
theorem lookM_some {m : List (Int × Int)} {n a : Int} (h : lookM m n = some a) : (Value.int .i64 n, Value.int .i64 a) ∈ symE m := by
  unfold lookM at h
  cases hf : m.find? (fun q => q.1 == n) with
  | none => rw [hf] at h; cases h
  | some q =>
    rw [hf] at h
    cases h
    have h1 := List.find?_some hf
    have h2 := List.mem_of_find?_eq_some hf
    refine List.mem_map.2 ⟨q, h2, ?_⟩
    have : q.1 = n := by simpa using h1
    rw [this]
theorem lookM_none {m : List (Int × Int)} {n : Int} (h : lookM m n = none) : m.any (fun q => q.1 == n) = false := by
  unfold lookM at h
  cases hf : m.find? (fun q => q.1 == n) with
  | some q => rw [hf] at h; cases h
  | none =>
    rw [List.find?_eq_none] at hf
    exact List.any_eq_false.2 fun q hq => by simpa using hf q hq
set_option maxHeartbeats 2000000 in
theorem pFind_any (l : List Ob) (lv : Value) (base n : Int) (w : World) (h : Obs w lv l) (hwf : ∀ o ∈ l, ObF o) (hn : I64n n) : Calls Tryz.prog 18 #[lv, .int .i64 base, .int .i64 n] w fun e w' =>
    e = .returned (.tuple #[.int .i64 (findP base l n).1, .bool (findP base l n).2.1, .int .i64 (findP base l n).2.2]) ∧ Below w.heap.size w w' := by
  by_cases hE : arrE base l = 0
  · obtain ⟨st, hst, hl4, hv, hb0, hb1, hb4⟩ := arrE_zero hE
    obtain ⟨z0, z1, -⟩ := arrL_bd hl4 hv hst
    have C := Lib.hid (arranged_ok h hwf hE hst)
    have HP : Hid (findP base l n = if 32768 < base + st.z then ((0 : Int), false, (3 : Int)) else match lookM st.m n with | some a => (a, true, (0 : Int)) | none => (0, false, (0 : Int))) := by
      show _ = _
      unfold findP
      rw [if_neg (by simpa using hE), hst]
    have hkey := key_int hn
    clear h hwf hE hst hv
    cases g : decide (32768 < base + st.z)
    case true =>
      have g' := of_decide_eq_true g
      have HQ : Hid (findP base l n = (0, false, 3)) := by show _ = _; rw [HP.out, if_pos g']
      go_enter Tryz.func18, Tryz.ntmps18
      go_wp2_with (go_at_call 44; with_reducible refine C.out.mono ?_; rintro e w1 ⟨va, vc, M, rfl, hi, hm, hb⟩; have HB := Lib.hid (hb.alloc hb.size (.cells #[.slice va st.p.length vc, .int .i64 st.z, .map (some M)] 90)); clear hi hm hb)
      refine bodyPost_ret (v := .tuple #[.int .i64 0, .bool false, .int .i64 3]) (by simp [results, Tryz.results18, go_sem]) rfl ⟨by rw [HQ.out], HB.out⟩
    case false =>
      have g' := of_decide_eq_false g
      cases hk : lookM st.m n with
      | none =>
        have HQ : Hid (findP base l n = (0, false, 0)) := by show _ = _; rw [HP.out, if_neg g', hk]
        have hmiss := symE_new (lookM_none hk)
        clear hk
        go_enter Tryz.func18, Tryz.ntmps18
        go_wp2_with (go_at_call 44; with_reducible refine C.out.mono ?_; rintro e w1 ⟨va, vc, M, rfl, hi, hm, hb⟩; have HB := Lib.hid (hb.alloc hb.size (.cells #[.slice va st.p.length vc, .int .i64 st.z, .map (some M)] 90)); have hlk := lookup_miss map_law Tryz.underlying88 (z := .int .i64 0) (fun w => by kernel_rfl) (hm.below ((Below.refl _ _).alloc (Nat.le_refl _) (.cells #[.slice va st.p.length vc, .int .i64 st.z, .map (some M)] 90))) hkey hmiss; clear hi hm hb hmiss)
        refine bodyPost_ret (v := .tuple #[.int .i64 0, .bool false, .int .i64 0]) (by simp [results, Tryz.results18, go_sem]) rfl ⟨by rw [HQ.out], HB.out⟩
      | some a =>
        have HQ : Hid (findP base l n = (a, true, 0)) := by show _ = _; rw [HP.out, if_neg g', hk]
        have hhit := lookM_some hk
        clear hk
        go_enter Tryz.func18, Tryz.ntmps18
        go_wp2_with (go_at_call 44; with_reducible refine C.out.mono ?_; rintro e w1 ⟨va, vc, M, rfl, hi, hm, hb⟩; have HB := Lib.hid (hb.alloc hb.size (.cells #[.slice va st.p.length vc, .int .i64 st.z, .map (some M)] 90)); have hlk := lookup_hit map_law Tryz.underlying88 (hm.below ((Below.refl _ _).alloc (Nat.le_refl _) (.cells #[.slice va st.p.length vc, .int .i64 st.z, .map (some M)] 90))) hkey hhit; clear hi hm hb hhit)
        refine bodyPost_ret (v := .tuple #[.int .i64 a, .bool true, .int .i64 0]) (by simp [results, Tryz.results18, go_sem]) rfl ⟨by rw [HQ.out], HB.out⟩
  · have C := Lib.hid (arranged_no h hwf hE)
    have HQ : Hid (findP base l n = (0, false, arrE base l)) := if_pos hE
    have hne : (arrE base l != 0) = true := by simpa [bne] using hE
    clear h hwf hE
    generalize arrE base l = ev at *
    go_enter Tryz.func18, Tryz.ntmps18
    go_wp2_with (go_at_call 44; with_reducible refine C.out.mono ?_; rintro e w1 ⟨rfl, hb⟩; have HB := Lib.hid (hb.alloc hb.size (.cells #[.slice none 0 0, .int .i64 0, .map none] 90)); clear hb)
    refine bodyPost_ret (v := .tuple #[.int .i64 0, .bool false, .int .i64 ev]) (by simp [results, Tryz.results18, go_sem]) rfl ⟨by rw [HQ.out], HB.out⟩
def setL (out : List Int) (q : Nat) : List Int → List Int
  | [] => out
  | b :: l => setL (out.set q b) (q + 1) l
theorem setL_length : ∀ (l out : List Int) (q : Nat), (setL out q l).length = out.length
  | [], _, _ => rfl
  | b :: l, out, q => by rw [setL, setL_length l]; simp
theorem setL_snoc : ∀ (l out : List Int) (q : Nat) (b : Int), setL out q (l ++ [b]) = (setL out q l).set (q + l.length) b
  | [], out, q, b => rfl
  | x :: l, out, q, b => by
    rw [List.cons_append, setL, setL_snoc l, setL, List.length_cons]
    congr 1
    omega
def by4 (n : Int) (k : Nat) : Int := n / 2 ^ (8 * k) % 256
def setK (out : List Int) (q : Nat) (n : Int) : Nat → List Int
  | 0 => out
  | c + 1 => (setK out q n c).set (q + c) (by4 n c)
theorem setK_length (out : List Int) (q : Nat) (n : Int) : ∀ c, (setK out q n c).length = out.length
  | 0 => rfl
  | c + 1 => by rw [setK, List.length_set, setK_length out q n c]
def setW4 (out : List Int) (q : Nat) (n : Int) : List Int := setK out q n 4
theorem setW4_length (out : List Int) (q : Nat) (n : Int) : (setW4 out q n).length = out.length := setK_length out q n 4
def wantN (base : Int) (m : List (Int × Int)) (p : Int) (x : Wn) : Int := if x.k = 1 then (lookM m x.n).getD 0 + x.p - (base + (p + x.a) + 4) else (lookM m x.n).getD 0 + x.p
def wantsL (base : Int) (m : List (Int × Int)) (p : Int) (out : List Int) (t : List Wn) : List Int := t.foldl (fun out x => setW4 out (p + x.a).toNat (wantN base m p x)) out
theorem wantsL_length (base : Int) (m : List (Int × Int)) (p : Int) : ∀ (t : List Wn) (out : List Int), (wantsL base m p out t).length = out.length
  | [], _ => rfl
  | x :: t, out => by
    have := wantsL_length base m p t (setW4 out (p + x.a).toNat (wantN base m p x))
    unfold wantsL at this ⊢
    rw [List.foldl_cons, this, setW4_length]
theorem wantsL_step {base : Int} {m : List (Int × Int)} {p : Int} {out : List Int} {t : List Wn} {k : Nat} (hk : k < t.length) : wantsL base m p out (t.take (k + 1)) = setW4 (wantsL base m p out (t.take k)) (p + (t.getD k default).a).toNat (wantN base m p (t.getD k default)) := by
  unfold wantsL
  rw [List.take_succ_eq_append_getElem hk, List.foldl_append, List.getD_eq_getElem?_getD, List.getElem?_eq_getElem hk]; rfl
def objL (base : Int) (m : List (Int × Int)) (p : Int) (out : List Int) (o : Ob) : List Int := wantsL base m p (setL out p.toNat o.b) o.t
def linkJ (base : Int) (l : List Ob) (st : Im) (j : Nat) : List Int := (List.range j).foldl (fun out i => objL base st.m (st.p.getD i 0) out (l.getD i default)) (List.replicate st.z.toNat 0)
theorem linkJ_step (base : Int) (l : List Ob) (st : Im) (j : Nat) : linkJ base l st (j + 1) = objL base st.m (st.p.getD j 0) (linkJ base l st j) (l.getD j default) := by
  unfold linkJ
  rw [List.range_succ, List.foldl_append]; rfl
theorem linkJ_length (base : Int) (l : List Ob) (st : Im) : ∀ j, (linkJ base l st j).length = st.z.toNat
  | 0 => by simp [linkJ]
  | j + 1 => by rw [linkJ_step, objL, wantsL_length, setL_length, linkJ_length base l st j]
def missB (l : List Ob) (m : List (Int × Int)) (j : Nat) : Bool := (l.take j).any fun o => o.t.any fun x => (lookM m x.n).isNone
def linkE (base : Int) (l : List Ob) : Int :=
  if arrE base l ≠ 0 then arrE base l
  else match arrL base l with
    | none => 0
    | some st => if missB l st.m l.length then 4 else if 32768 < base + st.z then 3 else 0
theorem missB_some {l : List Ob} {m : List (Int × Int)} (h : missB l m l.length = false) {j k : Nat} (hj : j < l.length) (hk : k < (l.getD j default).t.length) : ∃ a, lookM m ((l.getD j default).t.getD k default).n = some a := by
  unfold missB at h
  rw [List.take_length] at h
  have h1 := List.any_eq_false.1 h _ (mem_getD' hj)
  have h2 := List.any_eq_false.1 (Bool.not_eq_true _ ▸ h1 : (l.getD j default).t.any (fun x => (lookM m x.n).isNone) = false) _ (mem_getD' hk)
  cases e : lookM m ((l.getD j default).t.getD k default).n with
  | some a => exact ⟨a, rfl⟩
  | none => rw [e] at h2; simp at h2
theorem addS_vals {c z : Int} : ∀ {s : List Sy} {m0 m : List (Int × Int)}, (∀ y ∈ s, 0 ≤ y.a ∧ y.a ≤ z) → addS c s m0 = some m → ∀ q ∈ m, q ∈ m0 ∨ c ≤ q.2 ∧ q.2 ≤ c + z
  | [], m0, m, _, h, q, hq => by simp [addS] at h; subst h; exact .inl hq
  | y :: s, m0, m, hy, h, q, hq => by
    unfold addS at h
    rw [List.foldlM_cons] at h
    by_cases e : m0.any (fun q => q.1 == y.n) = true
    · rw [if_pos e] at h; cases h
    · rw [if_neg e] at h
      have := addS_vals (c := c) (z := z) (s := s) (m0 := m0 ++ [(y.n, c + y.a)]) (m := m) (fun x hx => hy x (List.mem_cons_of_mem _ hx)) h q hq
      rcases this with h1 | h1
      · rcases List.mem_append.1 h1 with h2 | h2
        · exact .inl h2
        · simp at h2
          subst h2
          have := hy y (List.mem_cons_self ..)
          right; simp; omega
      · exact .inr h1
theorem arrL_vals {base : Int} : ∀ {l : List Ob} {j : Nat} {st : Im}, (∀ o ∈ l, valO o = 0) → j ≤ l.length → arrL base (l.take j) = some st → 0 ≤ st.z ∧ ∀ q ∈ st.m, base ≤ q.2 ∧ q.2 ≤ base + st.z
  | l, 0, st, _, _, h => by simp [arrL] at h; subst h; simp
  | l, j + 1, st, hl, hj, h => by
    cases hp : arrL base (l.take j) with
    | none => rw [arrL_none (l := l.take (j + 1)) (j := j) (by rw [List.take_take, Nat.min_eq_left (by omega)]; exact hp)] at h; cases h
    | some s =>
      obtain ⟨z0, ih⟩ := arrL_vals hl (by omega) hp
      rw [arrL_step (by omega) hp] at h
      unfold putO at h
      cases ha : addS (base + nextAt s.z) (l.getD j default).s s.m with
      | none => rw [ha] at h; cases h
      | some m =>
        rw [ha] at h
        simp only [Option.map_some, Option.some.injEq] at h
        subst h
        have hn : s.z ≤ nextAt s.z := by unfold nextAt; omega
        have hok := sym_ok (hl _ (mem_getD' (l := l) (k := j) (by omega)))
        refine ⟨by show 0 ≤ nextAt s.z + _; omega, fun q hq => ?_⟩
        have hq' : q ∈ m := hq
        show base ≤ q.2 ∧ q.2 ≤ base + (nextAt s.z + ((l.getD j default).b.length : Int))
        rcases addS_vals (z := ((l.getD j default).b.length : Int)) (fun y hy => (hok y hy).2) ha q hq' with h1 | h1
        · have := ih q h1
          omega
        · omega
theorem arrL_places {base : Int} : ∀ {l : List Ob} {j : Nat} {st : Im}, j ≤ l.length → arrL base (l.take j) = some st → 0 ≤ st.z ∧ st.p.length = j ∧ ∀ i, i < j → 0 ≤ st.p.getD i 0 ∧ st.p.getD i 0 + (l.getD i default).b.length ≤ st.z
  | l, 0, st, _, h => by simp [arrL] at h; subst h; simp
  | l, j + 1, st, hj, h => by
    cases hp : arrL base (l.take j) with
    | none => rw [arrL_none (l := l.take (j + 1)) (j := j) (by rw [List.take_take, Nat.min_eq_left (by omega)]; exact hp)] at h; cases h
    | some s =>
      obtain ⟨z0, pl, ih⟩ := arrL_places (by omega) hp
      rw [arrL_step (by omega) hp] at h
      unfold putO at h
      cases ha : addS (base + nextAt s.z) (l.getD j default).s s.m with
      | none => rw [ha] at h; cases h
      | some m =>
        rw [ha] at h
        simp only [Option.map_some, Option.some.injEq] at h
        subst h
        have hn : s.z ≤ nextAt s.z := by unfold nextAt; omega
        refine ⟨by show 0 ≤ nextAt s.z + _; omega, by simp [pl], fun i hi => ?_⟩
        simp only
        rw [List.getD_eq_getElem?_getD, List.getElem?_append]
        by_cases e : i < s.p.length
        · rw [if_pos e, ← List.getD_eq_getElem?_getD]
          have := ih i (by omega)
          omega
        · obtain rfl : i = j := by omega
          rw [if_neg e, pl, Nat.sub_self]
          simp
          omega
theorem OInts.made {w : World} {base g n : Nat} {e : TypeId} {k : IntKind} (h : w.ownsRow base e 1 (.slice (some ⟨g, 0, none⟩) n n) n (madeCells #[Value.int k 0] n).toList) : OInts k w g (List.replicate n 0) := by
  refine ⟨(h.lt g rfl).2, fun i hi => ?_⟩
  rw [List.length_replicate] at hi
  refine ⟨?_, h.frozenAt i⟩
  rw [h.cellAt i (by omega)]
  rw [toList_madeCells_one, List.getElem?_replicate, if_pos hi, List.getD_eq_getElem?_getD, List.getElem?_replicate, if_pos hi]; rfl
theorem below_made {w w' : World} (h : w.grownBy w' none) : Below w.heap.size w w' := (Below.refl _ _).grown h (Nat.le_refl _) (fun k hk => by cases hk)
theorem OInts.setCells {k : IntKind} {B : Nat} : ∀ {bs : List Int} {w : World} {xs : List Int} {q : Nat}, OInts k w B xs → q + bs.length ≤ xs.length → OInts k (w.setCells B q (bs.map (Value.int k))) B (setL xs q bs)
  | [], _, _, _, h, _ => h
  | b :: bs, w, xs, q, h, hl => by
    rw [List.map_cons]
    rw [List.length_cons] at hl
    exact OInts.setCells (h.set (i := q) (by omega) b) (by simp; omega)
theorem below_cells {B b : Nat} {a : World} (hb : B ≤ b) : ∀ (vs : List Value) (o : Nat) (w : World), Below B a w → Below B a (w.setCells b o vs)
  | [], _, _, h => h
  | v :: vs, o, w, h => below_cells hb vs (o + 1) _ (below_at h hb o v)
theorem setCells_block {D k : Nat} (h : k ≠ D) : ∀ (vs : List Value) (o : Nat) (w : World), (w.setCells D o vs).heap[k]? = w.heap[k]?
  | [], _, _ => rfl
  | v :: vs, o, w => by
    rw [World.setCells, setCells_block h vs (o + 1)]
    exact Below.heap_setCell w ⟨D, o, none⟩ v k h
theorem setCells_cell {D k : Nat} (h : k ≠ D) (vs : List Value) (o : Nat) (w : World) (i : Nat) : (w.setCells D o vs).cell? ⟨k, i, none⟩ = w.cell? ⟨k, i, none⟩ := by
  unfold World.cell?
  simp only [setCells_block h vs o w]
theorem addr_none (b o j : Nat) : (⟨b, o, none⟩ : Addr).add j = ⟨b, o + j, none⟩ := by by_cases hj : j = 0 <;> simp [Addr.add, hj]
theorem copy_in {w : World} {D q n cap : Nat} {v : Value} {bs xs : List Int} {ty : TypeId} (hv : Ints .u8 w v bs) (ho : OInts .u8 w D xs) (hq : q + bs.length ≤ xs.length) (hn : bs.length ≤ n) :
    (Builtin.copy_ #[22, 22] ty #[.slice (some ⟨D, q, none⟩) n cap, v]).run Tryz.prog w = .ok (goInt bs.length) (w.setCells D q (bs.map (Value.int .u8))) := by
  obtain ⟨a, c', rfl, h1, h2, h3, h4⟩ := hv
  by_cases h0 : bs.length = 0
  · have e : bs = [] := List.length_eq_zero_iff.1 h0
    subst e
    exact run_copy_none w 22 22 ty 5 _ _ _ _ _ _ (by kernel_rfl) (by kernel_rfl) (by simp)
  · obtain ⟨b, o, e, hb, hc⟩ := h4 0 (by omega)
    subst e
    have := run_copy_cells (P := Tryz.prog) w 22 22 ty 5 D q n cap ⟨b, o, none⟩ bs.length c' (bs.map (Value.int .u8)) (by kernel_rfl) (by kernel_rfl) (by rw [List.length_map]; exact (Nat.min_eq_left hn).symm) (fun j v hj => by
      rw [List.getElem?_map] at hj
      cases hx : bs[j]? with
      | none => rw [hx] at hj; cases hj
      | some y =>
        rw [hx] at hj
        cases hj
        have hjl := (List.getElem?_eq_some_iff.1 hx).1
        obtain ⟨b2, o2, e2, hb2, hc2⟩ := h4 j hjl
        cases e2
        rw [Nat.mul_one] at hc2
        rw [addr_none, hc2, List.getD_eq_getElem?_getD, hx]; rfl) (fun j hj => by rw [ho.cell (by simp at hj; omega)]; rfl) (fun j hj => ho.free (by simp at hj; omega)) (fun v hv => by
      obtain ⟨y, _, rfl⟩ := List.mem_map.1 hv
      rfl)
    rw [List.length_map] at this
    exact this
section
variable {P : Program} {t K E : TypeId} {w : World} {r : Nat} {l : List (Value × Value)}
theorem lookup_hit1 (law : Keyed P K) (ht : P.underlying t = some (.map K E)) (h : MapIs P K w r l) {k v : Value} {q : Lit} (hk : keyOf P K k = some q) (hm : (k, v) ∈ l) :
    (Instr.lookup t (.map (some r)) k false).run P w = .ok v w := by
  have h2 := lookup_hit law ht h hk hm
  have hb := mapAt_some h.2.1
  rcases law.find w hk (ents l).toList (fun e he => h.2.2.1 _ (mem_ents he)) with ⟨hrun, hno⟩ | ⟨j, e, hrun, hj, hek⟩
  · exfalso
    obtain ⟨i, hi, e1⟩ := List.getElem_of_mem hm
    refine hno ⟨k, v, i⟩ ?_ rfl
    unfold ents
    simp only [List.mem_mapIdx]
    exact ⟨i, hi, by rw [e1]⟩
  · simp [Instr.lookup, run_underlying ht, MapKept.run_getObj_map hb, law.check w _ hk, hrun, Result.andThen] at h2 ⊢
    exact h2
end
end Go.Proofs.YtaegpeofecdhfaaGreat
