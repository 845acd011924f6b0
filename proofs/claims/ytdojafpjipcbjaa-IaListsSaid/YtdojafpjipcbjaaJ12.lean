/- Walks of the reference's three coders: what they give, operation by operation and size by size. -/
import Derived.Deep.CutRange
import Derived.Deep.DeepMust
import Derived.Laws.BitsAllLaws
import Derived.Laws.Entries
import Derived.Test.YtdojafpjipcbjaaJ8
import Derived.Test.YtdojafpjipcbjaaJ11
namespace Go.Proofs.Ytdojafpjipcbjaa
open Go.RowKit
set_option linter.unusedVariables false
set_option linter.unusedSimpArgs false
section
variable {P : Program} {l : List Oper} {Q : Exit → Act → World → Prop} {md : Region.Mode} {S : World → Prop}
/-- The i-th operation is taken first; it is found in the list. -/
theorem wpAnyH_takeL (i : Nat) {oi : Oper} {v : Value} {fuel : Nat} {listed : Array Bool} {a : Act} {w : World} (hi : (l.drop i).head? = some oi)
    (hs : Region.noSelect l.toArray = true) (hf : Region.free md l.toArray listed i = true) (hr : (Region.ready md l.toArray listed).contains i = true)
    (hQ : ∀ c a w, Q (.panic c) (a.put oi.dst v) w → Q (.panic c) a w) (hy : YieldsIf P l.toArray S oi v a) (hS : S w)
    (h : wpAnyH P md l.toArray Q S fuel (listed.setIfInBounds i true) (a.put oi.dst v) w) : wpAnyH P md l.toArray Q S (fuel + 1) listed a w :=
  wpAnyH_take (i := i) (by rw [← hi, List.head?_drop]; simp) hs hf hr hQ hy hS h
theorem AllReadyH_consL (i : Nat) {fuel : Nat} {listed : Array Bool} {a : Act} {w : World} {o : Oper} {rs : List Nat} (ho : (l.drop i).head? = some o)
    (h : ∀ K' : Act → World → Prop, Shut (∀ a w, S w → (S w → wpAnyH P md l.toArray Q S fuel (listed.setIfInBounds i true) a w) → K' a w) → if Region.wanted o (yielded l.toArray a.tmps) = true then Oper.wp P o a w K' Q else K' (a.put o.dst undef) w)
    (hs : AllReadyH P md l.toArray Q S fuel listed a w rs) : AllReadyH P md l.toArray Q S fuel listed a w (i :: rs) :=
  AllReadyH.cons (by rw [← ho, List.head?_drop]; simp) h hs
end
/-- What one of the three that code gives: the bytes, if the instruction is right. -/
def MRet (x : Ins) (w : World) (e : Ending) (w' : World) : Prop := ∃ v ok, e = .returned (.tuple #[v, .bool ok]) ∧ ok = okI x ∧ (okI x = true → RowI w' w.heap.size 5 .u8 v (bodyI x)) ∧ Below w.heap.size w w'
theorem MRet.mk {x : Ins} {w w' : World} {v : Value} {ok : Bool} (h1 : ok = okI x) (h2 : okI x = true → RowI w' w.heap.size 5 .u8 v (bodyI x)) (h3 : Below w.heap.size w w') : MRet x w (.returned (.tuple #[v, .bool ok])) w' := ⟨v, ok, rfl, h1, h2, h3⟩
theorem ins_box (o d s z i : Int) (w W0 : World) (hW0 : w.alloc (.cells #[.int .i64 o, .int .i64 d, .int .i64 s, .int .i64 z, .int .i64 i] 25) = W0) :
    (∀ wk, Since W0 wk → wk.cell? ⟨w.heap.size, 0, none⟩ = some (.int .i64 o)) ∧ (∀ wk, Since W0 wk → wk.cell? ⟨w.heap.size, 1, none⟩ = some (.int .i64 d)) ∧ (∀ wk, Since W0 wk → wk.cell? ⟨w.heap.size, 2, none⟩ = some (.int .i64 s)) ∧
    (∀ wk, Since W0 wk → wk.cell? ⟨w.heap.size, 3, none⟩ = some (.int .i64 z)) ∧ (∀ wk, Since W0 wk → wk.cell? ⟨w.heap.size, 4, none⟩ = some (.int .i64 i)) := by
  subst hW0
  exact ⟨fun wk h => since_box 0 h, fun wk h => since_box 1 h, fun wk h => since_box 2 h, fun wk h => since_box 3 h, fun wk h => since_box 4 h⟩
theorem bel_lit {w W0 : World} {X : Obj} (h : Below w.heap.size w W0) : Below w.heap.size w (W0.alloc X) := h.trans (((Below.refl _ W0).alloc (Nat.le_refl _) _).mono h.size)
theorem bel_litd {w W0 : World} {X : Obj} (h : Below w.heap.size w W0) : Below w.heap.size w (W0.alloc X).drew := below_drewN (bel_lit h) 1
section
variable {w : World}
theorem step_app_u8 {ops : Array Oper} {o : Oper} {a : Act} {K : Act → World → Prop} {Q : Exit → Act → World → Prop} {E : Prop} (hgd : o.guard = none) (s x : Operand)
    (ho : o.op = .call { callee := .builtin .append, args := #[s, x], argTypes := #[22, 22] }) (base : Nat) (v : Value) (xs : List Int) (hs : a.eval s = v) (hown : RowI w base 5 .u8 v xs)
    (u : Value) (ys : List Int) (hx : a.eval x = u) (hu : Ints .u8 w u ys) (hm : 0 < ys.length) (hl : xs.length + ys.length ≤ 100000) (hbase : base ≤ w.heap.size)
    (h : ∀ v' w', RowI w' base 5 .u8 v' (xs ++ ys) → Below base w w' → K (a.put o.dst v') w') : if Region.wanted o (yielded ops a.tmps) = true then Oper.wp Try.prog o a w K Q else E := by
  obtain ⟨i0, hi0, hz0, hz1, hz2⟩ := info_parts info_u8
  exact step_app_row hgd s x _ ho base _ i0 1 Try.underlying22 hi0 hz0 hz1 hz2 (by decide) v xs hs hown u ys hx hu hm hl hbase h
theorem wpList_app_u8 {ops : Array Oper} {rest : List Oper} {o : Oper} {a : Act} {Q : Exit → Act → World → Prop} (hgd : o.guard = none) (s x : Operand)
    (ho : o.op = .call { callee := .builtin .append, args := #[s, x], argTypes := #[22, 22] }) (base : Nat) (v : Value) (xs : List Int) (hs : a.eval s = v) (hown : RowI w base 5 .u8 v xs)
    (u : Value) (ys : List Int) (hx : a.eval x = u) (hu : Ints .u8 w u ys) (hm : 0 < ys.length) (hl : xs.length + ys.length ≤ 100000) (hbase : base ≤ w.heap.size)
    (h : ∀ v' w', RowI w' base 5 .u8 v' (xs ++ ys) → Below base w w' → wpList Try.prog ops Q rest (a.put o.dst v') w') : wpList Try.prog ops Q (o :: rest) a w := by
  obtain ⟨i0, hi0, hz0, hz1, hz2⟩ := info_parts info_u8
  exact wpList_app_row hgd s x _ ho base _ i0 1 Try.underlying22 hi0 hz0 hz1 hz2 (by decide) v xs hs hown u ys hx hu hm hl hbase h
end
end Go.Proofs.Ytdojafpjipcbjaa
namespace Go.Proofs.Ytdojafpjipcbjaa
open Go.RowKit
set_option linter.unusedVariables false
set_option linter.unusedSimpArgs false
theorem RowI.but {w w' : World} {base B : Nat} {e : TypeId} {k : IntKind} {v : Value} {xs : List Int} (h : RowI w base e k v xs) (hc : But B w w') (hB : B < base) : RowI w' base e k v xs := by
  obtain ⟨h0, h1 | ⟨g, cap, cur, rfl, hb', hg, h2⟩⟩ := h
  · exact ⟨h0, .inl h1⟩
  · exact ⟨h0, .inr ⟨g, cap, cur, rfl, hb', by rw [hc.block g ((Array.getElem?_eq_some_iff.1 hg).1) (by omega)]; exact hg, h2⟩⟩
theorem But.then_below {B base : Nat} {w w1 w' : World} (h : But B w w1) (hb : Below base w1 w') (hs : w.heap.size ≤ base) : But B w w' :=
  ⟨hb.os.trans h.os, hb.tape.trans h.tape, hb.output.trans h.output, Nat.le_trans h.size hb.size, fun k hk hn => (hb.block k (by omega)).trans (h.block k hk hn)⟩
/-- The k bytes from n on; 0 where there are none. -/
def rdN (l : List Int) (n : Nat) : Nat → List Int
  | 0 => []
  | k + 1 => rdN l n k ++ [l.getD (n + k) 0]
theorem rdN_length (l : List Int) (n k : Nat) : (rdN l n k).length = k := by
  induction k with
  | zero => rfl
  | succ k ih => simp [rdN, ih]
set_option maxRecDepth 100000 in
theorem rd_number (v : Value) (B n k : Nat) (l : List Int) (w : World) (h : RdL w B v l n) (hk : k ≤ 4) (rd : Int) (hrd : ∀ v1 w1, Ints .u8 w1 v1 (rdN l n k) → Calls Try.prog 58 #[v1] w1 fun e w' => e = .returned (.int .u32 rd) ∧ w1 = w') :
    Calls Try.prog 42 #[.pointer (some ⟨B, 0, none⟩), .int .i64 k] w fun e w' => e = .returned (.int .u32 rd) ∧ RdL w' B v l (n + k) ∧ But B w w' := by
  have hlt := h.r.lt
  have HK := Lib.hid hk
  have HL := Lib.hid h
  have HRD := Lib.hid hrd
  have HBW := Lib.hid hlt
  clear hrd hk h
  go_enter Try.func42, Try.ntmps42
  go_wp2_with fail
  go_loopw [5, 7] (fun bv jv wr => ∃ j : Nat, j ≤ k ∧ RowI wr w.heap.size 5 .u8 bv (rdN l n j) ∧ jv = .int .i64 j ∧ RdL wr B v l (n + j) ∧ But B w wr) (fun _ jv _ => k - (intOf jv).toNat)
  case atStart => exact ⟨0, Nat.zero_le _, RowI.nil _ _ _ _, rfl, HL.out, But.refl _ _⟩
  case round =>
    obtain ⟨j, hj, hrow, rfl, hrl, hbt⟩ := hrel
    have HROW := Lib.hid hrow
    have HRL := Lib.hid hrl
    have HBT := Lib.hid hbt
    clear hrow hrl hbt
    by_cases hlt2 : j < k
    · have hj4 : (j : Int) ≤ 4 := (by have := HK.out; omega)
      have d0 : decide (j < k) = true := decide_eq_true hlt2
      have d1 : decide ((j : Int) < k) = true := decide_eq_true (by omega)
      have C0 := Lib.hid (next_any v B (n + j) l _ HRL.out)
      go_wp2_with (first | ((go_at_call 38; with_reducible refine C0.out.mono ?_); rintro e w1 ⟨rfl, hr1, hb1⟩; have HR1 := Lib.hid hr1; have HB1 := Lib.hid hb1; clear hr1 hb1) | (at_builtin; go_must (refine wpList_app_u8 rfl _ _ rfl w.heap.size _ (rdN l n j) rfl ((HROW.out.but HB1.out HBW.out).below ((Below.refl _ _).alloc (Nat.le_refl _) _)) _ [l.getD (n + j) 0] rfl ((RowI.lit w1 _ [l.getD (n + j) 0] .u8 5 w1.heap.size 1 (Nat.le_refl _) rfl rfl (by simp [maxLen])).ints (by simp)) (by simp) ?c3 ?c4 ?_)))
      case c3 => rw [rdN_length]; have := HK.out; simp; omega
      case c4 => have h1 := HBT.out.size; have h2 := HB1.out.size; simp; omega
      intro v' w' hr hb
      have HW := ((HBT.out.trans HB1.out).alloc (.cells #[.int .u8 (l.getD (n + j) 0)] 5)).then_below hb (Nat.le_refl _)
      have HR2 := Lib.hid hr
      have HB2 := Lib.hid HW
      have HB3 := Lib.hid hb
      clear hr hb HW
      go_wp2_with fail
      go_roundw
      case rel => exact ⟨j + 1, hlt2, HR2.out, by go_num, ⟨(HB3.out.block B HBW.out).trans ((Below.heap_alloc w1 _ B HR1.out.r.lt).trans HR1.out.r), HL.out.l.but HB2.out HL.out.off, HL.out.off⟩, HB2.out⟩
      case measure => simp [intOf]; omega
    · obtain rfl : j = k := by have := HK.out; omega
      have d0 : decide (j < j) = false := decide_eq_false (by omega)
      have d1 : decide ((j : Int) < j) = false := decide_eq_false (by omega)
      have C0 := Lib.hid (HRD.out _ _ (HROW.out.ints (by rw [rdN_length]; have := HK.out; omega)))
      go_wp2_with ((go_at_call 58; with_reducible refine C0.out.mono ?_); rintro e w1 ⟨rfl, rfl⟩)
      go_ret
      exact ⟨rfl, HRL.out, HBT.out⟩
end Go.Proofs.Ytdojafpjipcbjaa
namespace Go.Proofs.Ytdojafpjipcbjaa.Wd
/-- 2 to the n. -/
def pw (n : Int) : Int := 2 ^ n.toNat
/-- n is a width. -/
def isW (n : Int) : Bool := decide (1 ≤ n ∧ n ≤ 32)
/-- a is a word of n bits (a is not negative). -/
def fit (n a : Int) : Bool := decide (a < pw n)
def sgn (n a : Int) : Int := if pw (n - 1) ≤ a then a - pw n else a
def wr (n x : Int) : Int := x % pw n
theorem pw_pos (n : Int) : 0 < pw n := by unfold pw; exact Int.pow_pos (by decide)
theorem pw_succ (n : Int) (h : 1 ≤ n) : pw n = 2 * pw (n - 1) := by
  unfold pw
  have : n.toNat = (n - 1).toNat + 1 := by omega
  rw [this, Int.pow_succ]; omega
theorem pw_mono {m n : Int} (h : m ≤ n) : pw m ≤ pw n := by
  unfold pw
  have h2 := Nat.pow_le_pow_right (n := 2) (by decide) (Int.toNat_le_toNat h)
  have := Int.ofNat_le.2 h2
  simpa using this
theorem pw_32 : pw 32 = 4294967296 := by decide
theorem pw_31 : pw 31 = 2147483648 := by decide
theorem pw_le32 {n : Int} (h : n ≤ 32) : pw n ≤ 4294967296 := by rw [← pw_32]; exact pw_mono h
theorem pw_le31 {n : Int} (h : n ≤ 31) : pw n ≤ 2147483648 := by rw [← pw_31]; exact pw_mono h
/-- The word of which each bit is the sign of a word. -/
def signV (n a : Int) : Int := if sgn n a < 0 then pw n - 1 else 0
theorem pw_cast (k : Nat) : pw (k : Int) = 2 ^ k := by simp [pw]
theorem pw_nat (k : Nat) : pw (k : Int) = ((2 ^ k : Nat) : Int) := by unfold pw; simp
theorem wr_lo (n x : Int) : 0 ≤ wr n x := Int.emod_nonneg _ (by have := pw_pos n; omega)
theorem wr_hi (n x : Int) : wr n x < pw n := Int.emod_lt_of_pos _ (pw_pos n)
theorem sgn_hi {n a : Int} (h : pw (n - 1) ≤ a) : sgn n a = a - pw n := if_pos h
theorem sgn_lo {n a : Int} (h : a < pw (n - 1)) : sgn n a = a := if_neg (by omega)
theorem hi_bit (n x : Int) (h1 : 1 ≤ n) (h3 : 0 ≤ x) (h4 : x < pw n) : x / 2 ^ (n.toNat - 1) = if pw (n - 1) ≤ x then 1 else 0 := by
  have e : n.toNat - 1 = (n - 1).toNat := by omega
  rw [e]
  have hp := pw_succ n h1
  have hp0 := pw_pos (n - 1)
  show x / pw (n - 1) = _
  split
  · have : x = (x - pw (n - 1)) + 1 * pw (n - 1) := by omega
    rw [this, Int.add_mul_ediv_right _ _ (by omega), Int.ediv_eq_zero_of_lt (by omega) (by omega)]; rfl
  · exact Int.ediv_eq_zero_of_lt h3 (by omega)
theorem tmod_wr (n x : Int) : wr n x = if x.tmod (pw n) < 0 then x.tmod (pw n) + pw n else x.tmod (pw n) := by
  have hp := pw_pos n
  unfold wr
  rw [Int.tmod_eq_emod]
  have h1 := Int.emod_nonneg x (show pw n ≠ 0 by omega)
  have h2 := Int.emod_lt_of_pos x hp
  split <;> split <;> omega
theorem dn_succ (x : Int) (j : Nat) : x / 2 ^ (j + 1) = x / 2 ^ j / 2 := by
  rw [Int.pow_succ, Int.ediv_ediv_of_nonneg (Int.pow_nonneg (by decide))]
theorem dn_lo (x : Int) (j : Nat) (h : -4294967296 ≤ x) : -4294967296 ≤ x / 2 ^ j := by
  induction j with
  | zero => simpa using h
  | succ j ih => rw [dn_succ]; omega
theorem dn_hi (x : Int) (j : Nat) (h : x ≤ 4294967296) : x / 2 ^ j ≤ 4294967296 := by
  induction j with
  | zero => simpa using h
  | succ j ih => rw [dn_succ]; omega
/-- The lowest j bits of x, as a number. -/
def lo (x j : Nat) : Int := ((x % 2 ^ j : Nat) : Int)
theorem lo_zero (x : Nat) : lo x 0 = 0 := by simp [lo, Nat.mod_one]
theorem lo_nn (x j : Nat) : 0 ≤ lo x j := Int.natCast_nonneg _
theorem lo_lt (x j : Nat) : lo x j < pw j := by
  rw [pw_nat]; exact Int.ofNat_lt.2 (Nat.mod_lt _ (Nat.two_pow_pos j))
theorem lo_1 (x j : Nat) (h : x.testBit j = true) : lo x (j + 1) = lo x j + pw j := by
  rw [pw_nat]; unfold lo
  rw [Nat.mod_pow_succ]
  have : x / 2 ^ j % 2 = 1 := by simpa [Nat.testBit_eq_decide_div_mod_eq] using h
  rw [this]; simp
theorem lo_0 (x j : Nat) (h : x.testBit j = false) : lo x (j + 1) = lo x j := by
  unfold lo
  rw [Nat.mod_pow_succ]
  have : x / 2 ^ j % 2 = 0 := by
    have h2 : ¬ x / 2 ^ j % 2 = 1 := by simpa [Nat.testBit_eq_decide_div_mod_eq] using h
    omega
  rw [this]; simp
theorem lo_all (x j : Nat) (h : (x : Int) < pw j) : lo x j = x := by
  unfold lo
  rw [pw_nat] at h
  rw [Nat.mod_eq_of_lt (Int.ofNat_lt.1 h)]
theorem bit_1 (a : Int) (j : Nat) (h : 0 ≤ a) (e : a.toNat.testBit j = true) : (a / pw j).tmod 2 = 1 := by
  rw [Int.tmod_eq_emod_of_nonneg (Int.ediv_nonneg h (Int.le_of_lt (pw_pos j)))]
  have h2 : a.toNat / 2 ^ j % 2 = 1 := by simpa [Nat.testBit_eq_decide_div_mod_eq] using e
  have h3 : a = (a.toNat : Int) := by omega
  rw [h3, pw_nat, ← Int.natCast_ediv, show (2 : Int) = ((2 : Nat) : Int) from rfl, ← Int.natCast_emod, h2]; rfl
theorem bit_0 (a : Int) (j : Nat) (h : 0 ≤ a) (e : a.toNat.testBit j = false) : (a / pw j).tmod 2 = 0 := by
  rw [Int.tmod_eq_emod_of_nonneg (Int.ediv_nonneg h (Int.le_of_lt (pw_pos j)))]
  have h2 : a.toNat / 2 ^ j % 2 = 0 := by
    have h2 : ¬ a.toNat / 2 ^ j % 2 = 1 := by simpa [Nat.testBit_eq_decide_div_mod_eq] using e
    omega
  have h3 : a = (a.toNat : Int) := by omega
  rw [h3, pw_nat, ← Int.natCast_ediv, show (2 : Int) = ((2 : Nat) : Int) from rfl, ← Int.natCast_emod, h2]; rfl
theorem and_lt (a b n : Int) (_h1 : 0 ≤ a) (h2 : a < pw n) : ((a.toNat &&& b.toNat : Nat) : Int) < pw n := by
  have := @Nat.and_le_left a.toNat b.toNat
  omega
theorem to_lt {a n : Int} (h2 : a < pw n) : a.toNat < 2 ^ n.toNat := by
  have := pw_pos n
  have e : ((2 ^ n.toNat : Nat) : Int) = pw n := by unfold pw; simp
  omega
theorem or_lt (a b n : Int) (h2 : a < pw n) (h4 : b < pw n) : ((a.toNat ||| b.toNat : Nat) : Int) < pw n := by
  have := Nat.or_lt_two_pow (to_lt h2) (to_lt h4)
  have e : ((2 ^ n.toNat : Nat) : Int) = pw n := by unfold pw; simp
  omega
theorem xor_lt (a b n : Int) (h2 : a < pw n) (h4 : b < pw n) : ((a.toNat ^^^ b.toNat : Nat) : Int) < pw n := by
  have := Nat.xor_lt_two_pow (to_lt h2) (to_lt h4)
  have e : ((2 ^ n.toNat : Nat) : Int) = pw n := by unfold pw; simp
  omega
theorem wr_shl (n a : Int) (j : Nat) : wr n (a * pw (j + 1 : Nat)) = 2 * wr n (a * pw j) % pw n := by
  unfold wr
  have : pw (j + 1 : Nat) = 2 * pw j := by rw [pw_nat, pw_nat, Nat.pow_succ]; omega
  rw [this, Int.mul_emod 2 (a * pw j % pw n), Int.emod_emod_of_dvd _ (Int.dvd_refl _), ← Int.mul_emod]
  congr 1
  rw [← Int.mul_assoc, Int.mul_comm a 2, Int.mul_assoc]
theorem wr_small {n a : Int} (h1 : 0 ≤ a) (h2 : a < pw n) : wr n a = a := Int.emod_eq_of_lt h1 h2
theorem sgn_ge {n a : Int} (h1 : 1 ≤ n) (_h2 : n ≤ 32) (h3 : 0 ≤ a) : -pw (n - 1) ≤ sgn n a := by
  have := pw_succ n h1
  have := pw_pos (n - 1)
  unfold sgn; split <;> omega
theorem sgn_le {n a : Int} (h1 : 1 ≤ n) (h4 : a < pw n) : sgn n a < pw (n - 1) := by
  have := pw_succ n h1
  have := pw_pos (n - 1)
  unfold sgn; split <;> omega
theorem sgn_lo32 {n a : Int} (h1 : 1 ≤ n) (h2 : n ≤ 32) (h3 : 0 ≤ a) : -2147483648 ≤ sgn n a := by
  have := sgn_ge h1 h2 h3
  have := @pw_le31 (n - 1) (by omega)
  omega
theorem sgn_hi32 {n a : Int} (h1 : 1 ≤ n) (h2 : n ≤ 32) (h4 : a < pw n) : sgn n a ≤ 2147483647 := by
  have := sgn_le h1 h4
  have := @pw_le31 (n - 1) (by omega)
  omega
/-- What an operation makes of two words; where there is none, what the solver takes. -/
def tot (op n a b : Int) : Int :=
  if op = 1 then wr n (a + b) else
  if op = 2 then wr n (a - b) else
  if op = 3 then wr n (a * b) else
  if op = 4 then (if b = 0 then pw n - 1 else a / b) else
  if op = 5 then (if b = 0 then a else a % b) else
  if op = 6 then (if b = 0 then (if sgn n a < 0 then 1 else pw n - 1) else if sgn n a = -pw (n - 1) ∧ sgn n b = -1 then a else wr n ((sgn n a).tdiv (sgn n b))) else
  if op = 7 then (if b = 0 then a else if sgn n a = -pw (n - 1) ∧ sgn n b = -1 then 0 else wr n ((sgn n a).tmod (sgn n b))) else
  if op = 8 then ((a.toNat &&& b.toNat : Nat) : Int) else
  if op = 9 then ((a.toNat ||| b.toNat : Nat) : Int) else
  if op = 10 then ((a.toNat ^^^ b.toNat : Nat) : Int) else
  if op = 11 then (if n ≤ b then 0 else wr n (a * pw b)) else
  if op = 12 then (if n ≤ b then 0 else a / pw b) else
  (if n ≤ b then (if sgn n a < 0 then pw n - 1 else 0) else wr n (sgn n a / pw b))
/-- Whether there is a word. -/
def has (op n a b : Int) : Bool :=
  if op = 4 ∨ op = 5 then decide (b ≠ 0) else
  if op = 6 ∨ op = 7 then decide (b ≠ 0 ∧ ¬ (sgn n a = -pw (n - 1) ∧ sgn n b = -1)) else
  if op = 11 ∨ op = 12 ∨ op = 13 then decide (b < n) else true
/-- The operation and its words are right. -/
def good (op n a b : Int) : Bool := decide (1 ≤ op ∧ op ≤ 13 ∧ 1 ≤ n ∧ n ≤ 32 ∧ a < pw n ∧ b < pw n)
theorem sgn_wr (n a : Int) : ∃ k, sgn n a = a + k * pw n := by
  unfold sgn
  split
  · exact ⟨-1, by omega⟩
  · exact ⟨0, by omega⟩
theorem wr_mul (n a b : Int) : wr n (sgn n a * sgn n b) = wr n (a * b) := by
  obtain ⟨k, hk⟩ := sgn_wr n a
  obtain ⟨l, hl⟩ := sgn_wr n b
  unfold wr
  rw [hk, hl]
  have : (a + k * pw n) * (b + l * pw n) = a * b + (a * l + k * b + k * l * pw n) * pw n := by
    simp only [Int.add_mul, Int.mul_add, Int.mul_assoc, Int.mul_comm, Int.mul_left_comm]; omega
  rw [this, Int.add_mul_emod_self_right]
theorem mul_bd {x y m : Int} (h1 : -m ≤ x) (h2 : x ≤ m) (h3 : -m ≤ y) (h4 : y ≤ m) : -(m * m) ≤ x * y ∧ x * y ≤ m * m := by
  have hx : x.natAbs ≤ m.natAbs := by omega
  have hy : y.natAbs ≤ m.natAbs := by omega
  have h : (x * y).natAbs ≤ (m * m).natAbs := by
    rw [Int.natAbs_mul, Int.natAbs_mul]; exact Nat.mul_le_mul hx hy
  have hm : 0 ≤ m * m := Int.mul_nonneg (by omega) (by omega)
  omega
theorem mul_lo32 {x y : Int} (h1 : -2147483648 ≤ x) (h2 : x ≤ 2147483647) (h3 : -2147483648 ≤ y) (h4 : y ≤ 2147483647) : -4611686018427387904 ≤ x * y ∧ x * y ≤ 4611686018427387904 := by
  have := mul_bd (m := 2147483648) h1 (by omega) h3 (by omega)
  omega
theorem tdiv_bd {x y : Int} (h1 : -2147483648 ≤ x) (h2 : x ≤ 2147483647) : -2147483648 ≤ x.tdiv y ∧ x.tdiv y ≤ 2147483648 := by
  have h := Int.natAbs_tdiv_le_natAbs x y
  omega
theorem tmod_bd {x y : Int} (h1 : -2147483648 ≤ x) (h2 : x ≤ 2147483647) : -2147483648 ≤ x.tmod y ∧ x.tmod y ≤ 2147483648 := by
  have h : (x.tmod y).natAbs ≤ x.natAbs := by rw [Int.natAbs_tmod]; exact Nat.mod_le _ _
  omega
theorem tmod_q (x y : Int) : x.tdiv y * y = x - x.tmod y := by
  have := Int.tmod_add_mul_tdiv x y
  rw [Int.mul_comm] at this
  omega
theorem sgn_zero {n b : Int} (h1 : 1 ≤ n) (h4 : b < pw n) : sgn n b = 0 ↔ b = 0 := by
  have := pw_succ n h1
  have := pw_pos (n - 1)
  unfold sgn; split <;> omega
theorem good_iff (op n a b : Int) : good op n a b = true ↔ 1 ≤ op ∧ op ≤ 13 ∧ 1 ≤ n ∧ n ≤ 32 ∧ a < pw n ∧ b < pw n := by simp [good]
/-- v is a word of n bits. -/
def Word (n v : Int) : Prop := 0 ≤ v ∧ v < pw n
theorem word_ite {n x y : Int} {c : Prop} [Decidable c] (h1 : c → Word n x) (h2 : ¬c → Word n y) : Word n (if c then x else y) := by
  by_cases h : c
  · rw [if_pos h]; exact h1 h
  · rw [if_neg h]; exact h2 h
theorem word_wr (n x : Int) : Word n (wr n x) := ⟨wr_lo n x, wr_hi n x⟩
theorem tot_word {op n a b : Int} (g : good op n a b = true) (ha : 0 ≤ a) (hb : 0 ≤ b) : Word n (tot op n a b) := by
  obtain ⟨g1, g2, g3, g4, g5, g6⟩ := (good_iff _ _ _ _).1 g
  have hp := pw_pos n
  have hp2 := pw_succ n g3
  have hp3 := pw_pos (n - 1)
  have hd : a / b ≤ a := Int.ediv_le_self b ha
  have hd2 : a / pw b ≤ a := Int.ediv_le_self _ ha
  have hd3 : 0 ≤ a / b := Int.ediv_nonneg ha hb
  have hd4 : 0 ≤ a / pw b := Int.ediv_nonneg ha (Int.le_of_lt (pw_pos _))
  have hm : b ≠ 0 → Word n (a % b) := fun h => ⟨Int.emod_nonneg _ h, by have := Int.emod_lt_of_pos a (show 0 < b by omega); omega⟩
  have wa : Word n (((a.toNat &&& b.toNat : Nat) : Int)) := ⟨Int.natCast_nonneg _, and_lt a b n ha g5⟩
  have wo : Word n (((a.toNat ||| b.toNat : Nat) : Int)) := ⟨Int.natCast_nonneg _, or_lt a b n g5 g6⟩
  have wx : Word n (((a.toNat ^^^ b.toNat : Nat) : Int)) := ⟨Int.natCast_nonneg _, xor_lt a b n g5 g6⟩
  unfold tot
  repeat' (refine word_ite (fun _ => ?_) (fun _ => ?_))
  all_goals first | exact word_wr _ _ | assumption | exact hm ‹_› | exact ⟨by omega, by omega⟩
theorem tot_lo {op n a b : Int} (g : good op n a b = true) (ha : 0 ≤ a) (hb : 0 ≤ b) : 0 ≤ tot op n a b := (tot_word g ha hb).1
theorem tot_hi {op n a b : Int} (g : good op n a b = true) (ha : 0 ≤ a) (hb : 0 ≤ b) : tot op n a b < pw n := (tot_word g ha hb).2
theorem tot_32 {op n a b : Int} (g : good op n a b = true) (ha : 0 ≤ a) (hb : 0 ≤ b) : tot op n a b ≤ 4294967295 := by
  have h1 := tot_hi g ha hb
  have h2 := @pw_le32 n (by have := (good_iff _ _ _ _).1 g; omega)
  omega
theorem pw_dvd {m n : Int} (h : m ≤ n) : pw m ∣ pw n := by
  have e : n.toNat = m.toNat + (n.toNat - m.toNat) := by have := Int.toNat_le_toNat h; omega
  unfold pw
  rw [e, Int.pow_add]
  exact Int.dvd_mul_right _ _
theorem pw_toNat (n : Int) : (pw n - 1).toNat = 2 ^ n.toNat - 1 := by
  have e : ((2 ^ n.toNat : Nat) : Int) = pw n := by unfold pw; simp
  have := Nat.two_pow_pos n.toNat
  omega
theorem mask_fit {n x : Int} (h1 : n ≤ 32) (h3 : 0 ≤ x) (h4 : x ≤ 4294967295) : bits .and .u32 x (pw n - 1) = wr n x := by
  have hp := pw_pos n
  have hp2 := pw_le32 h1
  rw [u32_and x _ h3 (by omega) (by omega) (by omega), pw_toNat, Nat.and_two_pow_sub_one_eq_mod]
  unfold wr
  have e : ((2 ^ n.toNat : Nat) : Int) = pw n := by unfold pw; simp
  rw [Int.natCast_emod, e]
  congr 1
  omega
theorem wr_mod {n : Int} (h1 : n ≤ 32) (x : Int) : wr n (x % 4294967296) = wr n x := by
  unfold wr
  rw [← pw_32]
  exact Int.emod_emod_of_dvd x (pw_dvd h1)
theorem mask_wr {n : Int} (h1 : n ≤ 32) (x : Int) : bits .and .u32 (x % 4294967296) (pw n - 1) = wr n x := by
  rw [mask_fit h1 (by omega) (by omega), wr_mod h1]
/-! ### lanes: digits of the base L -/
/-- The number with the digits d 0 .. d (j - 1). -/
def sumTo (L : Int) (d : Nat → Int) : Nat → Int
  | 0 => 0
  | j + 1 => sumTo L d j + d j * L ^ j
theorem sumTo_bd {L : Int} {d : Nat → Int} (hL : 0 < L) (hd : ∀ i, 0 ≤ d i ∧ d i < L) : ∀ j, 0 ≤ sumTo L d j ∧ sumTo L d j < L ^ j
  | 0 => by simp [sumTo]
  | j + 1 => by
    have ih := sumTo_bd hL hd j
    have hp : 0 < L ^ j := Int.pow_pos hL
    obtain ⟨h1, h2⟩ := hd j
    have h3 : 0 ≤ d j * L ^ j := Int.mul_nonneg h1 (Int.le_of_lt hp)
    have h4 : d j * L ^ j ≤ (L - 1) * L ^ j := Int.mul_le_mul_of_nonneg_right (by omega) (Int.le_of_lt hp)
    have h5 : (L - 1) * L ^ j = L ^ (j + 1) - L ^ j := by rw [Int.sub_mul, Int.pow_succ, Int.mul_comm L, Int.one_mul]
    simp only [sumTo]
    omega
theorem sumTo_digit {L : Int} {d : Nat → Int} (hL : 0 < L) (hd : ∀ i, 0 ≤ d i ∧ d i < L) : ∀ j i, i < j → sumTo L d j / L ^ i % L = d i
  | 0, i, h => absurd h (by omega)
  | j + 1, i, h => by
    have hp : 0 < L ^ i := Int.pow_pos hL
    simp only [sumTo]
    by_cases e : i = j
    · subst e
      have hb := sumTo_bd hL hd i
      rw [Int.add_mul_ediv_right _ _ (by omega), Int.ediv_eq_zero_of_lt hb.1 hb.2, Int.zero_add]
      exact Int.emod_eq_of_lt (hd i).1 (hd i).2
    · have ih := sumTo_digit hL hd j i (by omega)
      have e2 : d j * L ^ j = d j * L ^ (j - i - 1) * L * L ^ i := by
        have : j = (j - i - 1) + 1 + i := by omega
        rw [this, Int.pow_add, Int.pow_succ]
        have e3 : j - i - 1 + 1 + i - i - 1 = j - i - 1 := by omega
        simp only [← this, Int.mul_assoc]
      rw [e2, Int.add_mul_ediv_right _ _ (by omega), Int.add_mul_emod_self_right]
      exact ih
theorem emod_split {a P L : Int} (hP : 0 < P) : a % (P * L) = a % P + a / P % L * P := by
  rw [Int.emod_def a (P * L), Int.emod_def a P, Int.emod_def (a / P) L, Int.ediv_ediv_of_nonneg (Int.le_of_lt hP), Int.sub_mul]
  have e1 : L * (a / (P * L)) * P = P * L * (a / (P * L)) := by rw [Int.mul_comm, ← Int.mul_assoc]
  have e2 : a / P * P = P * (a / P) := Int.mul_comm _ _
  rw [e1, e2]
  omega
theorem sumTo_self {L : Int} (hL : 0 < L) (a : Int) : ∀ j, sumTo L (fun i => a / L ^ i % L) j = a % L ^ j
  | 0 => by simp [sumTo, Int.emod_one]
  | j + 1 => by
    have hp : 0 < L ^ j := Int.pow_pos hL
    simp only [sumTo]
    rw [sumTo_self hL a j, Int.pow_succ, emod_split hp]
theorem sumTo_congr {L : Int} {d e : Nat → Int} : ∀ j, (∀ i, i < j → d i = e i) → sumTo L d j = sumTo L e j
  | 0, _ => rfl
  | j + 1, h => by
    simp only [sumTo]
    rw [sumTo_congr j (fun i hi => h i (by omega)), h j (by omega)]
/-- The lane number j of two words, what the operation makes of it. -/
def lane (op l a b : Int) (j : Nat) : Int := wr l (if op = 20 then wr l (a / pw l ^ j) - wr l (b / pw l ^ j) else wr l (a / pw l ^ j) + wr l (b / pw l ^ j))
/-- What Lanes makes. -/
def lanes (op n l a b : Int) : Int := sumTo (pw l) (lane op l a b) (n / l).toNat
def goodL (op n l a b : Int) : Bool := decide ((op = 19 ∨ op = 20) ∧ 1 ≤ n ∧ n ≤ 32 ∧ a < pw n ∧ b < pw n ∧ 1 ≤ l ∧ l < n ∧ n % l = 0)
theorem goodL_iff (op n l a b : Int) : goodL op n l a b = true ↔ (op = 19 ∨ op = 20) ∧ 1 ≤ n ∧ n ≤ 32 ∧ a < pw n ∧ b < pw n ∧ 1 ≤ l ∧ l < n ∧ n % l = 0 := by simp only [goodL, decide_eq_true_eq]
theorem lane_bd (op l a b : Int) (j : Nat) : 0 ≤ lane op l a b j ∧ lane op l a b j < pw l := ⟨wr_lo _ _, wr_hi _ _⟩
theorem pw_mul (l : Nat) (j : Nat) : pw (l : Int) ^ j = 2 ^ (j * l) := by rw [pw_cast, ← Int.pow_mul, Nat.mul_comm]
theorem lanes_count {n l : Int} (h1 : 1 ≤ l) (h2 : n % l = 0) (h3 : 1 ≤ n) : ((n / l).toNat : Int) * l = n := by
  have h4 : 0 ≤ n / l := Int.ediv_nonneg (by omega) (by omega)
  rw [Int.toNat_of_nonneg h4]
  have := Int.ediv_mul_add_emod n l
  omega
theorem lanes_bd {op n l a b : Int} (h1 : 1 ≤ l) (h2 : n % l = 0) (h3 : 1 ≤ n) : 0 ≤ lanes op n l a b ∧ lanes op n l a b < pw n := by
  have h := sumTo_bd (pw_pos l) (lane_bd op l a b) (n / l).toNat
  have hc := lanes_count h1 h2 h3
  obtain ⟨m, rfl⟩ := Int.eq_ofNat_of_zero_le (show 0 ≤ l by omega)
  obtain ⟨k, rfl⟩ := Int.eq_ofNat_of_zero_le (show 0 ≤ n by omega)
  have e : pw (m : Int) ^ ((k : Int) / (m : Int)).toNat = pw k := by
    rw [pw_mul, pw_cast]
    congr 1
    exact_mod_cast hc
  rw [e] at h
  exact h
/-- A difference takes back a sum, and a sum a difference. -/
theorem lanes_back {op n l a b : Int} (g : goodL op n l a b = true) (ha : 0 ≤ a) : lanes (39 - op) n l (lanes op n l a b) b = a := by
  obtain ⟨g0, g1, g2, g3, g4, g5, g6, g7⟩ := (goodL_iff _ _ _ _ _).1 g
  have hc := lanes_count g5 g7 g1
  have hL := pw_pos l
  have h1 : ∀ i, i < (n / l).toNat → lane (39 - op) l (lanes op n l a b) b i = a / pw l ^ i % pw l := by
    intro i hi
    have hd := sumTo_digit hL (lane_bd op l a b) _ i hi
    have e : wr l (lanes op n l a b / pw l ^ i) = lane op l a b i := hd
    show wr l (if 39 - op = 20 then wr l (lanes op n l a b / pw l ^ i) - wr l (b / pw l ^ i) else wr l (lanes op n l a b / pw l ^ i) + wr l (b / pw l ^ i)) = _
    rw [e]
    unfold lane
    generalize wr l (b / pw l ^ i) = q
    generalize a / pw l ^ i = p
    rcases g0 with rfl | rfl
    · rw [if_pos (by decide), if_neg (by decide)]
      unfold wr
      rw [Int.emod_sub_emod, show p % pw l + q - q = p % pw l by omega, Int.emod_emod_of_dvd _ (Int.dvd_refl _)]
    · rw [if_neg (by decide), if_pos (by decide)]
      unfold wr
      rw [Int.emod_add_emod, show p % pw l - q + q = p % pw l by omega, Int.emod_emod_of_dvd _ (Int.dvd_refl _)]
  show sumTo (pw l) (lane (39 - op) l (lanes op n l a b) b) (n / l).toNat = a
  rw [sumTo_congr _ h1, sumTo_self hL]
  obtain ⟨m, rfl⟩ := Int.eq_ofNat_of_zero_le (show 0 ≤ l by omega)
  obtain ⟨k, rfl⟩ := Int.eq_ofNat_of_zero_le (show 0 ≤ n by omega)
  have e : pw (m : Int) ^ ((k : Int) / (m : Int)).toNat = pw k := by
    rw [pw_mul, pw_cast]
    congr 1
    exact_mod_cast hc
  rw [e]
  exact Int.emod_eq_of_lt ha g3
theorem lane_fit {k t m : Nat} {j : Nat} {out z : Int} (h1 : out < pw k ^ j) (h2 : pw (k : Int) ^ j = 2 ^ t) (h3 : z < pw k) (h4 : t + k ≤ m) : out + z * 2 ^ t < pw m := by
  rw [h2] at h1
  have hp : (0 : Int) < 2 ^ t := Int.pow_pos (by decide)
  have e1 : z * 2 ^ t ≤ (pw k - 1) * 2 ^ t := Int.mul_le_mul_of_nonneg_right (by omega) (Int.le_of_lt hp)
  have e2 : (pw (k : Int) - 1) * 2 ^ t = pw ((t + k : Nat) : Int) - 2 ^ t := by rw [Int.sub_mul, Int.one_mul, pw_cast, pw_cast, Int.pow_add, Int.mul_comm]
  have e3 : pw ((t + k : Nat) : Int) ≤ pw m := pw_mono (by omega)
  omega
theorem or_join {t : Nat} {out z : Int} (h1 : 0 ≤ out) (h2 : out < 2 ^ t) (h3 : 0 ≤ z) (h4 : z * 2 ^ t ≤ 4294967295) (h5 : out ≤ 4294967295) : bits .or .u32 out (z * 2 ^ t) = out + z * 2 ^ t := by
  obtain ⟨o, rfl⟩ := Int.eq_ofNat_of_zero_le h1
  obtain ⟨y, rfl⟩ := Int.eq_ofNat_of_zero_le h3
  have e : (y : Int) * 2 ^ t = ((y * 2 ^ t : Nat) : Int) := by rw [Int.natCast_mul, Int.natCast_pow]; rfl
  have ho : o < 2 ^ t := by
    have e3 : ((2 ^ t : Nat) : Int) = 2 ^ t := by rw [Int.natCast_pow]; rfl
    omega
  rw [e] at h4 ⊢
  have hy : y * 2 ^ t ≤ 4294967295 := Int.ofNat_le.1 h4
  by_cases hy0 : y = 0
  · subst hy0
    rw [u32_or _ _ (by omega) (by omega) (by omega) (by omega)]; simp
  · have : 2 ^ t ≤ y * 2 ^ t := Nat.le_mul_of_pos_left _ (by omega)
    rw [u32_or _ _ (by omega) (by omega) (by omega) (by omega)]
    simp only [Int.toNat_natCast]
    rw [Nat.or_comm, nat_join t _ _ (Nat.mul_mod_left _ _) ho]
    omega
end Go.Proofs.Ytdojafpjipcbjaa.Wd
namespace Go.Proofs.Ytdojafpjipcbjaa
open Go.RowKit Wd
set_option linter.unusedVariables false
set_option linter.unusedSimpArgs false
/-- All are bytes. -/
def Byt (l : List Int) : Prop := ∀ i, 0 ≤ l.getD i 0 ∧ l.getD i 0 < 256
/-- The number of the first j bytes. -/
def rdJ (l : List Int) : Nat → Int
  | 0 => 0
  | j + 1 => rdJ l j + l.getD j 0 * 2 ^ (8 * j)
theorem rdJ_bd {l : List Int} (h : Byt l) (j : Nat) : 0 ≤ rdJ l j ∧ rdJ l j < 2 ^ (8 * j) := by
  induction j with
  | zero => simp [rdJ]
  | succ j ih =>
    have h1 := h j
    have h2 : (0 : Int) < 2 ^ (8 * j) := Int.pow_pos (by decide)
    have h3 : (2 : Int) ^ (8 * (j + 1)) = 2 ^ (8 * j) * 256 := by rw [show 8 * (j + 1) = 8 * j + 8 by omega, Int.pow_add]; rfl
    have h4 : 0 ≤ l.getD j 0 * 2 ^ (8 * j) := Int.mul_nonneg h1.1 (Int.le_of_lt h2)
    have h5 : l.getD j 0 * 2 ^ (8 * j) ≤ 255 * 2 ^ (8 * j) := Int.mul_le_mul_of_nonneg_right (by omega) (Int.le_of_lt h2)
    simp only [rdJ]
    omega
/-- The j-th index stands in the slot. -/
def BZ (j : Nat) (q : Value) : Prop := (j = 0 ∧ q = .int .i64 0) ∨ (j = 1 ∧ q = .int .i64 1) ∨ (j = 2 ∧ q = .int .i64 2) ∨ (j = 3 ∧ q = .int .i64 3) ∨ (j = 4 ∧ q = .int .i64 4)
set_option maxRecDepth 100000 in
theorem read_any (l : List Int) (hb : Byt l) (hl : l.length ≤ 4) (v : Value) (w : World) (hv : Ints .u8 w v l) : Calls Try.prog 58 #[v] w fun e w' => e = .returned (.int .u32 (rdJ l l.length)) ∧ w = w' := by
  have HV := Lib.hid hv
  have HLE := Lib.hid hl
  have HBY := Lib.hid hb
  obtain ⟨a, c, rfl, hm1, hm⟩ := hv.shape
  clear hv hl hb
  go_enter Try.func58, Try.ntmps58
  go_wp2_with fail
  go_loopw [3, 8] (fun nv jv wr => ∃ j : Nat, j ≤ l.length ∧ BZ j jv ∧ nv = .int .u32 (rdJ l j) ∧ w = wr) (fun _ jv _ => 4 - (intOf jv).toNat)
  case atStart => exact ⟨0, Nat.zero_le _, .inl ⟨rfl, rfl⟩, rfl, rfl⟩
  case round =>
    obtain ⟨j, hj, hz, rfl, rfl⟩ := hrel
    have HLL : Hid (rdJ l l.length = rdJ l l.length) := Lib.hid rfl
    rcases hz with ⟨rfl, rfl⟩ | ⟨rfl, rfl⟩ | ⟨rfl, rfl⟩ | ⟨rfl, rfl⟩ | ⟨rfl, rfl⟩
    · have hbd := rdJ_bd HBY.out 0
      obtain ⟨hb1, hb2⟩ := hbd
      by_cases hlt : 0 < l.length
      · have d1 : decide ((0 : Int) < l.length) = true := decide_eq_true (by omega)
        have hx := HV.out.at hlt
        obtain ⟨b, q, c', e, h1, h2, h3⟩ := hx
        cases e
        rw [Nat.add_zero] at h3
        have hby := HBY.out 0
        obtain ⟨hy0, hy1⟩ := hby
        have HS : Hid (rdJ l 1 = rdJ l 0 + l.getD 0 0 * 1) := Lib.hid (by simp [rdJ])
        have HJ : ∀ n x : Int, 0 ≤ n → n < 1 → 0 ≤ x → x < 256 → bits .or .u32 n (x) = n + x * 1 := fun n x q1 q2 q3 q4 => by have := or_join (t := 0) q1 q2 q3 (by omega) (by omega); simpa using this
        have hjj := HJ (rdJ l 0) (l.getD 0 0) hb1 (by simpa using hb2) hy0 hy1
        clear HJ
        generalize rdJ l 0 = n at *
        generalize l.getD 0 0 = x at *
        go_wp2_with fail
        go_roundw
        case rel => exact ⟨1, hlt, by simp [BZ], by simp [HS.out], trivial⟩
        case measure => simp [intOf]
      · have d1 : decide ((0 : Int) < l.length) = false := decide_eq_false (by omega)
        have HE : Hid (l.length = 0) := Lib.hid (by omega)
        go_wp2_with fail
        go_ret
        exact ⟨by rw [HE.out]; rfl, rfl⟩
    · have hbd := rdJ_bd HBY.out 1
      obtain ⟨hb1, hb2⟩ := hbd
      by_cases hlt : 1 < l.length
      · have d1 : decide ((1 : Int) < l.length) = true := decide_eq_true (by omega)
        have hx := HV.out.at hlt
        obtain ⟨b, q, c', e, h1, h2, h3⟩ := hx
        cases e
        skip
        have hby := HBY.out 1
        obtain ⟨hy0, hy1⟩ := hby
        have HS : Hid (rdJ l 2 = rdJ l 1 + l.getD 1 0 * 256) := Lib.hid (by simp [rdJ])
        have HJ : ∀ n x : Int, 0 ≤ n → n < 256 → 0 ≤ x → x < 256 → bits .or .u32 n (x * 256) = n + x * 256 := fun n x q1 q2 q3 q4 => or_join (t := 8) q1 q2 q3 (by omega) (by omega)
        have hjj := HJ (rdJ l 1) (l.getD 1 0) hb1 (by simpa using hb2) hy0 hy1
        clear HJ
        generalize rdJ l 1 = n at *
        generalize l.getD 1 0 = x at *
        go_wp2_with fail
        go_roundw
        case rel => exact ⟨2, hlt, by simp [BZ], by simp [HS.out], trivial⟩
        case measure => simp [intOf]
      · have d1 : decide ((1 : Int) < l.length) = false := decide_eq_false (by omega)
        have HE : Hid (l.length = 1) := Lib.hid (by omega)
        go_wp2_with fail
        go_ret
        exact ⟨by rw [HE.out]; rfl, rfl⟩
    · have hbd := rdJ_bd HBY.out 2
      obtain ⟨hb1, hb2⟩ := hbd
      by_cases hlt : 2 < l.length
      · have d1 : decide ((2 : Int) < l.length) = true := decide_eq_true (by omega)
        have hx := HV.out.at hlt
        obtain ⟨b, q, c', e, h1, h2, h3⟩ := hx
        cases e
        skip
        have hby := HBY.out 2
        obtain ⟨hy0, hy1⟩ := hby
        have HS : Hid (rdJ l 3 = rdJ l 2 + l.getD 2 0 * 65536) := Lib.hid (by simp [rdJ])
        have HJ : ∀ n x : Int, 0 ≤ n → n < 65536 → 0 ≤ x → x < 256 → bits .or .u32 n (x * 65536) = n + x * 65536 := fun n x q1 q2 q3 q4 => or_join (t := 16) q1 q2 q3 (by omega) (by omega)
        have hjj := HJ (rdJ l 2) (l.getD 2 0) hb1 (by simpa using hb2) hy0 hy1
        clear HJ
        generalize rdJ l 2 = n at *
        generalize l.getD 2 0 = x at *
        go_wp2_with fail
        go_roundw
        case rel => exact ⟨3, hlt, by simp [BZ], by simp [HS.out], trivial⟩
        case measure => simp [intOf]
      · have d1 : decide ((2 : Int) < l.length) = false := decide_eq_false (by omega)
        have HE : Hid (l.length = 2) := Lib.hid (by omega)
        go_wp2_with fail
        go_ret
        exact ⟨by rw [HE.out]; rfl, rfl⟩
    · have hbd := rdJ_bd HBY.out 3
      obtain ⟨hb1, hb2⟩ := hbd
      by_cases hlt : 3 < l.length
      · have d1 : decide ((3 : Int) < l.length) = true := decide_eq_true (by omega)
        have hx := HV.out.at hlt
        obtain ⟨b, q, c', e, h1, h2, h3⟩ := hx
        cases e
        skip
        have hby := HBY.out 3
        obtain ⟨hy0, hy1⟩ := hby
        have HS : Hid (rdJ l 4 = rdJ l 3 + l.getD 3 0 * 16777216) := Lib.hid (by simp [rdJ])
        have HJ : ∀ n x : Int, 0 ≤ n → n < 16777216 → 0 ≤ x → x < 256 → bits .or .u32 n (x * 16777216) = n + x * 16777216 := fun n x q1 q2 q3 q4 => or_join (t := 24) q1 q2 q3 (by omega) (by omega)
        have hjj := HJ (rdJ l 3) (l.getD 3 0) hb1 (by simpa using hb2) hy0 hy1
        clear HJ
        generalize rdJ l 3 = n at *
        generalize l.getD 3 0 = x at *
        go_wp2_with fail
        go_roundw
        case rel => exact ⟨4, hlt, by simp [BZ], by simp [HS.out], trivial⟩
        case measure => simp [intOf]
      · have d1 : decide ((3 : Int) < l.length) = false := decide_eq_false (by omega)
        have HE : Hid (l.length = 3) := Lib.hid (by omega)
        go_wp2_with fail
        go_ret
        exact ⟨by rw [HE.out]; rfl, rfl⟩
    · have hbd := rdJ_bd HBY.out 4
      obtain ⟨hb1, hb2⟩ := hbd
      by_cases hlt : 4 < l.length
      · have := HLE.out; omega
      · have d1 : decide ((4 : Int) < l.length) = false := decide_eq_false (by omega)
        have HE : Hid (l.length = 4) := Lib.hid (by omega)
        go_wp2_with fail
        go_ret
        exact ⟨by rw [HE.out]; rfl, rfl⟩
end Go.Proofs.Ytdojafpjipcbjaa
namespace Go.Proofs.Ytdojafpjipcbjaa
open Go.RowKit
set_option linter.unusedVariables false
set_option linter.unusedSimpArgs false
theorem rdB_snoc (k : Nat) : ∀ l : List Int, rdB l (k + 1) = rdB l k + l.getD k 0 * 2 ^ (8 * k) := by
  induction k with
  | zero => intro l; cases l <;> simp [rdB]
  | succ k ih =>
    intro l
    cases l with
    | nil => simp [rdB]
    | cons b r =>
      have e : (2 : Int) ^ (8 * (k + 1)) = 2 ^ (8 * k) * 256 := by rw [show 8 * (k + 1) = 8 * k + 8 by omega, Int.pow_add]; rfl
      rw [rdB, ih r, rdB, List.getD_cons_succ, e, Int.mul_add, ← Int.mul_assoc, Int.mul_comm _ (256 : Int), Int.add_assoc, Int.mul_comm 256 (r.getD k 0), Int.mul_assoc (r.getD k 0)]
theorem rdJ_rdB (l : List Int) (k : Nat) : rdJ l k = rdB l k := by
  induction k with
  | zero => simp [rdJ, rdB]
  | succ k ih => rw [rdJ, ih, rdB_snoc]
theorem rdJ_congr {l l' : List Int} (k : Nat) (h : ∀ i, i < k → l.getD i 0 = l'.getD i 0) : rdJ l k = rdJ l' k := by
  induction k with
  | zero => rfl
  | succ k ih => rw [rdJ, rdJ, ih (fun i hi => h i (by omega)), h k (by omega)]
theorem rdN_get (l : List Int) (n k : Nat) : ∀ i, i < k → (rdN l n k).getD i 0 = l.getD (n + i) 0 := by
  induction k with
  | zero => intro i hi; omega
  | succ k ih =>
    intro i hi
    rw [rdN]
    by_cases h : i < k
    · rw [← ih i h]; simp [List.getD, List.getElem?_append_left (show i < (rdN l n k).length by rw [rdN_length]; omega)]
    · obtain rfl : i = k := by omega
      simp [List.getD, List.getElem?_append_right (show (rdN l n i).length ≤ i by rw [rdN_length]; omega), rdN_length]
theorem rdN_rdB (l : List Int) (n k : Nat) : rdJ (rdN l n k) (rdN l n k).length = rdB (l.drop n) k := by
  rw [rdN_length, ← rdJ_rdB]
  exact rdJ_congr k fun i hi => by rw [rdN_get l n k i hi]; simp [List.getD, List.getElem?_drop]
theorem rdN_byt {l : List Int} (h : Byt l) (n k : Nat) : Byt (rdN l n k) := by
  intro i
  by_cases hi : i < k
  · rw [rdN_get l n k i hi]; exact h _
  · rw [show (rdN l n k).getD i 0 = 0 by simp [List.getD, List.getElem?_eq_none (show (rdN l n k).length ≤ i by rw [rdN_length]; omega)]]; decide
theorem rd_num (v : Value) (B n k : Nat) (l : List Int) (w : World) (h : RdL w B v l n) (hb : Byt l) (hk : k ≤ 4) :
    Calls Try.prog 42 #[.pointer (some ⟨B, 0, none⟩), .int .i64 k] w fun e w' => e = .returned (.int .u32 (rdB (l.drop n) k)) ∧ RdL w' B v l (n + k) ∧ But B w w' :=
  rd_number v B n k l w h hk _ fun v1 w1 h1 => by
    have := read_any (rdN l n k) (rdN_byt hb n k) (by rw [rdN_length]; omega) v1 w1 h1
    rw [rdN_rdB] at this
    exact this
theorem rdB_bd {l : List Int} (h : Byt l) (n : Nat) : 0 ≤ rdB (l.drop n) 4 ∧ rdB (l.drop n) 4 < 4294967296 := by
  have := rdJ_bd (rdN_byt h n 4) 4
  rw [show rdJ (rdN l n 4) 4 = rdB (l.drop n) 4 by rw [← rdN_rdB l n 4, rdN_length]] at this
  exact this
set_option maxRecDepth 100000 in
theorem wide_any (v : Value) (B n : Nat) (l : List Int) (w : World) (h : RdL w B v l n) (hb : Byt l) : Calls Try.prog 44 #[.pointer (some ⟨B, 0, none⟩)] w fun e w' => e = .returned (.int .i64 (sg32 (rdB (l.drop n) 4))) ∧ RdL w' B v l (n + 4) ∧ But B w w' := by
  have C1 := rd_num v B n 4 l w h hb (by decide)
  rw [show ((4 : Nat) : Int) = 4 from rfl] at C1
  have C0 := Lib.hid C1
  clear C1
  have hbd := rdB_bd hb n
  obtain ⟨hb1, hb2⟩ := hbd
  have HS : Hid (∀ x : Int, 0 ≤ x → x < 4294967296 → IntKind.i32.wrap x = sg32 x) := Lib.hid fun x h1 h2 => by
    unfold sg32; simp only [IntKind.wrap_i32]; split <;> omega
  have hs := HS.out _ hb1 hb2
  have HW : Hid (wrap64 (sg32 (rdB (l.drop n) 4)) = sg32 (rdB (l.drop n) 4)) := Lib.hid (IntWalk.wrap64_in _ (by unfold sg32; split <;> omega))
  clear h hb
  go_enter Try.func44, Try.ntmps44
  go_wp2_with ((go_at_call 42; with_reducible refine C0.out.mono ?_); rintro e w1 ⟨rfl, hr1, hb1⟩; have HR1 := Lib.hid hr1; have HB1 := Lib.hid hb1; clear hr1 hb1)
  go_ret
  exact ⟨congrArg (fun n => Ending.returned (.int .i64 n)) HW.out, HR1.out, HB1.out⟩
end Go.Proofs.Ytdojafpjipcbjaa
