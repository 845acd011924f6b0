/- Instructions and their bytes: the plain law of coding and reading (no program in sight). -/
import Derived.Laws.AppendOwn
import Derived.Maps.AppendAt
import Derived.Laws.Bits128
import Derived.Test.YtdojafpjipcbjaaJ1
namespace Go.Proofs.Ytdojafpjipcbjaa
set_option linter.unusedVariables false
set_option linter.unusedSimpArgs false
/-- An instruction: operation, two registers, size, number. -/
structure Ins where
  o : Int
  d : Int
  s : Int
  z : Int
  i : Int
  deriving DecidableEq, Inhabited
/-- The lowest bytes of a number, the lowest one first. -/
def leB (n : Int) : Nat → List Int
  | 0 => []
  | k + 1 => n % 256 :: leB (n / 256) k
/-- The number of the first bytes of a list; what is not there counts nothing. -/
def rdB : List Int → Nat → Int
  | _, 0 => 0
  | [], _ + 1 => 0
  | b :: r, k + 1 => b + 256 * rdB r k
theorem leB_length (n : Int) (k : Nat) : (leB n k).length = k := by
  induction k generalizing n with
  | zero => rfl
  | succ k ih => simp [leB, ih]
theorem rdB_leB (n : Int) (k : Nat) (r : List Int) : rdB (leB n k ++ r) k = n % 256 ^ k := by
  induction k generalizing n with
  | zero => simp [rdB, Int.emod_one]
  | succ k ih =>
    show n % 256 + 256 * rdB (leB (n / 256) k ++ r) k = _
    rw [ih]
    have hp : (0 : Int) < 256 ^ k := Int.pow_pos (by decide)
    have e : (256 : Int) ^ (k + 1) = 256 * 256 ^ k := by rw [Int.pow_succ, Int.mul_comm]
    rw [e]
    have h1 := Int.emod_add_mul_ediv (n / 256) (256 ^ k)
    have h2 := Int.emod_add_mul_ediv n 256
    have h3 := Int.emod_nonneg (n / 256) (by omega : (256 : Int) ^ k ≠ 0)
    have h4 := Int.emod_lt_of_pos (n / 256) hp
    have h5 := Int.emod_nonneg n (by decide : (256 : Int) ≠ 0)
    have h6 := Int.emod_lt_of_pos n (show (0 : Int) < 256 by decide)
    generalize n / 256 = q at *
    have e2 : n = (n % 256 + 256 * (q % 256 ^ k)) + (256 * 256 ^ k) * (q / 256 ^ k) := by
      have : (256 * 256 ^ k) * (q / 256 ^ k) = 256 * (256 ^ k * (q / 256 ^ k)) := by rw [Int.mul_assoc]
      rw [this]; omega
    generalize n % 256 = m at *
    generalize q % 256 ^ k = t at *
    generalize q / 256 ^ k = u at *
    rw [e2, Int.add_mul_emod_self_left]
    refine (Int.emod_eq_of_lt (by omega) ?_).symm
    have : 256 * t + 256 ≤ 256 * 256 ^ k := by omega
    omega
def mrB (r m : Int) : Int := (192 + 8 * r + m) % 256
def mmB (r m i : Int) : List Int := (128 + 8 * r + m) % 256 :: leB i 4
/-- 2^z for the three sizes. -/
def pwZ (z : Int) : Int := 2 ^ z.toNat
/-- The signed value of a number of z bits. -/
def sgB (n z : Int) : Int := if 2 ^ (z.toNat - 1) ≤ n then n - pwZ z else n
def isR (n : Int) : Bool := decide (0 ≤ n) && decide (n ≤ 7)
def isL (n : Int) : Bool := decide (0 ≤ n) && decide (n ≤ 3)
def isM (n : Int) : Bool := isR n && (n != 4)
def isC (n : Int) : Bool := decide (0 ≤ n) && (decide (n ≤ 15) && (n != 10 && n != 11))
def isB (n : Int) : Bool := decide (-128 ≤ n) && decide (n ≤ 127)
def isW4 (n : Int) : Bool := decide (-2147483648 ≤ n) && decide (n ≤ 2147483647)
def inZ (n z : Int) : Bool := decide (0 ≤ n) && decide (n ≤ pwZ z - 1)
/-- The number in the second byte of an operation. -/
def digI (o : Int) : Int :=
  if o = 14 then 0 else if o = 15 then 1 else if o = 16 ∨ o = 21 then 4 else if o = 17 ∨ o = 22 then 5 else if o = 18 ∨ o = 26 then 6
  else if o = 19 ∨ o = 23 ∨ o = 27 then 7 else if o = 24 then 2 else if o = 25 then 3 else -1
/-- The first byte of an operation of two registers. -/
def ariI (o : Int) : Int :=
  if o = 7 then 1 else if o = 8 then 9 else if o = 9 then 33 else if o = 10 then 41 else if o = 11 then 49 else if o = 12 then 57 else if o = 13 then 133 else 0
/-- The sizes that an operation may have. -/
def szI (o : Int) : List Int :=
  if 0 ≤ o ∧ o ≤ 3 then [32, 16] else if 4 ≤ o ∧ o ≤ 6 then [32] else if 7 ≤ o ∧ o ≤ 19 then [32, 16] else if o = 20 then [32]
  else if 21 ≤ o ∧ o ≤ 25 then [32, 16] else if 26 ≤ o ∧ o ≤ 31 then [32] else if o = 32 ∨ o = 33 then [8, 32] else if 34 ≤ o ∧ o ≤ 36 then [32] else []
def fitJ (x : Ins) : Bool := (x.z == 8 && isB x.i) || (x.z == 32 && isW4 x.i)
/-- Whether the fields of an instruction are right, but for its size. -/
def fitI (x : Ins) : Bool :=
  if x.o = 0 ∨ (7 ≤ x.o ∧ x.o ≤ 13) ∨ x.o = 20 then isR x.d && (isR x.s && x.i == 0)
  else if x.o = 1 ∨ (14 ≤ x.o ∧ x.o ≤ 19) then isR x.d && (x.s == 0 && inZ x.i x.z)
  else if x.o = 2 ∨ x.o = 4 ∨ x.o = 5 then isR x.d && (isM x.s && isW4 x.i)
  else if x.o = 3 then isM x.d && (isR x.s && isW4 x.i)
  else if x.o = 6 then isM x.d && (isL x.s && isW4 x.i)
  else if 21 ≤ x.o ∧ x.o ≤ 27 then isR x.d && (x.s == 0 && x.i == 0)
  else if x.o = 28 ∨ x.o = 34 ∨ x.o = 35 ∨ x.o = 36 then x.d == 0 && (x.s == 0 && x.i == 0)
  else if x.o = 29 then isL x.d && (isC x.s && x.i == 0)
  else if x.o = 30 then isR x.d && (isL x.s && x.i == 0)
  else if x.o = 31 then isR x.d && (isR x.s && isC x.i)
  else if x.o = 32 then x.d == 0 && (isC x.s && fitJ x)
  else if x.o = 33 then x.d == 0 && (x.s == 0 && fitJ x)
  else false
def okI (x : Ins) : Bool := (szI x.o).contains x.z && fitI x
/-- The bytes of an instruction, but for that of the size 16. -/
def bodyI (x : Ins) : List Int :=
  if x.o = 0 then [137, mrB x.s x.d]
  else if x.o = 1 then (184 + x.d) % 256 :: leB x.i (x.z / 8).toNat
  else if x.o = 2 then 139 :: mmB x.d x.s x.i
  else if x.o = 3 then 137 :: mmB x.s x.d x.i
  else if x.o = 4 then 15 :: 182 :: mmB x.d x.s x.i
  else if x.o = 5 then 15 :: 183 :: mmB x.d x.s x.i
  else if x.o = 6 then 136 :: mmB x.s x.d x.i
  else if 7 ≤ x.o ∧ x.o ≤ 13 then [ariI x.o, mrB x.s x.d]
  else if 14 ≤ x.o ∧ x.o ≤ 19 then (if -128 ≤ sgB x.i x.z ∧ sgB x.i x.z ≤ 127 then [131, mrB (digI x.o) x.d, x.i % 256] else 129 :: mrB (digI x.o) x.d :: leB x.i (x.z / 8).toNat)
  else if x.o = 20 then [15, 175, mrB x.d x.s]
  else if 21 ≤ x.o ∧ x.o ≤ 23 then [211, mrB (digI x.o) x.d]
  else if 24 ≤ x.o ∧ x.o ≤ 27 then [247, mrB (digI x.o) x.d]
  else if x.o = 28 then [153]
  else if x.o = 29 then [15, (144 + x.s) % 256, mrB 0 x.d]
  else if x.o = 30 then [15, 182, mrB x.d x.s]
  else if x.o = 31 then [15, (64 + x.i) % 256, mrB x.d x.s]
  else if x.o = 32 then (if x.z = 8 then [(112 + x.s) % 256, x.i % 256] else 15 :: (128 + x.s) % 256 :: leB x.i 4)
  else if x.o = 33 then (if x.z = 8 then [235, x.i % 256] else 233 :: leB x.i 4)
  else if x.o = 34 then [244]
  else if x.o = 35 then [15, 11]
  else if x.o = 36 then [144]
  else []
/-- The bytes of an instruction. -/
def encI (x : Ins) : List Int := if x.z = 16 then 102 :: bodyI x else bodyI x
/-! ### reading -/
def sg8 (n : Int) : Int := if 128 ≤ n then n - 256 else n
def sg32 (n : Int) : Int := if 2147483648 ≤ n then n - 4294967296 else n
/-- An operation of two registers, or alone, by its first byte. -/
def oneI (c : Int) : Int :=
  if c = 1 then 7 else if c = 9 then 8 else if c = 33 then 9 else if c = 41 then 10 else if c = 49 then 11 else if c = 57 then 12 else if c = 133 then 13
  else if c = 144 then 36 else if c = 153 then 28 else if c = 244 then 34 else -1
/-- An operation by its first byte and the number in its second one. -/
def grpI (c r : Int) : Int :=
  if c = 129 ∨ c = 131 then (if r = 0 then 14 else if r = 1 then 15 else if r = 4 then 16 else if r = 5 then 17 else if r = 6 then 18 else if r = 7 then 19 else -1)
  else if c = 211 then (if r = 4 then 21 else if r = 5 then 22 else if r = 7 then 23 else -1)
  else (if r = 2 then 24 else if r = 3 then 25 else if r = 6 then 26 else if r = 7 then 27 else -1)
def rF (m : Int) : Int := m / 8 % 8
def mF (m : Int) : Int := m % 8
/-- What begins with 15, as the program reads it: the instruction, and how many bytes are read. -/
def secP (c : List Int) (z : Int) : Ins × Nat :=
  if c.getD 1 0 = 11 then (⟨35, 0, 0, z, 0⟩, 2)
  else if c.getD 1 0 = 175 then (⟨20, rF (c.getD 2 0), mF (c.getD 2 0), z, 0⟩, 3)
  else if c.getD 1 0 = 182 ∨ c.getD 1 0 = 183 then
    (if c.getD 2 0 / 64 = 2 then (⟨c.getD 1 0 - 178, rF (c.getD 2 0), mF (c.getD 2 0), z, sg32 (rdB (c.drop 3) 4)⟩, 7) else (⟨30, rF (c.getD 2 0), mF (c.getD 2 0), z, 0⟩, 3))
  else if 64 ≤ c.getD 1 0 ∧ c.getD 1 0 ≤ 79 then (⟨31, rF (c.getD 2 0), mF (c.getD 2 0), z, c.getD 1 0 - 64⟩, 3)
  else if 144 ≤ c.getD 1 0 ∧ c.getD 1 0 ≤ 159 then (⟨29, mF (c.getD 2 0), c.getD 1 0 - 144, z, 0⟩, 3)
  else if 128 ≤ c.getD 1 0 ∧ c.getD 1 0 ≤ 143 then (⟨32, 0, c.getD 1 0 - 128, z, sg32 (rdB (c.drop 2) 4)⟩, 6)
  else (⟨-1, 0, 0, z, 0⟩, 2)
/-- What moves. -/
def movP (c : List Int) (z : Int) : Ins × Nat :=
  if c.getD 1 0 / 64 = 2 then
    (if c.getD 0 0 = 139 then (⟨2, rF (c.getD 1 0), mF (c.getD 1 0), z, sg32 (rdB (c.drop 2) 4)⟩, 6)
     else if c.getD 0 0 = 137 then (⟨3, mF (c.getD 1 0), rF (c.getD 1 0), z, sg32 (rdB (c.drop 2) 4)⟩, 6)
     else (⟨6, mF (c.getD 1 0), rF (c.getD 1 0), z, sg32 (rdB (c.drop 2) 4)⟩, 6))
  else (⟨0, mF (c.getD 1 0), rF (c.getD 1 0), z, 0⟩, 2)
/-- What the operations of a group are. -/
def grpP (c : List Int) (z : Int) : Ins × Nat :=
  if c.getD 0 0 = 129 then (⟨grpI (c.getD 0 0) (rF (c.getD 1 0)), (if 0 ≤ grpI (c.getD 0 0) (rF (c.getD 1 0)) then mF (c.getD 1 0) else 0), 0, z, rdB (c.drop 2) (z / 8).toNat⟩, 2 + (z / 8).toNat)
  else if c.getD 0 0 = 131 then (⟨grpI (c.getD 0 0) (rF (c.getD 1 0)), (if 0 ≤ grpI (c.getD 0 0) (rF (c.getD 1 0)) then mF (c.getD 1 0) else 0), 0, z, sg8 (c.getD 2 0) % pwZ z⟩, 3)
  else (⟨grpI (c.getD 0 0) (rF (c.getD 1 0)), (if 0 ≤ grpI (c.getD 0 0) (rF (c.getD 1 0)) then mF (c.getD 1 0) else 0), 0, z, 0⟩, 2)
/-- What the program reads of bytes behind that of the size. -/
def gsP (c : List Int) (z : Int) : Ins × Nat :=
  if 0 ≤ oneI (c.getD 0 0) then (if c.getD 0 0 < 144 then (⟨oneI (c.getD 0 0), mF (c.getD 1 0), rF (c.getD 1 0), z, 0⟩, 2) else (⟨oneI (c.getD 0 0), 0, 0, z, 0⟩, 1))
  else if c.getD 0 0 = 137 ∨ c.getD 0 0 = 136 ∨ c.getD 0 0 = 139 then movP c z
  else if 184 ≤ c.getD 0 0 ∧ c.getD 0 0 ≤ 191 then (⟨1, c.getD 0 0 - 184, 0, z, rdB (c.drop 1) (z / 8).toNat⟩, 1 + (z / 8).toNat)
  else if c.getD 0 0 = 129 ∨ c.getD 0 0 = 131 ∨ c.getD 0 0 = 211 ∨ c.getD 0 0 = 247 then grpP c z
  else if 112 ≤ c.getD 0 0 ∧ c.getD 0 0 ≤ 127 then (⟨32, 0, c.getD 0 0 - 112, 8, sg8 (c.getD 1 0)⟩, 2)
  else if c.getD 0 0 = 235 then (⟨33, 0, 0, 8, sg8 (c.getD 1 0)⟩, 2)
  else if c.getD 0 0 = 233 then (⟨33, 0, 0, z, sg32 (rdB (c.drop 1) 4)⟩, 5)
  else if c.getD 0 0 = 15 then secP c z
  else (⟨-1, 0, 0, z, 0⟩, 1)
/-- Where the bytes behind that of the size begin. -/
def preI (b : List Int) : Nat := if b.getD 0 0 = 102 then 1 else 0
def sizI (b : List Int) : Int := if b.getD 0 0 = 102 then 16 else 32
/-- What the program reads of bytes. -/
def decI (b : List Int) : Option (Ins × Nat) :=
  if (preI b + (gsP (b.drop (preI b)) (sizI b)).2 ≤ b.length ∧ okI (gsP (b.drop (preI b)) (sizI b)).1 = true) ∧ encI (gsP (b.drop (preI b)) (sizI b)).1 = b.take (preI b + (gsP (b.drop (preI b)) (sizI b)).2) then
    some ((gsP (b.drop (preI b)) (sizI b)).1, preI b + (gsP (b.drop (preI b)) (sizI b)).2) else none
/-- The number of k bytes from n on, 0 if they are not all there, as the document reads it. -/
def nmR (c : List Int) (n k : Nat) : Int := if n + k ≤ c.length then rdB (c.drop n) k else 0
/-- An operation of two registers by its first byte, as the document has it. -/
def twoR (c : Int) : Int :=
  if c = 1 then 7 else if c = 9 then 8 else if c = 33 then 9 else if c = 41 then 10 else if c = 49 then 11 else if c = 57 then 12 else if c = 133 then 13 else if c = 137 then 0 else -1
def secR (c : List Int) : Ins :=
  if nmR c 1 1 = 11 then ⟨35, 0, 0, 32, 0⟩
  else if nmR c 1 1 = 175 then ⟨20, rF (nmR c 2 1), mF (nmR c 2 1), 32, 0⟩
  else if nmR c 1 1 = 182 ∧ 192 ≤ nmR c 2 1 then ⟨30, rF (nmR c 2 1), mF (nmR c 2 1), 32, 0⟩
  else if nmR c 1 1 = 182 then ⟨4, rF (nmR c 2 1), mF (nmR c 2 1), 32, sg32 (nmR c 3 4)⟩
  else if nmR c 1 1 = 183 then ⟨5, rF (nmR c 2 1), mF (nmR c 2 1), 32, sg32 (nmR c 3 4)⟩
  else if 144 ≤ nmR c 1 1 ∧ nmR c 1 1 ≤ 159 then ⟨29, mF (nmR c 2 1), nmR c 1 1 - 144, 32, 0⟩
  else if 64 ≤ nmR c 1 1 ∧ nmR c 1 1 ≤ 79 then ⟨31, rF (nmR c 2 1), mF (nmR c 2 1), 32, nmR c 1 1 - 64⟩
  else if 128 ≤ nmR c 1 1 ∧ nmR c 1 1 ≤ 143 then ⟨32, 0, nmR c 1 1 - 128, 32, sg32 (nmR c 2 4)⟩
  else ⟨-1, 0, 0, 0, 0⟩
/-- What the document reads of bytes behind that of the size. -/
def gsR (c : List Int) (z : Int) : Ins :=
  if c.length = 0 then ⟨-1, 0, 0, 0, 0⟩
  else if nmR c 0 1 = 15 then secR c
  else if nmR c 0 1 = 137 ∧ 128 ≤ nmR c 1 1 ∧ nmR c 1 1 < 192 then ⟨3, mF (nmR c 1 1), rF (nmR c 1 1), z, sg32 (nmR c 2 4)⟩
  else if nmR c 0 1 = 139 then ⟨2, rF (nmR c 1 1), mF (nmR c 1 1), z, sg32 (nmR c 2 4)⟩
  else if nmR c 0 1 = 136 then ⟨6, mF (nmR c 1 1), rF (nmR c 1 1), z, sg32 (nmR c 2 4)⟩
  else if 0 ≤ twoR (nmR c 0 1) then ⟨twoR (nmR c 0 1), mF (nmR c 1 1), rF (nmR c 1 1), z, 0⟩
  else if 184 ≤ nmR c 0 1 ∧ nmR c 0 1 ≤ 191 then ⟨1, nmR c 0 1 - 184, 0, z, nmR c 1 (z / 8).toNat⟩
  else if nmR c 0 1 = 131 then ⟨grpI 131 (rF (nmR c 1 1)), mF (nmR c 1 1), 0, z, sg8 (nmR c 2 1) % pwZ z⟩
  else if nmR c 0 1 = 129 then ⟨grpI 129 (rF (nmR c 1 1)), mF (nmR c 1 1), 0, z, nmR c 2 (z / 8).toNat⟩
  else if nmR c 0 1 = 211 then ⟨grpI 211 (rF (nmR c 1 1)), mF (nmR c 1 1), 0, z, 0⟩
  else if nmR c 0 1 = 247 then ⟨grpI 247 (rF (nmR c 1 1)), mF (nmR c 1 1), 0, z, 0⟩
  else if 112 ≤ nmR c 0 1 ∧ nmR c 0 1 ≤ 127 then ⟨32, 0, nmR c 0 1 - 112, 8, sg8 (nmR c 1 1)⟩
  else if nmR c 0 1 = 235 then ⟨33, 0, 0, 8, sg8 (nmR c 1 1)⟩
  else if nmR c 0 1 = 233 then ⟨33, 0, 0, 32, sg32 (nmR c 1 4)⟩
  else if nmR c 0 1 = 153 then ⟨28, 0, 0, z, 0⟩
  else if nmR c 0 1 = 244 then ⟨34, 0, 0, z, 0⟩
  else if nmR c 0 1 = 144 then ⟨36, 0, 0, z, 0⟩
  else ⟨-1, 0, 0, 0, 0⟩
/-- What the document reads of bytes. -/
def decR (b : List Int) : Option (Ins × Nat) :=
  if okI (gsR (b.drop (preI b)) (sizI b)) = true ∧ encI (gsR (b.drop (preI b)) (sizI b)) <+: b then some (gsR (b.drop (preI b)) (sizI b), (encI (gsR (b.drop (preI b)) (sizI b))).length) else none
end Go.Proofs.Ytdojafpjipcbjaa
namespace Go.Proofs.Ytdojafpjipcbjaa
open Go.RowKit
set_option linter.unusedVariables false
set_option linter.unusedSimpArgs false
theorem isReg_any (n : Int) (w : World) : Calls Try.prog 75 #[.int .i64 n] w fun e w' => e = .returned (.bool (isR n)) ∧ w = w' := by
  unfold isR
  cases h1 : decide (0 ≤ n)
  all_goals
    go_enter Try.func75, Try.ntmps75
    go_wp2
    go_ret
    exact ⟨rfl, rfl⟩
theorem isLow_any (n : Int) (w : World) : Calls Try.prog 82 #[.int .i64 n] w fun e w' => e = .returned (.bool (isL n)) ∧ w = w' := by
  unfold isL
  cases h1 : decide (0 ≤ n)
  all_goals
    go_enter Try.func82, Try.ntmps82
    go_wp2
    go_ret
    exact ⟨rfl, rfl⟩
theorem isCond_any (n : Int) (w : World) : Calls Try.prog 32 #[.int .i64 n] w fun e w' => e = .returned (.bool (isC n)) ∧ w = w' := by
  unfold isC
  cases h1 : decide (0 ≤ n) <;> cases h2 : decide (n ≤ 15) <;> cases h3 : (n != 10)
  all_goals
    go_enter Try.func32, Try.ntmps32
    go_wp2
    go_ret
    exact ⟨rfl, rfl⟩
theorem within_ia (n a b : Int) (w : World) : Calls Try.prog 76 #[.int .i64 n, .int .i64 a, .int .i64 b] w fun e w' => e = .returned (.bool (decide (a ≤ n) && decide (n ≤ b))) ∧ w = w' := by
  cases h1 : decide (a ≤ n)
  all_goals
    go_enter Try.func76, Try.ntmps76
    go_wp2
    go_ret
    exact ⟨rfl, rfl⟩
theorem isWide_any (n : Int) (w : World) : Calls Try.prog 115 #[.int .i64 n] w fun e w' => e = .returned (.bool (isW4 n)) ∧ w = w' := by
  unfold isW4
  go_enter Try.func115, Try.ntmps115
  go_wp2_with (go_at_call 76; refine (within_ia _ _ _ _).mono ?_; rintro e w' ⟨rfl, rfl⟩)
  go_ret
  exact ⟨rfl, rfl⟩
theorem isMemory_any (n : Int) (w : World) : Calls Try.prog 114 #[.int .i64 n] w fun e w' => e = .returned (.bool (isM n)) ∧ w = w' := by
  unfold isM
  have C := Lib.hid (isReg_any n w)
  cases h1 : isR n <;> rw [h1] at C
  all_goals
    go_enter Try.func114, Try.ntmps114
    go_wp2_with (go_at_call 75; refine C.out.mono ?_; rintro e w' ⟨rfl, rfl⟩)
    go_ret
    exact ⟨rfl, rfl⟩
/-- A number within the reach of int. -/
def I64 (n : Int) : Prop := -9223372036854775808 ≤ n ∧ n ≤ 9223372036854775807
theorem wrap_b (x : Int) : wrap64 x % 256 = x % 256 := by unfold wrap64; omega
theorem wrap_add_l (x y : Int) : wrap64 (wrap64 x + y) = wrap64 (x + y) := by unfold wrap64; omega
theorem wrap_add_r (x y : Int) : wrap64 (x + wrap64 y) = wrap64 (x + y) := by unfold wrap64; omega
theorem mr_any (r m : Int) (w : World) : Calls Try.prog 86 #[.int .i64 r, .int .i64 m] w fun e w' => e = .returned (.int .u8 (mrB r m)) ∧ w = w' := by
  go_enter Try.func86, Try.ntmps86
  go_wp2
  go_ret
  exact ⟨ret_i (by unfold mrB wrap64; omega), rfl⟩
theorem rmr_any (r m : Int) (w : World) : Calls Try.prog 66 #[.int .i64 r, .int .i64 m] w fun e w' => e = .returned (.int .u8 (mrB r m)) ∧ w = w' := by
  go_enter Try.func66, Try.ntmps66
  go_wp2
  go_ret
  exact ⟨ret_i (by unfold mrB wrap64; omega), rfl⟩
theorem isReg_ref (n : Int) (w : World) : Calls Try.prog 64 #[.int .i64 n] w fun e w' => e = .returned (.bool (isR n)) ∧ w = w' := by
  unfold isR
  cases h1 : decide (0 ≤ n)
  all_goals
    go_enter Try.func64, Try.ntmps64
    go_wp2
    go_ret
    exact ⟨rfl, rfl⟩
theorem low_ref (n : Int) (w : World) : Calls Try.prog 70 #[.int .i64 n] w fun e w' => e = .returned (.bool (isL n)) ∧ w = w' := by
  unfold isL
  cases h1 : decide (0 ≤ n)
  all_goals
    go_enter Try.func70, Try.ntmps70
    go_wp2
    go_ret
    exact ⟨rfl, rfl⟩
theorem isCond_ref (n : Int) (w : World) : Calls Try.prog 34 #[.int .i64 n] w fun e w' => e = .returned (.bool (isC n)) ∧ w = w' := by
  unfold isC
  cases h1 : decide (0 ≤ n) <;> cases h2 : decide (n ≤ 15) <;> cases h3 : (n != 10)
  all_goals
    go_enter Try.func34, Try.ntmps34
    go_wp2
    go_ret
    exact ⟨rfl, rfl⟩
theorem fits_ref (n z : Int) (w : World) (hz : z = 8 ∨ z = 16 ∨ z = 32) : Calls Try.prog 68 #[.int .i64 n, .int .i64 z] w fun e w' => e = .returned (.bool (inZ n z)) ∧ w = w' := by
  rcases hz with rfl | rfl | rfl
  all_goals
    unfold inZ
    cases h1 : decide (0 ≤ n)
    all_goals
      go_enter Try.func68, Try.ntmps68
      go_wp2
      go_ret
      exact ⟨ret_b (by first | rfl | (simp only [Bool.true_and, pwZ]; congr 1; simp; omega)), rfl⟩
theorem between_8 (n : Int) (w : World) : Calls Try.prog 65 #[.int .i64 n, .int .i64 8] w fun e w' => e = .returned (.bool (isB n)) ∧ w = w' := by
  unfold isB
  cases h1 : decide (-128 ≤ n)
  all_goals
    go_enter Try.func65, Try.ntmps65
    go_wp2
    go_ret
    exact ⟨ret_b (by first | rfl | (simp only [Bool.true_and]; congr 1; simp; omega)), rfl⟩
theorem between_32 (n : Int) (w : World) : Calls Try.prog 65 #[.int .i64 n, .int .i64 32] w fun e w' => e = .returned (.bool (isW4 n)) ∧ w = w' := by
  unfold isW4
  cases h1 : decide (-2147483648 ≤ n)
  all_goals
    go_enter Try.func65, Try.ntmps65
    go_wp2
    go_ret
    exact ⟨ret_b (by first | rfl | (simp only [Bool.true_and]; congr 1; simp; omega)), rfl⟩
end Go.Proofs.Ytdojafpjipcbjaa
namespace Go.Proofs.Ytdojafpjipcbjaa
open Go.RowKit
set_option linter.unusedVariables false
set_option linter.unusedSimpArgs false
theorem i64_and (n c : Int) (k : Nat) (hk : k ≤ 62) (hc : c = 2 ^ k - 1) : bits .and .i64 n c = n % 2 ^ k := by
  have hp : (2 : Nat) ^ k ≤ 2 ^ 62 := Nat.pow_le_pow_right (by decide) hk
  have hp0 : 0 < (2 : Nat) ^ k := Nat.two_pow_pos k
  have e : ((2 : Int) ^ k) = ((2 ^ k : Nat) : Int) := by simp
  rw [e] at hc ⊢
  have hm : (BitVec.ofInt 64 c).toNat = 2 ^ k - 1 := by
    rw [BitVec.toNat_ofInt, hc]
    generalize (2 : Nat) ^ k = p at *
    have : ((p : Int) - 1) % ((2 ^ 64 : Nat) : Int) = (p : Int) - 1 := Int.emod_eq_of_lt (by omega) (by omega)
    rw [this]; omega
  have key : (BitVec.ofInt 64 n &&& BitVec.ofInt 64 c).toNat = (n % ((2 ^ 64 : Nat) : Int)).toNat % 2 ^ k := by
    rw [BitVec.toNat_and, BitVec.toNat_ofInt, hm, Nat.and_two_pow_sub_one_eq_mod]
  show IntKind.i64.wrap ((BitVec.ofInt 64 n &&& BitVec.ofInt 64 c).toNat : Nat) = _
  rw [key, IntKind.wrap_i64]
  have hd : (2 : Nat) ^ k ∣ 2 ^ 64 := Nat.pow_dvd_pow 2 (by omega)
  have h1 := Nat.mod_lt (n % ((2 ^ 64 : Nat) : Int)).toNat hp0
  have h2 : ((((n % ((2 ^ 64 : Nat) : Int)).toNat % 2 ^ k : Nat)) : Int) = n % ((2 ^ k : Nat) : Int) := by
    rw [Int.natCast_emod, Int.toNat_of_nonneg (Int.emod_nonneg _ (by decide)), Int.emod_emod_of_dvd _ (Int.natCast_dvd_natCast.2 hd)]
  rw [← h2]
  generalize (n % ((2 ^ 64 : Nat) : Int)).toNat % 2 ^ k = t at *
  omega
theorem i64_and255 (n : Int) : bits .and .i64 n 255 = n % 256 := i64_and n 255 8 (by decide) rfl
theorem info_u8 : (Try.prog.info? 5).map (fun i => (i.zero, i.size, i.bytes)) = some (some (.int .u8 0), 1, 1) := by kernel_rfl
/-- n / 256^j. -/
def shB (n : Int) : Nat → Int
  | 0 => n
  | j + 1 => shB n j / 256
theorem leB_snoc (n : Int) (j : Nat) : leB n (j + 1) = leB n j ++ [shB n j % 256] := by
  have e : ∀ (j : Nat) (n : Int), shB (n / 256) j = shB n (j + 1) := by
    intro j
    induction j with
    | zero => intro n; rfl
    | succ j ih => intro n; show shB (n / 256) j / 256 = shB n (j + 1) / 256; rw [ih]
  induction j generalizing n with
  | zero => rfl
  | succ j ih =>
    show n % 256 :: leB (n / 256) (j + 1) = n % 256 :: (leB (n / 256) j ++ [shB n (j + 1) % 256])
    rw [ih, e]
theorem shB_i64 {n : Int} (h : I64 n) (j : Nat) : I64 (shB n j) := by
  unfold I64 at *
  induction j with
  | zero => exact h
  | succ j ih => show _ ≤ shB n j / 256 ∧ shB n j / 256 ≤ _; omega
theorem leB_take (n : Int) (k j : Nat) (h : j ≤ k) : (leB n k).take j = leB n j := by
  induction k generalizing n j with
  | zero => cases j with | zero => rfl | succ j => exact absurd h (by omega)
  | succ k ih =>
    cases j with
    | zero => rfl
    | succ j => show n % 256 :: (leB (n / 256) k).take j = _; rw [ih _ _ (by omega)]; rfl
set_option maxHeartbeats 1000000 in
theorem number_any (n : Int) (k : Nat) (w : World) (hn : I64 n) (hk : k ≤ 8) : Calls Try.prog 78 #[.int .i64 n, .int .i64 (k : Int)] w fun e w' => ∃ v, e = .returned v ∧ RowI w' w.heap.size 5 .u8 v (leB n k) ∧ Below w.heap.size w w' := by
  obtain ⟨i0, hi0, hz0, hz1, hz2⟩ := info_parts info_u8
  have HN := Lib.hid hn
  clear hn
  go_enter Try.func78, Try.ntmps78
  go_wp2_with fail
  go_loopw [0, 5, 7] (fun m v i wr => ∃ j : Nat, j ≤ k ∧ m = .int .i64 (shB n j) ∧ i = .int .i64 j ∧ RowI wr w.heap.size 5 .u8 v (leB n j) ∧ Below w.heap.size w wr) (fun _ _ i _ => k - (intOf i).toNat)
  case atStart => exact ⟨0, Nat.zero_le _, rfl, rfl, RowI.nil _ _ _ _, Below.refl _ _⟩
  case round =>
    obtain ⟨j, hj, rfl, rfl, hrow, hb⟩ := hrel
    have hsz := hb.size
    have HB := Lib.hid hb
    clear hb
    by_cases hlt : j < k
    · have HS := Lib.hid (leB_snoc n j)
      have HT : Hid (shB n (j + 1) = shB n j / 256) := rfl
      have hq := shB_i64 HN.out j
      unfold I64 at hq
      have htl := leB_length n j
      generalize shB n j = m at *
      generalize leB n j = l at *
      obtain ⟨va, vc, rfl⟩ := hrow.shape
      unfold RowI at hrow
      rw [htl] at hrow ⊢
      have HO0 := Lib.hid hrow
      have HTL := Lib.hid htl
      obtain ⟨q1, q2⟩ := hq
      clear htl hrow
      go_wp2_with (at_builtin; refine wpList_append_own _ rfl _ _ 22 rfl w.heap.size 5 i0 (.int .u8 0) 1 1 Try.underlying22 hi0 hz0 hz1 hz2 rfl (by decide) _ _ _ rfl (HO0.out.alloc _) ⟨wr.heap.size, 0, none⟩ 1 1 [.int .u8 (m % 256)] rfl rfl ?c1 ?c2 ?c3 ?c4 ?c5 ?_)
      case c1 =>
        intro i u h
        rcases i with _ | i
        · cases h; simp [go_sem, Addr.add]
        · cases h
      case c2 => simp [Value.oneCell']
      case c3 => unfold maxLen; omega
      case c4 => omega
      case c5 => simp; omega
      intro v' w1 hown' hgrow _
      have HO := Lib.hid hown'
      have HG := Lib.hid hgrow
      clear hown' hgrow
      go_wp2_with fail
      go_roundw
      case rel => exact ⟨j + 1, by omega, by rw [HT.out], by go_num, RowI.app1 HO.out HTL.out HS.out, (HB.out.alloc (by omega) _).grown HG.out (by simp; omega) (own_ge HO0.out)⟩
      case measure => simp [intOf]; omega
    · obtain rfl : j = k := by omega
      go_wp2_with fail
      go_ret
      exact ⟨_, rfl, hrow, HB.out⟩
set_option maxHeartbeats 1000000 in
theorem little_any (n : Int) (k : Nat) (w : World) (hn : I64 n) (hk : k ≤ 8) : Calls Try.prog 67 #[.int .i64 n, .int .i64 (k : Int)] w fun e w' => ∃ v, e = .returned v ∧ RowI w' w.heap.size 5 .u8 v (leB n k) ∧ Below w.heap.size w w' := by
  obtain ⟨i0, hi0, hz0, hz1, hz2⟩ := info_parts info_u8
  have HN := Lib.hid hn
  clear hn
  go_enter Try.func67, Try.ntmps67
  go_wp2_with fail
  go_loopw [0, 5, 6] (fun m v i wr => ∃ j : Nat, j ≤ k ∧ m = .int .i64 (shB n j) ∧ i = .int .i64 j ∧ RowI wr w.heap.size 5 .u8 v (leB n j) ∧ Below w.heap.size w wr) (fun _ _ i _ => k - (intOf i).toNat)
  case atStart => exact ⟨0, Nat.zero_le _, rfl, rfl, RowI.nil _ _ _ _, Below.refl _ _⟩
  case round =>
    obtain ⟨j, hj, rfl, rfl, hrow, hb⟩ := hrel
    have hsz := hb.size
    have HB := Lib.hid hb
    clear hb
    by_cases hlt : j < k
    · have HS := Lib.hid (leB_snoc n j)
      have HT : Hid (shB n (j + 1) = shB n j / 256) := rfl
      have hq := shB_i64 HN.out j
      unfold I64 at hq
      have htl := leB_length n j
      generalize shB n j = m at *
      generalize leB n j = l at *
      obtain ⟨va, vc, rfl⟩ := hrow.shape
      unfold RowI at hrow
      rw [htl] at hrow ⊢
      have HO0 := Lib.hid hrow
      have HTL := Lib.hid htl
      obtain ⟨q1, q2⟩ := hq
      clear htl hrow
      go_wp2_with (at_builtin; refine wpList_append_own _ rfl _ _ 22 rfl w.heap.size 5 i0 (.int .u8 0) 1 1 Try.underlying22 hi0 hz0 hz1 hz2 rfl (by decide) _ _ _ rfl (HO0.out.alloc _) ⟨wr.heap.size, 0, none⟩ 1 1 [.int .u8 (m % 256)] rfl rfl ?c1 ?c2 ?c3 ?c4 ?c5 ?_)
      case c1 =>
        intro i u h
        rcases i with _ | i
        · cases h; simp [go_sem, Addr.add, i64_and255, Int.emod_emod_of_dvd]
        · cases h
      case c2 => simp [Value.oneCell']
      case c3 => unfold maxLen; omega
      case c4 => omega
      case c5 => simp; omega
      intro v' w1 hown' hgrow _
      have HO := Lib.hid hown'
      have HG := Lib.hid hgrow
      clear hown' hgrow
      go_wp2_with fail
      go_roundw
      case rel => exact ⟨j + 1, by omega, by rw [HT.out], by go_num, RowI.app1 HO.out HTL.out HS.out, (HB.out.alloc (by omega) _).grown HG.out (by simp; omega) (own_ge HO0.out)⟩
      case measure => simp [intOf]; omega
    · obtain rfl : j = k := by omega
      go_wp2_with fail
      go_ret
      exact ⟨_, rfl, hrow, HB.out⟩
end Go.Proofs.Ytdojafpjipcbjaa
namespace Go.Proofs.Ytdojafpjipcbjaa
open Go.RowKit
set_option linter.unusedVariables false
set_option linter.unusedSimpArgs false
theorem RowI.lit (w : World) (cs : Array Value) (xs : List Int) (k : IntKind) (e : TypeId) (base n : Nat) (hb : base ≤ w.heap.size) (hc : cs.toList = xs.map (Value.int k)) (hn : n = xs.length) (hm : xs.length ≤ maxLen) :
    RowI (w.alloc (.cells cs e)) base e k (.slice (some ⟨w.heap.size, 0, none⟩) n n) xs := by
  subst hn
  have h := World.ownsRow_lit (base := base) (e := e) (size := 1) w cs xs.length hb hm (by rw [← Array.length_toList, hc, List.length_map, Nat.mul_one])
  unfold RowI
  rw [← hc]
  exact h
set_option maxHeartbeats 1000000 in
theorem mm_any (r m i : Int) (w : World) (hi : I64 i) : Calls Try.prog 118 #[.int .i64 r, .int .i64 m, .int .i64 i] w fun e w' => ∃ v, e = .returned v ∧ RowI w' w.heap.size 5 .u8 v (mmB r m i) ∧ Below w.heap.size w w' := by
  obtain ⟨i0, hi0, hz0, hz1, hz2⟩ := info_parts info_u8
  have HI := Lib.hid hi
  clear hi
  have HR0 : Hid (∀ x, RowI (w.alloc (.cells #[.int .u8 x] 5)) w.heap.size 5 .u8 (.slice (some ⟨w.heap.size, 0, none⟩) 1 1) [x]) := fun x => RowI.lit w #[.int .u8 x] [x] .u8 5 w.heap.size 1 (Nat.le_refl _) rfl rfl (by unfold maxLen; simp)
  have C4 : Hid (∀ w, Calls Try.prog 78 #[.int .i64 i, .int .i64 4] w fun e w' => ∃ v, e = .returned v ∧ RowI w' w.heap.size 5 .u8 v (leB i 4) ∧ Below w.heap.size w w') := fun w => number_any i 4 w HI.out (by decide)
  go_enter Try.func118, Try.ntmps118
  go_wp2_with fail
  refine (C4.out _).mono ?_
  rintro e w2 ⟨v2, rfl, hr2, hb2⟩
  have HR1 := Lib.hid (RowI.below (HR0.out _) hb2)
  clear HR0
  obtain ⟨a2, c2, rfl⟩ := hr2.shape
  have hi2 := hr2.ints (by rw [leB_length]; decide)
  have hl2 := leB_length i 4
  have HL2 := Lib.hid hl2
  have hsz : w.heap.size + 1 ≤ w2.heap.size := by have := hb2.size; simpa using this
  have HB2 := Lib.hid (below_box hb2)
  obtain ⟨b2, q2, ea, _⟩ := hi2.row (by rw [hl2]; decide)
  subst ea
  rw [hl2] at hi2
  have HN2 := Lib.hid hi2.newsK
  clear hr2 hi2 hl2 hb2
  rw [HL2.out]
  go_wp2_with (at_builtin; refine wpList_append_own_at _ rfl _ _ 22 rfl w.heap.size 5 i0 (.int .u8 0) 1 1 Try.underlying22 hi0 hz0 hz1 hz2 rfl (by decide) _ 1 _ rfl HR1.out ⟨b2, q2, none⟩ 4 c2 ((leB i 4).map (Value.int .u8)) rfl ?c0 HN2.out ?c2 ?c3 ?c4 ?c5 ?_)
  case c0 => rw [List.length_map, HL2.out]
  case c2 => intro u hu; obtain ⟨x, _, rfl⟩ := List.mem_map.1 hu; rfl
  case c3 => unfold maxLen; decide
  case c4 => decide
  case c5 => omega
  intro v' w3 hown' hgrow _ _
  have HO := Lib.hid hown'
  have HG := Lib.hid hgrow
  clear hown' hgrow
  go_wp2_with fail
  go_ret
  refine ⟨_, rfl, RowI.app (xs := [_]) (ys := leB i 4) HO.out (by rw [HL2.out]; rfl) (by unfold mmB; simp only [List.cons_append, List.nil_append, List.cons.injEq, and_true]; unfold wrap64; omega), (HB2.out).grown HG.out (by omega) (own_ge HR1.out)⟩
set_option maxHeartbeats 1000000 in
theorem rmm_any (r m i : Int) (w : World) (hi : I64 i) : Calls Try.prog 69 #[.int .i64 r, .int .i64 m, .int .i64 i] w fun e w' => ∃ v, e = .returned v ∧ RowI w' w.heap.size 5 .u8 v (mmB r m i) ∧ Below w.heap.size w w' := by
  obtain ⟨i0, hi0, hz0, hz1, hz2⟩ := info_parts info_u8
  have HI := Lib.hid hi
  clear hi
  have HR0 : Hid (∀ x, RowI (w.alloc (.cells #[.int .u8 x] 5)) w.heap.size 5 .u8 (.slice (some ⟨w.heap.size, 0, none⟩) 1 1) [x]) := fun x => RowI.lit w #[.int .u8 x] [x] .u8 5 w.heap.size 1 (Nat.le_refl _) rfl rfl (by unfold maxLen; simp)
  have C4 : Hid (∀ w, Calls Try.prog 67 #[.int .i64 i, .int .i64 4] w fun e w' => ∃ v, e = .returned v ∧ RowI w' w.heap.size 5 .u8 v (leB i 4) ∧ Below w.heap.size w w') := fun w => little_any i 4 w HI.out (by decide)
  go_enter Try.func69, Try.ntmps69
  go_wp2_with fail
  refine (C4.out _).mono ?_
  rintro e w2 ⟨v2, rfl, hr2, hb2⟩
  have HR1 := Lib.hid (RowI.below (HR0.out _) hb2)
  clear HR0
  obtain ⟨a2, c2, rfl⟩ := hr2.shape
  have hi2 := hr2.ints (by rw [leB_length]; decide)
  have hl2 := leB_length i 4
  have HL2 := Lib.hid hl2
  have hsz : w.heap.size + 1 ≤ w2.heap.size := by have := hb2.size; simpa using this
  have HB2 := Lib.hid (below_box hb2)
  obtain ⟨b2, q2, ea, _⟩ := hi2.row (by rw [hl2]; decide)
  subst ea
  rw [hl2] at hi2
  have HN2 := Lib.hid hi2.newsK
  clear hr2 hi2 hl2 hb2
  rw [HL2.out]
  go_wp2_with (at_builtin; refine wpList_append_own_at _ rfl _ _ 22 rfl w.heap.size 5 i0 (.int .u8 0) 1 1 Try.underlying22 hi0 hz0 hz1 hz2 rfl (by decide) _ 1 _ rfl HR1.out ⟨b2, q2, none⟩ 4 c2 ((leB i 4).map (Value.int .u8)) rfl ?c0 HN2.out ?c2 ?c3 ?c4 ?c5 ?_)
  case c0 => rw [List.length_map, HL2.out]
  case c2 => intro u hu; obtain ⟨x, _, rfl⟩ := List.mem_map.1 hu; rfl
  case c3 => unfold maxLen; decide
  case c4 => decide
  case c5 => omega
  intro v' w3 hown' hgrow _ _
  have HO := Lib.hid hown'
  have HG := Lib.hid hgrow
  clear hown' hgrow
  go_wp2_with fail
  go_ret
  refine ⟨_, rfl, RowI.app (xs := [_]) (ys := leB i 4) HO.out (by rw [HL2.out]; rfl) (by unfold mmB; simp only [List.cons_append, List.nil_append, List.cons.injEq, and_true]; unfold wrap64; omega), (HB2.out).grown HG.out (by omega) (own_ge HR1.out)⟩
theorem arith_any (o : Int) (w : World) (h : 0 ≤ o ∧ o ≤ 36) : Calls Try.prog 72 #[.int .i64 o] w fun e w' => e = .returned (.int .u8 (ariI o)) ∧ w = w' := by
  rcases (show o = 0 ∨ o = 1 ∨ o = 2 ∨ o = 3 ∨ o = 4 ∨ o = 5 ∨ o = 6 ∨ o = 7 ∨ o = 8 ∨ o = 9 ∨ o = 10 ∨ o = 11 ∨ o = 12 ∨ o = 13 ∨ o = 14 ∨ o = 15 ∨ o = 16 ∨ o = 17 ∨ o = 18 ∨ o = 19 ∨ o = 20 ∨ o = 21 ∨ o = 22 ∨ o = 23 ∨ o = 24 ∨ o = 25 ∨ o = 26 ∨ o = 27 ∨ o = 28 ∨ o = 29 ∨ o = 30 ∨ o = 31 ∨ o = 32 ∨ o = 33 ∨ o = 34 ∨ o = 35 ∨ o = 36 by omega) with rfl | rfl | rfl | rfl | rfl | rfl | rfl | rfl | rfl | rfl | rfl | rfl | rfl | rfl | rfl | rfl | rfl | rfl | rfl | rfl | rfl | rfl | rfl | rfl | rfl | rfl | rfl | rfl | rfl | rfl | rfl | rfl | rfl | rfl | rfl | rfl | rfl
  all_goals
    go_enter Try.func72, Try.ntmps72
    go_wp2
    go_ret
    exact ⟨rfl, rfl⟩
theorem digit_any (o : Int) (w : World) (h : 0 ≤ o ∧ o ≤ 36) : Calls Try.prog 71 #[.int .i64 o] w fun e w' => e = .returned (.int .i64 (digI o)) ∧ w = w' := by
  rcases (show o = 0 ∨ o = 1 ∨ o = 2 ∨ o = 3 ∨ o = 4 ∨ o = 5 ∨ o = 6 ∨ o = 7 ∨ o = 8 ∨ o = 9 ∨ o = 10 ∨ o = 11 ∨ o = 12 ∨ o = 13 ∨ o = 14 ∨ o = 15 ∨ o = 16 ∨ o = 17 ∨ o = 18 ∨ o = 19 ∨ o = 20 ∨ o = 21 ∨ o = 22 ∨ o = 23 ∨ o = 24 ∨ o = 25 ∨ o = 26 ∨ o = 27 ∨ o = 28 ∨ o = 29 ∨ o = 30 ∨ o = 31 ∨ o = 32 ∨ o = 33 ∨ o = 34 ∨ o = 35 ∨ o = 36 by omega) with rfl | rfl | rfl | rfl | rfl | rfl | rfl | rfl | rfl | rfl | rfl | rfl | rfl | rfl | rfl | rfl | rfl | rfl | rfl | rfl | rfl | rfl | rfl | rfl | rfl | rfl | rfl | rfl | rfl | rfl | rfl | rfl | rfl | rfl | rfl | rfl | rfl
  all_goals
    go_enter Try.func71, Try.ntmps71
    go_wp2
    go_ret
    exact ⟨rfl, rfl⟩
theorem signed_ref (n z : Int) (w : World) (hn : I64 n) (h0 : -9223372036854775808 + 4294967296 ≤ n) (hz : z = 8 ∨ z = 16 ∨ z = 32) : Calls Try.prog 60 #[.int .i64 n, .int .i64 z] w fun e w' => e = .returned (.int .i64 (sgB n z)) ∧ w = w' := by
  obtain ⟨h1, h2⟩ := hn
  rcases hz with rfl | rfl | rfl
  · have e : sgB n 8 = if 128 ≤ n then n - 256 else n := rfl
    rw [e]
    by_cases c : 128 ≤ n
    · rw [if_pos c]
      clear e
      go_enter Try.func60, Try.ntmps60
      go_wp2
      go_ret
      exact ⟨rfl, rfl⟩
    · rw [if_neg c]
      clear e
      go_enter Try.func60, Try.ntmps60
      go_wp2
      go_ret
      exact ⟨rfl, rfl⟩
  · have e : sgB n 16 = if 32768 ≤ n then n - 65536 else n := rfl
    rw [e]
    by_cases c : 32768 ≤ n
    · rw [if_pos c]
      clear e
      go_enter Try.func60, Try.ntmps60
      go_wp2
      go_ret
      exact ⟨rfl, rfl⟩
    · rw [if_neg c]
      clear e
      go_enter Try.func60, Try.ntmps60
      go_wp2
      go_ret
      exact ⟨rfl, rfl⟩
  · have e : sgB n 32 = if 2147483648 ≤ n then n - 4294967296 else n := rfl
    rw [e]
    by_cases c : 2147483648 ≤ n
    · rw [if_pos c]
      clear e
      go_enter Try.func60, Try.ntmps60
      go_wp2
      go_ret
      exact ⟨rfl, rfl⟩
    · rw [if_neg c]
      clear e
      go_enter Try.func60, Try.ntmps60
      go_wp2
      go_ret
      exact ⟨rfl, rfl⟩
end Go.Proofs.Ytdojafpjipcbjaa
