/- The values of the nodes of a term: the plain law; and the walk of the closure that reads an Arg's value. -/
import Derived.Test.YthopdfikikdcbaaTk
import Derived.Test.YthopdfikikdcbaaBm
namespace Go.Proofs.Ythopdfikikdcbaa
open Go.RowKit Wd
set_option linter.unusedVariables false
set_option linter.unusedSimpArgs false
theorem getD_mem0 {xs : List Int} {i : Nat} (hi : i < xs.length) : xs.getD i 0 ∈ xs := by
  rw [List.getD_eq_getElem?_getD, List.getElem?_eq_getElem hi]; exact List.getElem_mem hi
def vArg (acc : List Int) (x : Nd) (i : Nat) : Int := acc.getD (x.args.getD i 0).toNat 0
/-- The value of a node; acc: those of the nodes before it. -/
def vNode (ts : List Nd) (env acc : List Int) (x : Nd) : Int :=
  if x.op = 0 then x.imm else if x.op = 33 then env.getD x.imm.toNat 0 else
  if x.op = 14 then (if coX x.imm (wdt ts x.args 0) (vArg acc x 0) (vArg acc x 1) = true then 1 else 0) else
  if x.op = 15 then vArg acc x (2 - vArg acc x 0).toNat else
  if 16 ≤ x.op then exX x.op (wdt ts x.args 0) x.width (vArg acc x 0) else toX x.op x.width (vArg acc x 0) (vArg acc x 1)
def valsF (ts : List Nd) (env : List Int) (us : List Nd) : List Int := us.foldl (fun acc x => acc ++ [vNode ts env acc x]) []
def vals (ts : List Nd) (env : List Int) : List Int := valsF ts env ts
theorem vals_snoc (ts : List Nd) (env : List Int) (j : Nat) (h : j < ts.length) : valsF ts env (ts.take (j + 1)) = valsF ts env (ts.take j) ++ [vNode ts env (valsF ts env (ts.take j)) (ts.getD j default)] := by
  unfold valsF; rw [take_snoc ts j h, List.foldl_append]; rfl
theorem valsF_len (ts : List Nd) (env : List Int) (us : List Nd) : (valsF ts env us).length = us.length := by
  have : ∀ (us : List Nd) (acc : List Int), (us.foldl (fun acc x => acc ++ [vNode ts env acc x]) acc).length = acc.length + us.length := by
    intro us
    induction us with
    | nil => intro acc; rfl
    | cons x us ih => intro acc; rw [List.foldl_cons, ih]; simp; omega
  have := this us []
  rw [List.length_nil, Nat.zero_add] at this
  exact this
theorem valsF_take_len {ts : List Nd} {env : List Int} {j : Nat} (h : j ≤ ts.length) : (valsF ts env (ts.take j)).length = j := by rw [valsF_len, List.length_take]; omega
/-- An environment of a term, all words. -/
def EnvOk (ts : List Nd) (env : List Int) : Prop := env.length = 4 ∧ ∀ v, v < 4 → 0 ≤ env.getD v 0 ∧ env.getD v 0 ≤ 4294967295 ∧ ((widL ts).getD v 0 ≠ 0 → env.getD v 0 < pw ((widL ts).getD v 0))
/-- The value of the a-th node is a word of its width. -/
def WordsTo (ts : List Nd) (acc : List Int) (j : Nat) : Prop := ∀ a, a < j → 0 ≤ acc.getD a 0 ∧ acc.getD a 0 < pw (ts.getD a default).width
/-- What the typing of a valid term gives for one node. -/
structure NodeOk (ts : List Nd) (j : Nat) (x : Nd) : Prop where
  len : (x.args.length : Int) = arV x.op
  rng : ∀ i, i < x.args.length → 0 ≤ x.args.getD i 0 ∧ x.args.getD i 0 < j
  wid : 1 ≤ x.width ∧ x.width ≤ 32
  imm : immOk x = true
  typ : typed ts x = true
  one : x.op = 14 → x.width = 1
  ar : arV x.op ≠ -1
theorem nodeOk {ts : List Nd} (h : valE ts = 0) {j : Nat} (hj : j < ts.length) : NodeOk ts j (ts.getD j default) := by
  obtain ⟨_, _, h1, h2, _⟩ := valid_facts h
  obtain ⟨s1, s2, s3, s4, s5, s6, s7, s8⟩ := shaped_facts (okS_at h1 hj)
  exact ⟨s1, fun i hi => s2 _ (getD_mem0 hi), s3, s5, okT_at h2 hj, s7, s8⟩
theorem wdt_eq (ts : List Nd) (x : Nd) (i : Nat) : wdt ts x.args i = (ts.getD (x.args.getD i 0).toNat default).width := rfl
theorem vArg_word {ts : List Nd} {acc : List Int} {j : Nat} {x : Nd} (hx : NodeOk ts j x) (hw : WordsTo ts acc j) {i : Nat} (hi : i < x.args.length) : 0 ≤ vArg acc x i ∧ vArg acc x i < pw (wdt ts x.args i) := by
  have h := hx.rng i hi
  unfold vArg
  rw [wdt_eq]
  exact hw _ (by omega)
theorem word_le {n a : Int} (h : n ≤ 32) (ha : a < pw n) : a ≤ 4294967295 := by have := pw_le32 h; omega
theorem wdt_bd {ts : List Nd} (h : valE ts = 0) {j : Nat} {x : Nd} (hx : NodeOk ts j x) (hj : j ≤ ts.length) {i : Nat} (hi : i < x.args.length) : 1 ≤ wdt ts x.args i ∧ wdt ts x.args i ≤ 32 := by
  have h2 := hx.rng i hi
  rw [wdt_eq]
  exact (nodeOk h (by omega)).wid
theorem exX_word {op m n x : Int} (hn : 1 ≤ n) : 0 ≤ exX op m n x ∧ exX op m n x < pw n := by
  have hp := pw_pos n
  unfold exX
  split
  · unfold extV
    split
    · exact word_wr _ _
    · exact word_wr _ _
  · omega
theorem toX_word {op n a b : Int} (ha : 0 ≤ a) (hb : 0 ≤ b) (hn : 1 ≤ n) : 0 ≤ toX op n a b ∧ toX op n a b < pw n := by
  have hp := pw_pos n
  unfold toX
  split
  · exact tot_word ‹_› ha hb
  · omega
theorem typed_sel {ts : List Nd} {x : Nd} (h : typed ts x = true) (ho : x.op = 15) : wdt ts x.args 0 = 1 ∧ wdt ts x.args 1 = x.width ∧ wdt ts x.args 2 = x.width := by
  simp [typed, ho] at h
  exact ⟨h.1.1, h.1.2, h.2⟩
theorem vNode_word {ts : List Nd} {env acc : List Int} (h : valE ts = 0) (hI : ∀ x ∈ ts, 0 ≤ x.imm ∧ x.imm ≤ 4294967295) (he : EnvOk ts env) {j : Nat} (hj : j < ts.length) (hw : WordsTo ts acc j) :
    0 ≤ vNode ts env acc (ts.getD j default) ∧ vNode ts env acc (ts.getD j default) < pw (ts.getD j default).width := by
  have hx := nodeOk h hj
  have hi := hI _ (mem_getD hj)
  obtain ⟨_, _, hS, _, l, hl⟩ := valid_facts h
  have hinv := (wmap_inv (fun x hx => (hI x hx).1) (fun i hi => okS_at hS hi) ts.length l (Nat.le_refl _) (by rw [List.take_length]; exact hl)).1 j hj
  have hwl : widL ts = l := by have := (widL_ok h).1; rw [hl] at this; cases this; rfl
  have hsh := shaped_facts (okS_at hS hj)
  generalize ts.getD j default = x at *
  have hp := pw_pos x.width
  unfold vNode
  by_cases o0 : x.op = 0
  · rw [if_pos o0]
    have := hx.imm
    unfold immOk at this
    rw [if_pos o0] at this
    simp only [Bool.and_eq_true, fit, decide_eq_true_eq] at this
    exact ⟨hi.1, this.2⟩
  rw [if_neg o0]
  by_cases o33 : x.op = 33
  · rw [if_pos o33]
    have h1 := hinv o33
    have h4 := hsh.2.2.2.2.2.1 o33
    have h2 := he.2 x.imm.toNat (by omega)
    rw [hwl, h1] at h2
    have := hx.wid
    exact ⟨h2.1, h2.2.2 (by omega)⟩
  rw [if_neg o33]
  by_cases o14 : x.op = 14
  · rw [if_pos o14, hx.one o14]
    have : pw 1 = 2 := rfl
    rw [this]
    split <;> omega
  rw [if_neg o14]
  by_cases o15 : x.op = 15
  · rw [if_pos o15]
    have hlen : x.args.length = 3 := by have := hx.len; rw [o15] at this; have h3 : arV 15 = 3 := rfl; omega
    obtain ⟨t0, t1, t2⟩ := typed_sel hx.typ o15
    have w0 := vArg_word hx hw (i := 0) (by omega)
    rw [t0] at w0
    have hp1 : pw 1 = 2 := rfl
    rw [hp1] at w0
    have hk : (2 - vArg acc x 0).toNat = 1 ∨ (2 - vArg acc x 0).toNat = 2 := by omega
    rcases hk with hk | hk
    · rw [hk]; have := vArg_word hx hw (i := 1) (by omega); rw [t1] at this; exact this
    · rw [hk]; have := vArg_word hx hw (i := 2) (by omega); rw [t2] at this; exact this
  rw [if_neg o15]
  by_cases o16 : 16 ≤ x.op
  · rw [if_pos o16]; exact exX_word hx.wid.1
  · rw [if_neg o16]
    have hlen : x.args.length = 2 := by have := hx.len; have := hx.ar; rcases arV_cases x.op with h | h | h | h | h <;> omega
    exact toX_word (vArg_word hx hw (by omega)).1 (vArg_word hx hw (by omega)).1 hx.wid.1
theorem words_snoc {ts : List Nd} {acc : List Int} {j : Nat} {v : Int} (hl : acc.length = j) (hw : WordsTo ts acc j) (h0 : 0 ≤ v) (h1 : v < pw (ts.getD j default).width) : WordsTo ts (acc ++ [v]) (j + 1) := by
  intro a ha
  by_cases e : a = j
  · subst e
    rw [List.getD_eq_getElem?_getD, List.getElem?_append_right (by omega), hl, Nat.sub_self]
    exact ⟨h0, h1⟩
  · rw [getD_append_lt (by omega)]
    exact hw a (by omega)
theorem vals_words {ts : List Nd} {env : List Int} (h : valE ts = 0) (hI : ∀ x ∈ ts, 0 ≤ x.imm ∧ x.imm ≤ 4294967295) (he : EnvOk ts env) : ∀ j, j ≤ ts.length → WordsTo ts (valsF ts env (ts.take j)) j
  | 0, _, a, ha => absurd ha (by omega)
  | j + 1, hj, a, ha => by
    have ih := vals_words h hI he j (by omega)
    have := vNode_word h hI he (show j < ts.length by omega) ih
    rw [vals_snoc ts env j (by omega)]
    exact words_snoc (valsF_take_len (by omega)) ih this.1 this.2 a ha

set_option maxRecDepth 100000 in
theorem varg1 (i : Nat) (args : List Int) (m n c : Nat) (y : Int) (bo bx B : Nat) (av : Value) (w : World) (ht : w.cell? ⟨bo, 0, none⟩ = some (.slice (some ⟨B, 0, none⟩) n c)) (hx : w.cell? ⟨bx, 3, none⟩ = some av) (ha : Ints .i64 w av args) (hi : i < args.length) (hm : args.getD i 0 = m) (h1 : m < n) (hn : n ≤ 140737488351232) (hc : w.cell? ⟨B, m, none⟩ = some (.int .u32 y)) : Calls Try.prog 81 #[.int .i64 i, .pointer (some ⟨bo, 0, none⟩), .pointer (some ⟨bx, 0, none⟩)] w fun e w' => e = .returned (.int .u32 y) ∧ Dr w w' := by
  obtain ⟨b1, o1, c1, rfl, l1, hb1, hc1⟩ := ha.at hi
  have hl := ha.shape.choose_spec.choose_spec.2.2
  rw [hm] at hc1
  have q1 : (i : Int) < args.length := by omega
  have q2 : (m : Int) < n := by omega
  clear ha hm
  go_enter Try.func81, Try.ntmps81
  go_wp2_with fail
  go_quiet (fail)
  go_wp2_with fail
  go_ret
  exact ⟨rfl, _, rfl⟩

theorem varg_0 (args : List Int) (m n c : Nat) (y : Int) (bo bx B : Nat) (av : Value) (w : World) (ht : w.cell? ⟨bo, 0, none⟩ = some (.slice (some ⟨B, 0, none⟩) n c)) (hx : w.cell? ⟨bx, 3, none⟩ = some av) (ha : Ints .i64 w av args) (hi : 0 < args.length) (hm : args.getD 0 0 = m) (h1 : m < n) (hn : n ≤ 140737488351232) (hc : w.cell? ⟨B, m, none⟩ = some (.int .u32 y)) : Calls Try.prog 81 #[.int .i64 0, .pointer (some ⟨bo, 0, none⟩), .pointer (some ⟨bx, 0, none⟩)] w fun e w' => e = .returned (.int .u32 y) ∧ Dr w w' := varg1 0 args m n c y bo bx B av w ht hx ha hi hm h1 hn hc
theorem varg_1 (args : List Int) (m n c : Nat) (y : Int) (bo bx B : Nat) (av : Value) (w : World) (ht : w.cell? ⟨bo, 0, none⟩ = some (.slice (some ⟨B, 0, none⟩) n c)) (hx : w.cell? ⟨bx, 3, none⟩ = some av) (ha : Ints .i64 w av args) (hi : 1 < args.length) (hm : args.getD 1 0 = m) (h1 : m < n) (hn : n ≤ 140737488351232) (hc : w.cell? ⟨B, m, none⟩ = some (.int .u32 y)) : Calls Try.prog 81 #[.int .i64 1, .pointer (some ⟨bo, 0, none⟩), .pointer (some ⟨bx, 0, none⟩)] w fun e w' => e = .returned (.int .u32 y) ∧ Dr w w' := varg1 1 args m n c y bo bx B av w ht hx ha hi hm h1 hn hc
theorem varg_2 (args : List Int) (m n c : Nat) (y : Int) (bo bx B : Nat) (av : Value) (w : World) (ht : w.cell? ⟨bo, 0, none⟩ = some (.slice (some ⟨B, 0, none⟩) n c)) (hx : w.cell? ⟨bx, 3, none⟩ = some av) (ha : Ints .i64 w av args) (hi : 2 < args.length) (hm : args.getD 2 0 = m) (h1 : m < n) (hn : n ≤ 140737488351232) (hc : w.cell? ⟨B, m, none⟩ = some (.int .u32 y)) : Calls Try.prog 81 #[.int .i64 2, .pointer (some ⟨bo, 0, none⟩), .pointer (some ⟨bx, 0, none⟩)] w fun e w' => e = .returned (.int .u32 y) ∧ Dr w w' := varg1 2 args m n c y bo bx B av w ht hx ha hi hm h1 hn hc
end Go.Proofs.Ythopdfikikdcbaa
