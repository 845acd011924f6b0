/- Step of the second set: where its place lies in memory. -/
import Derived.Deep.DeepMust
import Derived.Test.YtdojafpjipcbjaaF10
import Derived.Test.YtdojafpjipcbjaaF13
import Derived.Test.YtdojafpjipcbjaaF20
import Derived.Test.YtdojafpjipcbjaaF23
import Derived.Test.YtdojafpjipcbjaaF24
namespace Go.Proofs.Ytdojafpjipcbjaa
open Go.RowKit
set_option linter.unusedVariables false
set_option linter.unusedSimpArgs false
theorem jmp_cond {x : Ins} (h : okI x = true) (e : x.o = 32) : isC x.s = true := by
  have h2 := (ok_facts (ok_fit h)).2.2.1
  rcases rdC_is h with h1 | h1
  · have : rdC x = x.s := by simp [rdC, e]
    omega
  · rwa [show rdC x = x.s by simp [rdC, e]] at h1
theorem Box5.block {W W' : World} {b : Nat} {o d s z i : Int} (h : Box5 W b o d s z i) (hb : W'.heap[b]? = W.heap[b]?) : Box5 W' b o d s z i := hb.trans h
theorem stpX_none {y : Ins} {z : Int} {n : Nat} {c : Mac} (hz : max y.z 16 = z) (h : exM y z c = none) : stpX y n c = { c with e := 3 } := by unfold stpX; rw [hz, h]
theorem stpX_some {y : Ins} {z : Int} {n : Nat} {c c' : Mac} (hz : max y.z 16 = z) (h : exM y z c = some c') : stpX y n c = if c'.e = 0 then { c' with a := (c'.a + n + (if jmpB y c.f = true then y.i else 0)) % 4294967296 } else c' := by unfold stpX; rw [hz, h]
theorem Ch.transT {T M : Nat} {mv : Value} {w W W' : World} (h : Ch M M mv w W) (h' : Ch T M mv W W') (hT : w.heap.size ≤ T) : Ch M M mv w W' :=
  ⟨h'.os.trans h.os, h'.tape.trans h.tape, h'.output.trans h.output, Nat.le_trans h.size h'.size, fun k hk a b cc => (h'.block k (Nat.lt_of_lt_of_le hk h.size) (by omega) b cc).trans (h.block k hk a b cc)⟩
theorem MM.setMv {base M : Nat} {mv : Value} {c : Mac} {w : World} (h : MM base M mv c w) : MM base M mv c (w.setCell ⟨M, 34, none⟩ mv) := h.setTail 2 mv c (by decide) rfl rfl rfl h.fb h.ab
theorem MM.setMvE {base M : Nat} {mv : Value} {c : Mac} {w : World} (h : MM base M mv c w) : MM base M mv { c with e := 3 } ((w.setCell ⟨M, 34, none⟩ mv).setCell ⟨M, 35, none⟩ (.int .i64 3)) := h.setMv.setE 3
theorem MM.setOther {base M : Nat} {mv : Value} {c : Mac} {W : World} (h : MM base M mv c W) {b k : Nat} (h1 : M ≠ b) (h2 : mv.ownBlock ≠ some b) (u : Value) : MM base M mv c (W.setCell ⟨b, k, none⟩ u) := by
  refine ⟨h.m.other h1 u, ?_, h.bm, h.rl, h.rb, h.ml, h.mb, h.fb, h.ab⟩
  rcases h.v with he | ⟨D, cap, e, a1, a2, a3, a5, a6⟩
  · exact Or.inl he
  · have hD : D ≠ b := fun e' => h2 (by rw [e, e']; rfl)
    refine Or.inr ⟨D, cap, e, a1, a2, a3, a5, by simpa [World.setCell] using a6.1, fun i hi => ⟨?_, by rw [World.frozen?_setCell]; exact a6.free hi⟩⟩
    rw [World.cell?_setCell_other _ _ _ _ (by intro hh; cases hh; exact hD rfl)]
    exact a6.cell hi
/-- While step decodes: the machine, its copy in block B, an instruction behind it, and what has changed. -/
structure SC (base M : Nat) (mv : Value) (c : Mac) (w : World) (B : Nat) (cs : List Value) (x : Ins) (W : World) : Prop where
  mm : MM base M mv c W
  k : CellsAt W B cs
  b : Box5 W (B + 1) x.o x.d x.s x.z x.i
  ch : Ch M M mv w W
  lt : 0 < cs.length
  mb : M < B
  ob : ∀ k, mv.ownBlock = some k → k < B
  wb : w.heap.size ≤ B
def SE (base M : Nat) (mv : Value) (c : Mac) (w : World) (B : Nat) (cs : List Value) (W : World) : Prop := MM base M mv c W ∧ CellsAt W B cs ∧ (∃ x : Ins, Box5 W (B + 1) x.o x.d x.s x.z x.i) ∧ Ch M M mv w W
section
variable {base M : Nat} {mv : Value} {c : Mac} {w : World} {B : Nat} {cs : List Value} {x : Ins} {W W' : World}
theorem SC.toE (h : SC base M mv c w B cs x W) : SE base M mv c w B cs W := ⟨h.mm, h.k, ⟨x, h.b⟩, h.ch⟩
theorem SC.below (h : SC base M mv c w B cs x W) (hb : Below W.heap.size W W') : SC base M mv c w B cs x W' :=
  ⟨h.mm.same hb, h.k.block (hb.block B (h.k.lt h.lt)), (hb.block (B + 1) h.b.lt).trans h.b, h.ch.trans (Ch.of_below hb), h.lt, h.mb, h.ob, h.wb⟩
theorem SC.drew (h : SC base M mv c w B cs x W) : SC base M mv c w B cs x W.drew := h.below (Below.refl _ _).drew
theorem SC.drewN (h : SC base M mv c w B cs x W) (n : Nat) : SC base M mv c w B cs x (W.drewN n) := ⟨h.mm.drewN n, h.k, h.b, h.ch.drewN n, h.lt, h.mb, h.ob, h.wb⟩
theorem SC.set1 (h : SC base M mv c w B cs x W) (y : Ins) {j : Nat} {u : Value} (hb : Box5 (W.setCell ⟨B + 1, j, none⟩ u) (B + 1) y.o y.d y.s y.z y.i) : SC base M mv c w B cs y (W.setCell ⟨B + 1, j, none⟩ u) := by
  have h1 := h.mb
  have h2 := h.wb
  refine ⟨h.mm.setOther (by omega) (fun e => by have := h.ob _ e; omega) u, h.k.other (by omega) u, hb, ⟨h.ch.os, h.ch.tape, h.ch.output, Nat.le_trans h.ch.size (by simp [World.setCell]), fun k hk a b cc => (Below.heap_setCell W ⟨B + 1, j, none⟩ u k (by show k ≠ B + 1; omega)).trans (h.ch.block k hk a b cc)⟩, h.lt, h.mb, h.ob, h.wb⟩
theorem SC.put (h : SC base M mv c w B cs x W) (y : Ins) : SC base M mv c w B cs y (((((W.setCell ⟨B + 1, 0, none⟩ (.int .i64 y.o)).setCell ⟨B + 1, 1, none⟩ (.int .i64 y.d)).setCell ⟨B + 1, 2, none⟩ (.int .i64 y.s)).setCell ⟨B + 1, 3, none⟩ (.int .i64 y.z)).setCell ⟨B + 1, 4, none⟩ (.int .i64 y.i)) := by
  have s0 := h.set1 ⟨y.o, x.d, x.s, x.z, x.i⟩ (h.b.set0 y.o)
  have s1 := s0.set1 ⟨y.o, y.d, x.s, x.z, x.i⟩ (s0.b.set1 y.d)
  have s2 := s1.set1 ⟨y.o, y.d, y.s, x.z, x.i⟩ (s1.b.set2 y.s)
  have s3 := s2.set1 ⟨y.o, y.d, y.s, y.z, x.i⟩ (s2.b.set3 y.z)
  exact s3.set1 y (s3.b.set4 y.i)
end
set_option maxRecDepth 100000 in
set_option maxHeartbeats 1000000 in
theorem step_dec (base M : Nat) (mv : Value) (c : Mac) (w : World) (h : MM base M mv c w) (q : Nat) (hq : c.a = (q : Int)) (hal : q < c.m.length) : Calls Try.prog 37 #[.pointer (some ⟨M, 0, none⟩)] w fun e w' => e = .returned (.tuple #[]) ∧ MM base M mv (if decB (c.m.drop q) = true then stpX (decX (c.m.drop q)) (decN (c.m.drop q)) c else { c with e := 3 }) w' ∧ Ch M M mv w w' := by
  have hc : w.rangeAt M 0 (macC c mv) := fun j v hj => by rw [Nat.zero_add]; exact (h.m j v hj).1
  have hl : (macC c mv).length = 36 := by simp [macC, h.rl]
  have hsz : (Try.prog.info? 47).map (·.size) = some (macC c mv).length := by rw [hl]; kernel_rfl
  have hM := h.ltM
  have ab := h.ab
  have ml := h.ml
  obtain ⟨v0, q0⟩ : ∃ v, w.cell? ⟨M, 0, none⟩ = some v := ⟨_, (h.reg0).1⟩
  have hone := all_oneCell_toArray (macC_one h)
  obtain ⟨va, vc, hmv, hl1, hl2⟩ := h.ints.shape
  have HW := Lib.hid (fun old => start_world w old (macC c mv) 47)
  have HM := Lib.hid (fun W (hb : Below w.heap.size w W) => h.same hb)
  have HC : Hid (∀ W, MM base M mv c W → W.cell? ⟨M, 33, none⟩ = some (.int .u32 c.a) ∧ W.cell? ⟨M, 34, none⟩ = some mv ∧ W.cell? ⟨M, 35, none⟩ = some (.int .i64 c.e) ∧ W.frozen? ⟨M, 35, none⟩ = false) := Lib.hid (fun W hW => ⟨(hW.tailAt 1 _ rfl).1, (hW.tailAt 2 _ rfl).1, hW.tailAt 3 _ rfl⟩)
  have HE : Hid (∀ W, MM base M mv c W → MM base M mv { c with e := 3 } (W.setCell ⟨M, 35, none⟩ (.int .i64 3))) := Lib.hid (fun W hW => hW.setE 3)
  have HQ := Lib.hid hq
  have HBY : Hid (Byt (c.m.drop q)) := Lib.hid (fun i => by rw [List.getD_eq_getElem?_getD, List.getElem?_drop, ← List.getD_eq_getElem?_getD]; exact h.mb _)
  have HCD := Lib.hid (fun W' v (hv : Ints .u8 W' v (c.m.drop q)) (hby : Byt (c.m.drop q)) => show Calls _ _ #[v] W' (fun e w' => e = .returned (.tuple #[.agg #[.int .i64 (decX (c.m.drop q)).o, .int .i64 (decX (c.m.drop q)).d, .int .i64 (decX (c.m.drop q)).s, .int .i64 (decX (c.m.drop q)).z, .int .i64 (decX (c.m.drop q)).i], .int .i64 (decN (c.m.drop q)), .bool (decB (c.m.drop q))]) ∧ Below W'.heap.size W' w') from decode_any (c.m.drop q) v W' hv hby)
  have HY : Hid (decB (c.m.drop q) = true → okI (decX (c.m.drop q)) = true ∧ decN (c.m.drop q) ≤ 32768) := Lib.hid (fun hd => by
    obtain ⟨h1, h2⟩ := dec_facts hd
    have := h.ml
    rw [List.length_drop] at h2
    exact ⟨h1, by omega⟩)
  obtain ⟨R, hR⟩ : ∃ R, (if decB (c.m.drop q) = true then stpX (decX (c.m.drop q)) (decN (c.m.drop q)) c else { c with e := 3 }) = R := ⟨_, rfl⟩
  rw [hR]
  have HR := Lib.hid hR
  clear hR
  generalize decX (c.m.drop q) = y at *
  generalize decN (c.m.drop q) = n at *
  generalize decB (c.m.drop q) = db at *
  have HOW : Hid (∀ k, mv.ownBlock = some k → k < w.heap.size) := Lib.hid (fun k e => (h.own k e).2)
  have HMA := Lib.hid (fun (W : World) (c' : Mac) (h' : MM base M mv c' W) (hm : c'.m = c.m) => h'.restore (c := c) hm h.rl h.rb h.fb h.ab)
  have HPW : Hid (0 ≤ c.f ∧ c.f ≤ 15) := Lib.hid h.fb
  have HCS := Lib.hid (show ([.int .i64 c.f] : List Value)[0]? = (macC c mv)[32]? by unfold macC; rw [List.getElem?_append_right (by simp [h.rl])]; simp [h.rl])
  generalize macC c mv = cs at *
  have hsz2 : (Try.prog.info? 47).map (·.size) = some cs.toArray.size := by simpa using hsz
  have hold : 36 = cs.toArray.size := by simpa using hl.symm
  clear h
  go_enter Try.func37, Try.ntmps37
  go_upto_region 4 with (first | (refine wpList_load_mid rfl _ _ rfl M 0 rfl cs _ hc Try.underlying47 rfl hsz ?_) | (refine wp_store_row _ _ _ rfl w.heap.size cs.toArray rfl rfl 47 _ (newest _ _ _) hsz2 hold hone ?_))
  obtain ⟨hb, hcs, hbx, hws⟩ := HW.out #[.int .u32 0, .int .u32 0, .int .u32 0, .int .u32 0, .int .u32 0, .int .u32 0, .int .u32 0, .int .u32 0, .int .u32 0, .int .u32 0, .int .u32 0, .int .u32 0, .int .u32 0, .int .u32 0, .int .u32 0, .int .u32 0, .int .u32 0, .int .u32 0, .int .u32 0, .int .u32 0, .int .u32 0, .int .u32 0, .int .u32 0, .int .u32 0, .int .u32 0, .int .u32 0, .int .u32 0, .int .u32 0, .int .u32 0, .int .u32 0, .int .u32 0, .int .u32 0, .int .i64 0, .int .u32 0, .slice none 0 0, .int .i64 0]
  clear HW
  generalize (((w.alloc (.cells #[.int .u32 0, .int .u32 0, .int .u32 0, .int .u32 0, .int .u32 0, .int .u32 0, .int .u32 0, .int .u32 0, .int .u32 0, .int .u32 0, .int .u32 0, .int .u32 0, .int .u32 0, .int .u32 0, .int .u32 0, .int .u32 0, .int .u32 0, .int .u32 0, .int .u32 0, .int .u32 0, .int .u32 0, .int .u32 0, .int .u32 0, .int .u32 0, .int .u32 0, .int .u32 0, .int .u32 0, .int .u32 0, .int .u32 0, .int .u32 0, .int .u32 0, .int .u32 0, .int .i64 0, .int .u32 0, .slice none 0 0, .int .i64 0] 47)).setRow w.heap.size cs.toArray).alloc (.cells #[.int .i64 0, .int .i64 0, .int .i64 0, .int .i64 0, .int .i64 0] 25)) = W at *
  have hm := HM.out W hb
  have hS : SC base M mv c w w.heap.size cs ⟨0, 0, 0, 0, 0⟩ W := ⟨hm, hcs, hbx, Ch.of_below hb, by omega, hM, HOW.out, Nat.le_refl _⟩
  obtain ⟨c33, c34, c35, f35⟩ := HC.out W hm
  have HCH := Lib.hid (Ch.of_below (T := M) (M := M) (mv := mv) hb)
  have HEE := Lib.hid (fun n => HE.out _ (hm.drewN n))
  have hdec : decide ((q : Int) < (c.m.length : Int)) = true := decide_eq_true (by omega)
  have HID := Lib.hid (fun wk (h : SC base M mv c w w.heap.size cs ⟨0, 0, 0, 0, 0⟩ wk) => by have h9 := h.mm.ints; rw [hmv] at h9; exact Ints.drop h9 (m := q) (by omega))
  have HMV : Hid (∀ wk, SE base M mv c w w.heap.size cs wk → wk.cell? ⟨M, 34, none⟩ = some (.slice va c.m.length vc)) := Lib.hid (fun wk h => by have := (h.1.tailAt 2 _ rfl).1; rw [hmv] at this; exact this)
  rw [hmv] at c34
  rw [hq] at c33
  have hMW : M < W.heap.size := by omega
  have HMVE := Lib.hid hmv
  have HSZ := Lib.hid hsz
  have HSZ2 := Lib.hid hsz2
  have HONE := Lib.hid hone
  have HL := Lib.hid hl
  clear hcs hbx hmv hc hsz hsz2 hold hone q0 hm HC HM HE hb hq hl
  generalize c.m.length = len at *
  go_quiet (fail)
  go_upto_region 5 with fail
  have e33 : ∀ wk, SE base M mv c w w.heap.size cs wk → wk.cell? ⟨M, 33, none⟩ = some (.int .u32 (q : Int)) := fun wk h => by have := (h.1.tailAt 1 _ rfl).1; rw [HQ.out] at this; exact this
  have e34 : ∀ wk, SE base M mv c w w.heap.size cs wk → wk.cell? ⟨M, 34, none⟩ = some (.slice va len vc) := HMV.out
  have hS0 := hS.drewN nq
  have hql : q ≤ len := by omega
  have hqv : len ≤ vc := by omega
  refine wp_region_held_drew (S := (SE base M mv c w w.heap.size cs)) (by kernel_rfl) ?_ (fun hHeld => ?_)
  · (first | exact SC.toE hS2 | exact SC.toE (by assumption) | exact SC.toE (SC.drew (by assumption)) | exact SC.toE (SC.drewN (by assumption) _))
  refine tk 0 ?_; refine tk 1 ?_; refine tk 2 ?_; refine tk 3 ?_; refine tk 4 ?_; refine tk 5 ?_; refine tk 6 ?_; refine tk 7 ?_
  refine tk 8 ?_
  refine rd1 9 (fun K hK => ?_)
  (go_simp; (go_at_call 9; refine (HCD.out _ _ (HID.out _ (hS.drewN _)) HBY.out).mono ?_; rintro e w1 ⟨rfl, hb1⟩; have hS1 := (hS.drewN (nq + 1)).below hb1))
  refine hK.out _ _ ?_ (fun hHeld => ?_)
  · (first | exact SC.toE hS2 | exact SC.toE (by assumption) | exact SC.toE (SC.drew (by assumption)) | exact SC.toE (SC.drewN (by assumption) _))
  clear hK K
  try go_frame
  refine tk 10 ?_; refine tk 11 ?_; refine tk 12 ?_; refine tk 13 ?_
  refine rd1 14 (fun K hK => ?_)
  ((obtain ⟨⟨x0, x1, x2, x3, x4⟩, xf⟩ := hS1.b.cells); go_simp; have hS2 := hS1.put y; clear x0 x1 x2 x3 x4 xf)
  refine hK.out _ _ ?_ (fun hHeld => ?_)
  · (first | exact SC.toE hS2 | exact SC.toE (by assumption) | exact SC.toE (SC.drew (by assumption)) | exact SC.toE (SC.drewN (by assumption) _))
  clear hK K
  try go_frame
  refine tk 15 ?_; refine tk 16 ?_
  refine wpAnyH_done (by kernel_rfl) ?_ _
  clear e33 e34 hS hS0 hS1 HID HMV
  have HS2 := Lib.hid hS2
  clear hS2
  generalize (((((w1.setCell ⟨w.heap.size + 1, 0, none⟩ (.int .i64 y.o)).setCell ⟨w.heap.size + 1, 1, none⟩ (.int .i64 y.d)).setCell ⟨w.heap.size + 1, 2, none⟩ (.int .i64 y.s)).setCell ⟨w.heap.size + 1, 3, none⟩ (.int .i64 y.z)).setCell ⟨w.heap.size + 1, 4, none⟩ (.int .i64 y.i)) = W3 at *
  cases db
  · rw [if_neg (by decide)] at HR
    have k35 : W3.cell? ⟨M, 35, none⟩ = some (.int .i64 c.e) := (HS2.out.mm.tailAt 3 _ rfl).1
    have g35 : W3.frozen? ⟨M, 35, none⟩ = false := (HS2.out.mm.tailAt 3 _ rfl).2
    have hM3 : M < W3.heap.size := HS2.out.mm.ltM
    clear c33 c34 c35 f35 hb1 hdec hal ml
    go_wp2_with fail
    all_goals (rw [← HR.out]; exact bodyPost_ret (v := .tuple #[]) (by simp [results, Try.results37, go_sem]) rfl ⟨rfl, HS2.out.mm.setE 3, HS2.out.ch.setM _ _⟩)
  · rw [if_pos rfl] at HR
    obtain ⟨hfit, hn⟩ := HY.out rfl
    obtain ⟨⟨x0, x1, x2, x3, x4⟩, xf⟩ := HS2.out.b.cells
    go_upto_region 9 with fail
    generalize hz0 : (if y.z < 16 then 16 else y.z) = z at *
    have hz : z = 16 ∨ z = 32 := by rcases ok_size hfit with e | e | e <;> (rw [e] at hz0; simp at hz0; omega)
    have hzm : max y.z 16 = z := by rw [← hz0]; split <;> omega
    generalize (if vc = q then va else Option.map (fun x => x.add q) va) = sa at *
    have hbA : Below W3.heap.size W3 (W3.alloc (.cells #[.pointer (some ⟨M, 0, none⟩), .int .i64 y.o, .int .i64 y.d, .int .i64 y.s, .int .i64 y.z, .int .i64 y.i, .int .i64 z, .bool false] 91)) := (Below.refl _ _).alloc (Nat.le_refl _) _
    have hS4 := HS2.out.below hbA
    have hB1 := HS2.out.b.lt
    have htc : CellsAt (W3.alloc (.cells #[.pointer (some ⟨M, 0, none⟩), .int .i64 y.o, .int .i64 y.d, .int .i64 y.s, .int .i64 y.z, .int .i64 y.i, .int .i64 z, .bool false] 91)) W3.heap.size [.pointer (some ⟨M, 0, none⟩), .int .i64 y.o, .int .i64 y.d, .int .i64 y.s, .int .i64 y.z, .int .i64 y.i, .int .i64 z, .bool false] := cellsAt_of (t := 91) (newest _ _ _)
    have hst := hS4.mm.toMSt (x := y) (z := z) (fl := false) htc (by omega) (fun e => by have := (HS2.out.mm.own _ e).2; omega) (by have := HS2.out.mm.bm; omega) hz
    have HEX := Lib.hid (execute_any _ hst (ok_fit hfit) (fit_imm hfit))
    have hT : w.heap.size + 1 < W3.heap.size := hB1
    have hTM : M < W3.heap.size := by omega
    have HS4 := Lib.hid hS4
    have HFI := Lib.hid hfit
    have HZM := Lib.hid hzm
    have hW4 : W3.heap.size < (W3.alloc (.cells #[.pointer (some ⟨M, 0, none⟩), .int .i64 y.o, .int .i64 y.d, .int .i64 y.s, .int .i64 y.z, .int .i64 y.i, .int .i64 z, .bool false] 91)).heap.size := by simp
    clear hS4 hst htc hbA hB1 x0 x1 x2 x3 x4 xf hfit hz0 hz hzm HS2 HCD HY hHeld c33 c34 c35 f35 HCH HEE hdec hb1
    generalize W3.alloc (.cells #[.pointer (some ⟨M, 0, none⟩), .int .i64 y.o, .int .i64 y.d, .int .i64 y.s, .int .i64 y.z, .int .i64 y.i, .int .i64 z, .bool false] 91) = W4 at *
    generalize W3.heap.size = T at *
    go_upto_region 10 with ((go_at_call 56; with_reducible refine (HEX.out).mono ?_); rintro e w5 ⟨rfl, hex⟩; have HX := Lib.hid hex; clear hex)
    have hch : Ch T M mv W4 w5 := HX.out.2
    have hOW4 := HOW.out
    have hkB := HS4.out.k.block (hch.block w.heap.size (by omega) (by omega) (by omega) (fun e => by have := hOW4 _ e; omega))
    have hbB : Box5 w5 (w.heap.size + 1) y.o y.d y.s y.z y.i := (hch.block (w.heap.size + 1) (by omega) (by omega) (by omega) (fun e => by have := hOW4 _ e; omega)).trans HS4.out.b
    have HC5 := Lib.hid (HS4.out.ch.transT hch (by omega))
    have HK := Lib.hid hkB
    have HBX := Lib.hid hbB
    clear hkB hbB hch hOW4 HEX HS4
    cases hX : exM y z c with
    | none =>
      obtain ⟨c', hs5, hm5⟩ : ∃ c', MSt base T M mv y z true c' w5 ∧ c'.m = c.m := by have := HX.out.1; rw [hX] at this; exact this
      have hRe := (HR.out.symm.trans (stpX_none HZM.out hX))
      clear HR
      subst hRe
      have ft := hs5.ft.1
      have mm5 := hs5.toMM
      have c34 := (mm5.tailAt 2 _ rfl).1
      rw [HMVE.out] at c34
      have hsz := HSZ.out
      have hsz2 := HSZ2.out
      have hone := HONE.out
      have hrg := HK.out.range
      have hth : w5.there M 0 cs.toArray.size := mm5.m.there (by rw [HL.out, macC_len mm5.rl])
      have HM6 := Lib.hid (HMA.out _ _ mm5 hm5)
      have HC6 := Lib.hid (Ch.setCells cs 0 _ HC5.out)
      have hT5 : T < w5.heap.size := hs5.ltT
      clear hs5 mm5 HX hX
      go_upto_region 13 with (first | (refine wpList_load_mid rfl _ _ rfl w.heap.size 0 rfl cs _ hrg Try.underlying47 rfl hsz ?_) | (refine wpList_store_mid rfl _ _ _ rfl M 0 cs.toArray rfl rfl hth hsz2 hone ?_))
      have HM7 := Lib.hid (HM6.out.setMvE)
      have k34 := (HM6.out.tailAt 2 _ rfl).1
      have g34 := (HM6.out.tailAt 2 _ rfl).2
      have k35 := (HM6.out.tailAt 3 _ rfl).1
      have g35 := (HM6.out.tailAt 3 _ rfl).2
      have hMl : M < (w5.setCells M 0 cs).heap.size := by rw [size_setCells']; omega
      rw [HMVE.out] at k34
      rw [HMVE.out] at HM7
      clear ft c34 hsz hsz2 hone hrg hth hm5 hT5
      generalize w5.setCells M 0 cs = W6 at *
      go_wp2_with fail
      refine bodyPost_end (v := .tuple #[]) (by simp [results, Try.results37, go_sem]) rfl ⟨rfl, ?_, ?_⟩
      · rw [← HMVE.out]; exact HM6.out.setMvE
      · exact (HC6.out.setM _ _).setM _ _
    | some c' =>
      have hs5 : MSt base T M mv y z false c' w5 := by have := HX.out.1; rw [hX] at this; exact this
      have hRe := (HR.out.symm.trans (stpX_some HZM.out hX))
      have ft := hs5.ft.1
      have mm5 := hs5.toMM
      have HM5 := Lib.hid mm5
      have hT5 : T < w5.heap.size := hs5.ltT
      have hM5 : M < w5.heap.size := hs5.ltM
      have c35 := (mm5.tailAt 3 _ rfl).1
      clear hs5 mm5 HX hX HR
      by_cases he : c'.e = 0
      · rw [he] at c35
        rw [if_pos he] at hRe
        have c33 := (HM5.out.tailAt 1 _ rfl).1
        have f33 := (HM5.out.tailAt 1 _ rfl).2
        have ab5 := HM5.out.ab
        obtain ⟨⟨x0, x1, x2, x3, x4⟩, xf⟩ := HBX.out.cells
        have b32 : w5.cell? ⟨w.heap.size, 32, none⟩ = some (.int .i64 c.f) := (HK.out 32 _ HCS.out.symm).1
        go_upto_region 16 with fail
        have HM6 := Lib.hid (HM5.out.setA (n := (c'.a + n) % 4294967296) (by omega) (by omega))
        have hbx6 := HBX.out.block (W' := w5.setCell ⟨M, 33, none⟩ (.int .u32 ((c'.a + n) % 4294967296))) (Below.heap_setCell w5 ⟨M, 33, none⟩ _ _ (by show w.heap.size + 1 ≠ M; omega))
        have hk6 := (HK.out.other (b' := M) (k := 33) (by omega) (.int .u32 ((c'.a + n) % 4294967296)))
        have HC6 := Lib.hid (HC5.out.setM 33 (.int .u32 ((c'.a + n) % 4294967296)))
        have HJ := Lib.hid (fun wk => show Calls Try.prog 57 #[.agg #[.int .i64 y.o, .int .i64 y.d, .int .i64 y.s, .int .i64 y.z, .int .i64 y.i], .int .i64 c.f] wk (fun e w' => e = .returned (.bool (jmpB y c.f)) ∧ Below wk.heap.size wk w') from isJump_any y c.f wk (jmp_cond HFI.out) HPW.out.1 HPW.out.2)
        have hB6 : w.heap.size + 1 < (w5.setCell ⟨M, 33, none⟩ (.int .u32 ((c'.a + n) % 4294967296))).heap.size := hbx6.lt
        have HRe := Lib.hid hRe
        obtain ⟨a6, ha6⟩ : ∃ a6, (c'.a + (n : Int)) % 4294967296 = a6 := ⟨_, rfl⟩
        have ha60 : 0 ≤ a6 ∧ a6 < 4294967296 := by omega
        have HA6 := Lib.hid ha6
        rw [ha6] at hbx6 hk6 HM6 HC6 hB6 ⊢
        clear ha6 hRe x0 x1 x2 x3 x4 xf b32 c33 f33 c35 ft HBX HK HC5 HM5 ab5
        generalize w5.setCell ⟨M, 33, none⟩ (.int .u32 a6) = W6 at *
        obtain ⟨⟨x0, x1, x2, x3, x4⟩, xf⟩ := hbx6.cells
        have b32 : W6.cell? ⟨w.heap.size, 32, none⟩ = some (.int .i64 c.f) := (hk6 32 _ HCS.out.symm).1
        have HBX := Lib.hid hbx6
        obtain ⟨jb, hjb⟩ : ∃ jb, jmpB y c.f = jb := ⟨_, rfl⟩
        rw [hjb] at HJ HRe
        clear hk6 hbx6 hjb
        cases jb
        · go_wp2_with ((go_at_call 57; with_reducible refine (HJ.out _).mono ?_); rintro e w7 ⟨rfl, hb7⟩)
          have e9 : (c'.a + (n : Int) + (if false = true then y.i else 0)) % 4294967296 = a6 := by rw [if_neg (by decide), Int.add_zero]; exact HA6.out
          refine bodyPost_end (v := .tuple #[]) (by simp [results, Try.results37, go_sem]) rfl ⟨rfl, ?_, HC6.out.trans (Ch.of_below hb7)⟩
          rw [HRe.out, e9]
          exact HM6.out.same hb7
        · go_upto_region 17 with ((go_at_call 57; with_reducible refine (HJ.out _).mono ?_); rintro e w7 ⟨rfl, hb7⟩)
          have hM7 := HM6.out.same hb7
          have c33 := (hM7.tailAt 1 _ rfl).1
          have f33 := (hM7.tailAt 1 _ rfl).2
          have hM7l := hM7.ltM
          obtain ⟨⟨-, -, -, -, y4⟩, -⟩ := (HBX.out.block (hb7.block _ hB6)).cells
          have hB7 : w.heap.size + 1 < w7.heap.size := Nat.lt_of_lt_of_le hB6 hb7.size
          have HM7 := Lib.hid hM7
          have HC7 := Lib.hid (HC6.out.trans (Ch.of_below hb7))
          have e9 := Lib.hid (show (c'.a + (n : Int) + (if true = true then y.i else 0)) % 4294967296 = (a6 + y.i) % 4294967296 by rw [if_pos rfl, ← HA6.out]; omega)
          have hbd : 0 ≤ (a6 + y.i) % 4294967296 ∧ (a6 + y.i) % 4294967296 < 4294967296 := by omega
          have HM8 := Lib.hid ((hM7.setA hbd.1 hbd.2).same (Below.refl _ _).drew)
          have HC8 := Lib.hid ((HC7.out.setM 33 (.int .u32 ((a6 + y.i) % 4294967296))).drew)
          clear hM7 hb7 x0 x1 x2 x3 x4 xf b32 hbd ha60
          go_region
          go_wp2_with fail
          refine bodyPost_end (v := .tuple #[]) (by simp [results, Try.results37, go_sem]) rfl ⟨rfl, ?_, HC8.out⟩
          rw [HRe.out, e9.out]
          exact HM8.out
      · rw [if_neg he] at hRe
        have HRe := Lib.hid hRe
        have d0 : (c'.e == 0) = false := by simpa using he
        clear hRe he
        go_wp2_with fail
        refine bodyPost_end (v := .tuple #[]) (by simp [results, Try.results37, go_sem]) rfl ⟨rfl, ?_, HC5.out⟩
        rw [HRe.out]
        exact HM5.out
end Go.Proofs.Ytdojafpjipcbjaa
namespace Go.Proofs.Ytdojafpjipcbjaa
open Go.RowKit
set_option linter.unusedVariables false
set_option linter.unusedSimpArgs false
theorem two_new (w : World) (cs ds : List Value) (t : TypeId) (h0 : 0 < cs.length) : CellsAt ((w.alloc (.cells cs.toArray t)).alloc (.cells ds.toArray t)) w.heap.size cs ∧ CellsAt ((w.alloc (.cells cs.toArray t)).alloc (.cells ds.toArray t)) (w.heap.size + 1) ds ∧ Below w.heap.size w ((w.alloc (.cells cs.toArray t)).alloc (.cells ds.toArray t)) ∧ ((w.alloc (.cells cs.toArray t)).alloc (.cells ds.toArray t)).heap.size = w.heap.size + 2 := by
  obtain ⟨h1, h2⟩ := box_cells w cs t
  obtain ⟨h3, h4⟩ := box_cells (w.alloc (.cells cs.toArray t)) ds t
  have hs : (w.alloc (.cells cs.toArray t)).heap.size = w.heap.size + 1 := by simp
  refine ⟨h2.below h0 h3, by rw [← hs]; exact h4, h1.alloc (by omega) _, by simp⟩
theorem mac0C : (#[.int .u32 0, .int .u32 0, .int .u32 0, .int .u32 0, .int .u32 0, .int .u32 0, .int .u32 0, .int .u32 0, .int .u32 0, .int .u32 0, .int .u32 0, .int .u32 0, .int .u32 0, .int .u32 0, .int .u32 0, .int .u32 0, .int .u32 0, .int .u32 0, .int .u32 0, .int .u32 0, .int .u32 0, .int .u32 0, .int .u32 0, .int .u32 0, .int .u32 0, .int .u32 0, .int .u32 0, .int .u32 0, .int .u32 0, .int .u32 0, .int .u32 0, .int .u32 0, .int .i64 0, .int .u32 0, .slice none 0 0, .int .i64 0] : Array Value) = (macC mac0 (.slice none 0 0)).toArray := rfl
theorem mac0_ok : MOk mac0 := ⟨rfl, fun k => by
  have : (List.replicate 32 (0 : Int)).getD k 0 = 0 := by
    rw [List.getD_eq_getElem?_getD, List.getElem?_replicate]
    split <;> rfl
  show 0 ≤ (List.replicate 32 (0 : Int)).getD k 0 ∧ (List.replicate 32 (0 : Int)).getD k 0 < 4294967296
  omega, ⟨by decide, by decide⟩, fun i => by show 0 ≤ ([] : List Int).getD i 0 ∧ ([] : List Int).getD i 0 < 256; simp⟩
set_option maxRecDepth 100000 in
set_option maxHeartbeats 1000000 in
theorem checked_any (c : Mac) (mv : Value) (w : World) (hr : c.r.length = 32) (hm : Ints .u8 w mv c.m) : Calls Try.prog 36 #[.agg (macC c mv).toArray] w fun e w' => e = .returned (.int .i64 (machE c)) ∧ Below w.heap.size w w' := by
  obtain ⟨va, vc, hmv, hl1, hl2⟩ := hm.shape
  obtain ⟨hb, hk⟩ := box_cells w (macC c mv) 47
  have HB := Lib.hid hb
  obtain ⟨⟨c32, -⟩, -, ⟨c34, -⟩, -⟩ := hk.tails hr
  unfold machE
  generalize macC c mv = cs at *
  rw [hmv] at c34
  generalize c.m.length = len at *
  generalize c.f = f at *
  clear hmv hk hb hm hr
  by_cases h1 : 32768 < len
  · rw [if_pos (Or.inl h1)]
    have d1 : decide ((32768 : Int) < (len : Int)) = true := decide_eq_true (by omega)
    clear h1 hl1 hl2
    go_enter Try.func36, Try.ntmps36
    go_wp2_with fail
    go_ret
    exact ⟨rfl, HB.out⟩
  · have d1 : decide ((32768 : Int) < (len : Int)) = false := decide_eq_false (by omega)
    by_cases h2 : f < 0
    · rw [if_pos (Or.inr (Or.inl h2))]
      have d2 : decide (f < 0) = true := decide_eq_true h2
      clear h1 h2 hl1 hl2
      go_enter Try.func36, Try.ntmps36
      go_wp2_with fail
      go_ret
      exact ⟨rfl, HB.out⟩
    · have d2 : decide (f < 0) = false := decide_eq_false h2
      by_cases h3 : 15 < f
      · rw [if_pos (Or.inr (Or.inr h3))]
        have d3 : decide (15 < f) = true := decide_eq_true h3
        clear h1 h2 h3 hl1 hl2
        go_enter Try.func36, Try.ntmps36
        go_wp2_with fail
        go_ret
        exact ⟨rfl, HB.out⟩
      · rw [if_neg (by omega)]
        have d3 : decide (15 < f) = false := decide_eq_false h3
        clear h1 h2 h3 hl1 hl2
        go_enter Try.func36, Try.ntmps36
        go_wp2_with fail
        go_ret
        exact ⟨rfl, HB.out⟩
set_option maxRecDepth 100000 in
set_option maxHeartbeats 1000000 in
theorem copy_any (c : Mac) (mv : Value) (w : World) (ho : MOk c) (hm : Ints .u8 w mv c.m) (hl : c.m.length ≤ 100000) : Calls Try.prog 23 #[.agg (macC c mv).toArray] w fun e w' => ∃ mv', e = .returned (.agg (macC c mv').toArray) ∧ MemO w.heap.size w' mv' c.m ∧ Below w.heap.size w w' := by
  have hsz : ∀ v, (Try.prog.info? 47).map (·.size) = some (macC c v).length := fun v => by rw [macC_len ho.rl]; kernel_rfl
  have hlen := macC_len ho.rl mv
  have hl36 := fun v => macC_len ho.rl v
  obtain ⟨k0, k1, hb1, hs1⟩ := two_new w (macC c mv) (macC mac0 (.slice none 0 0)) 47 (by omega)
  obtain ⟨-, -, c34, -⟩ := k0.tails ho.rl
  have h9 := ho.rl
  rw [← mac0C] at k0 k1 hb1 hs1 c34
  have hv1 := hm.stays hb1
  obtain ⟨W1, hW1⟩ : ∃ W, ((w.alloc (.cells (macC c mv).toArray 47)).alloc (.cells #[.int .u32 0, .int .u32 0, .int .u32 0, .int .u32 0, .int .u32 0, .int .u32 0, .int .u32 0, .int .u32 0, .int .u32 0, .int .u32 0, .int .u32 0, .int .u32 0, .int .u32 0, .int .u32 0, .int .u32 0, .int .u32 0, .int .u32 0, .int .u32 0, .int .u32 0, .int .u32 0, .int .u32 0, .int .u32 0, .int .u32 0, .int .u32 0, .int .u32 0, .int .u32 0, .int .u32 0, .int .u32 0, .int .u32 0, .int .u32 0, .int .u32 0, .int .u32 0, .int .i64 0, .int .u32 0, .slice none 0 0, .int .i64 0] 47)) = W := ⟨_, rfl⟩
  rw [hW1] at k0 k1 hb1 hs1 c34 hv1
  have hset := fun v => macC_set ho.rl mv v
  have HLEN := Lib.hid hl
  have HVW := Lib.hid ((hv1.stays ((Below.refl W1.heap.size W1).alloc (Nat.le_refl _) (.cells #[] 5))))
  have HROW := Lib.hid (RowI.lit W1 #[] [] .u8 5 W1.heap.size 0 (Nat.le_refl _) rfl rfl (by unfold maxLen; simp))
  have HK0 := Lib.hid k0
  have HK1 := Lib.hid k1
  have HB1 := Lib.hid hb1
  have HSZ := Lib.hid hsz
  have HSET := Lib.hid hset
  have HL36 := Lib.hid hl36
  have HRL := Lib.hid ho.rl
  generalize hcs : macC c mv = cs at *
  obtain ⟨c34, f34⟩ := c34
  have hlt : w.heap.size < W1.heap.size := by omega
  have hlt1 : w.heap.size + 1 < W1.heap.size := by omega
  have HLN := Lib.hid hlen
  clear hcs
  obtain ⟨va, vc, rfl, hl1, hl2⟩ := hm.shape
  clear k0 k1 hb1 hsz hset hl36 hlen hs1 hv1 hl ho hm h9 hl1 hl2
  go_enter Try.func23, Try.ntmps23
  go_upto_region 1 with fail
  clear hW1
  go_upto_region 2 with (at_builtin; go_must (refine app_any rfl _ _ rfl W1.heap.size _ [] rfl HROW.out _ c.m rfl HVW.out (by simpa using HLEN.out) (by simp) ?_; intro v5 w5 hr5 hb5; have hr6 : RowI w5 W1.heap.size 5 .u8 v5 c.m := hr5; clear hr5; obtain ⟨a5, k5, e5⟩ := hr6.shape; subst e5; have HR5 := Lib.hid hr6; clear hr6; have hb5' : Below W1.heap.size W1 w5 := ((Below.refl W1.heap.size W1).alloc (Nat.le_refl _) _).trans hb5; have y34 : w5.cell? ⟨w.heap.size, 34, none⟩ = some (.slice va c.m.length vc) := (hb5'.cell (p := ⟨w.heap.size, 34, none⟩) hlt).trans c34; have z34 : w5.frozen? ⟨w.heap.size, 34, none⟩ = false := (hb5'.frozen (p := ⟨w.heap.size, 34, none⟩) hlt).trans f34))
  have HB5 := Lib.hid hb5'
  have hcs0 : 0 < cs.length := by rw [HLN.out]; decide
  have K0 := (HK0.out.below hcs0 hb5').set (k := 34) (by rw [HLN.out]; decide) (.slice a5 c.m.length k5)
  have K1 := (HK1.out.below (by rw [macC_len rfl]; decide) hb5').other (b' := w.heap.size) (k := 34) (by omega) (.slice a5 c.m.length k5)
  have hb6 := (HB1.out.trans (hb5'.mono (by omega))).setCell (p := ⟨w.heap.size, 34, none⟩) (Nat.le_refl _) (.slice a5 c.m.length k5)
  have hmo := HR5.out.memO.set (b := w.heap.size) (j := 34) (by omega) (.slice a5 c.m.length k5)
  rw [HSET.out] at K0
  have hsz1 := HSZ.out (.slice a5 c.m.length k5)
  have hone := macC_ones (c := c) (mv := .slice a5 c.m.length k5) ⟨_, _, _, rfl⟩
  have hlen1 := HL36.out (.slice a5 c.m.length k5)
  obtain ⟨zs, hzs⟩ : ∃ zs, macC mac0 (.slice none 0 0) = zs := ⟨_, rfl⟩
  have hzl : zs.length = 36 := by rw [← hzs]; exact macC_len rfl _
  rw [hzs] at K1
  generalize w5.setCell ⟨w.heap.size, 34, none⟩ (.slice a5 c.m.length k5) = W6 at *
  have K2 := K1.setCells (ds := macC c (.slice a5 c.m.length k5)) (by omega)
  have HMO := Lib.hid (((hmo.setCells (b := w.heap.size + 1) (by omega) (macC c (.slice a5 c.m.length k5))).low (base' := w.heap.size) (by omega)))
  have HB6 := Lib.hid (below_setCells (b := w.heap.size + 1) (by omega) (macC c (.slice a5 c.m.length k5)) 0 _ hb6)
  have hth := K1.there (ds := macC c (.slice a5 c.m.length k5)) (by omega)
  have hsz2 : (Try.prog.info? 47).map (·.size) = some (macC c (.slice a5 c.m.length k5)).toArray.size := by simpa using hsz1
  have HK2 := Lib.hid K2
  have HSZ1 := Lib.hid hsz1
  have hrg := K0.range
  obtain ⟨cs5, hcs5⟩ : ∃ cs5, macC c (.slice a5 c.m.length k5) = cs5 := ⟨_, rfl⟩
  have HCS5 := Lib.hid hcs5
  rw [hcs5] at hrg HK2 hsz1 hsz2 hone hth HB6 HMO HSZ1
  clear hcs5 K0 K1 K2 hb6 hmo hlen1 hb5' HSET HSZ HL36 y34 z34 c34 f34 hcs0 hzl
  go_wp2_with (first | (refine wpList_load_mid rfl _ _ rfl w.heap.size 0 rfl cs5 _ hrg Try.underlying47 rfl hsz1 ?_) | (refine wpList_store_mid rfl _ _ _ rfl (w.heap.size + 1) 0 cs5.toArray rfl rfl hth hsz2 hone ?_))
  refine bodyPost_ret (v := .agg cs5.toArray) (res1 rfl rfl HK2.out Try.underlying47 rfl HSZ1.out) rfl ⟨.slice a5 c.m.length k5, by rw [HCS5.out], HMO.out, HB6.out⟩
end Go.Proofs.Ytdojafpjipcbjaa
namespace Go.Proofs.Ytdojafpjipcbjaa
open Go.RowKit
set_option linter.unusedVariables false
set_option linter.unusedSimpArgs false
theorem step_all {base M : Nat} {mv : Value} {c : Mac} {w : World} (h : MM base M mv c w) : Calls Try.prog 37 #[.pointer (some ⟨M, 0, none⟩)] w fun e w' => e = .returned (.tuple #[]) ∧ MM base M mv (stepM c) w' ∧ Ch M M mv w w' := by
  have hab := h.ab
  by_cases ha : c.a.toNat < c.m.length
  · have := step_dec base M mv c w h c.a.toNat (by omega) ha
    unfold stepM
    by_cases hd : decB (c.m.drop c.a.toNat) = true
    · rw [if_pos hd] at this
      rw [if_pos ⟨ha, hd⟩]
      exact this
    · rw [if_neg hd] at this
      rw [if_neg (fun h => hd h.2)]
      exact this
  · unfold stepM
    rw [if_neg (fun h => ha h.1)]
    exact step_out base M mv c w h (by omega)
/-- What Step hands back. -/
def StepR (c : Mac) : Mac × Int := if machE c = 0 then (if c.e = 0 then (stepM c, 0) else (mac0, 9)) else (mac0, 1)
theorem machE_01 (c : Mac) : machE c = 0 ∨ machE c = 1 := by unfold machE; split <;> simp
theorem machE_ok {c : Mac} (h : machE c = 0) : c.m.length ≤ 32768 ∧ 0 ≤ c.f ∧ c.f ≤ 15 := by
  unfold machE at h
  split at h
  · cases h
  · omega
set_option maxRecDepth 100000 in
set_option maxHeartbeats 1000000 in
theorem Step_any (c : Mac) (mv : Value) (w : World) (ho : MOk c) (hm : Ints .u8 w mv c.m) : Calls Try.prog 22 #[.agg (macC c mv).toArray] w fun e w' => (∃ mv', e = .returned (.tuple #[.agg (macC (StepR c).1 mv').toArray, .int .i64 (StepR c).2]) ∧ MemO w.heap.size w' mv' (StepR c).1.m ∧ MOk (StepR c).1 ∧ (StepR c).1.m.length ≤ 32768) ∧ Below w.heap.size w w' := by
  have hsz : ∀ v, (Try.prog.info? 47).map (·.size) = some (macC c v).length := fun v => by rw [macC_len ho.rl]; kernel_rfl
  have hsz0 : (Try.prog.info? 47).map (·.size) = some (macC mac0 (.slice none 0 0)).length := by rw [macC_len rfl]; kernel_rfl
  have hlen := macC_len ho.rl mv
  have hl36 := fun v => macC_len ho.rl v
  obtain ⟨k0, k1, hb1, hs1⟩ := two_new w (macC c mv) (macC mac0 (.slice none 0 0)) 47 (by omega)
  rw [← mac0C] at k0 k1 hb1 hs1
  have hv1 := hm.stays hb1
  obtain ⟨W1, hW1⟩ : ∃ W, ((w.alloc (.cells (macC c mv).toArray 47)).alloc (.cells #[.int .u32 0, .int .u32 0, .int .u32 0, .int .u32 0, .int .u32 0, .int .u32 0, .int .u32 0, .int .u32 0, .int .u32 0, .int .u32 0, .int .u32 0, .int .u32 0, .int .u32 0, .int .u32 0, .int .u32 0, .int .u32 0, .int .u32 0, .int .u32 0, .int .u32 0, .int .u32 0, .int .u32 0, .int .u32 0, .int .u32 0, .int .u32 0, .int .u32 0, .int .u32 0, .int .u32 0, .int .u32 0, .int .u32 0, .int .u32 0, .int .u32 0, .int .u32 0, .int .i64 0, .int .u32 0, .slice none 0 0, .int .i64 0] 47)) = W := ⟨_, rfl⟩
  rw [hW1] at k0 k1 hb1 hs1 hv1
  have HCH := Lib.hid (checked_any c mv W1 ho.rl hv1)
  have HV1 := Lib.hid hv1
  have HB1 := Lib.hid hb1
  have HK0 := Lib.hid k0
  have HK1 := Lib.hid k1
  have HSZ := Lib.hid hsz
  have HSZ0 := Lib.hid hsz0
  have HO := Lib.hid ho
  have HSET := Lib.hid (fun v => macC_set ho.rl mv v)
  have HM := Lib.hid hm
  have hszm := hsz mv
  have hrg := k0.range
  have hlt1 : w.heap.size + 1 < W1.heap.size := by omega
  have HMA := Lib.hid (machE_01 c)
  generalize hE : machE c = E at *
  have HE := Lib.hid hE
  obtain ⟨cs, hcs⟩ : ∃ cs, macC c mv = cs := ⟨_, rfl⟩
  have HCS := Lib.hid hcs
  have HLN := Lib.hid hlen
  rw [hcs] at hrg hszm HCH ⊢
  simp only [hcs] at hW1
  clear k0 k1 hb1 hsz hsz0 hl36 hs1 hv1 ho hm hE hlen
  go_enter Try.func22, Try.ntmps22
  go_upto_region 2 with (first | (refine wpList_load_mid rfl _ _ rfl w.heap.size 0 rfl cs _ hrg Try.underlying47 rfl hszm ?_) | ((go_at_call 36; with_reducible refine (HCH.out).mono ?_); rintro e w2 ⟨rfl, hb2⟩))
  have K0 := HK0.out.below (by rw [HLN.out]; decide) hb2
  have K1 := HK1.out.below (by rw [macC_len rfl]; decide) hb2
  have hb02 := HB1.out.trans (hb2.mono (by omega))
  have hv2 := HV1.out.stays hb2
  have hlt2 : w.heap.size + 1 < w2.heap.size := Nat.lt_of_lt_of_le hlt1 hb2.size
  obtain ⟨-, -, ⟨c34, f34⟩, ⟨c35, f35⟩⟩ := K0.tails HO.out.rl
  have hthz := K1.there (ds := macC mac0 (.slice none 0 0)) rfl
  have hszz : (Try.prog.info? 47).map (·.size) = some (macC mac0 (.slice none 0 0)).toArray.size := by simpa using HSZ0.out
  have honez := macC_ones (c := mac0) (mv := .slice none 0 0) ⟨_, _, _, rfl⟩
  have KZ := Lib.hid (K1.setCells (ds := macC mac0 (.slice none 0 0)) rfl)
  have BZ := Lib.hid (below_setCells (b := w.heap.size + 1) (by omega) (macC mac0 (.slice none 0 0)) 0 w2 hb02)
  clear hW1 HCH hrg hszm
  rcases HMA.out with e | e
  · subst e
    by_cases he : c.e = 0
    · rw [he] at c35
      have HR := Lib.hid (show StepR c = (stepM c, 0) by unfold StepR; rw [if_pos HE.out, if_pos he])
      have hmo := machE_ok HE.out
      have HLE := Lib.hid (show c.m.length ≤ 100000 by omega)
      obtain ⟨va, vc, hmv, hl1, hl2⟩ := HM.out.shape
      rw [hmv] at c34 hv2
      have HV2 := Lib.hid hv2
      have hlt : w.heap.size < w2.heap.size := by omega
      have HROW := Lib.hid (RowI.nil w2 w2.heap.size 5 .u8)
      have HK02 := Lib.hid K0
      have HK12 := Lib.hid K1
      have HB02 := Lib.hid hb02
      clear he hv2 K0 K1 hb02 hl1 hl2 hthz hszz KZ BZ
      go_upto_region 7 with (at_builtin; go_must (refine app_any rfl _ _ rfl w2.heap.size _ [] rfl HROW.out _ c.m rfl HV2.out (by simpa using HLE.out) (Nat.le_refl _) ?_; intro v5 w5 hr5 hb5; have hr6 : RowI w5 w2.heap.size 5 .u8 v5 c.m := hr5; clear hr5; obtain ⟨a5, k5, e5⟩ := hr6.shape; subst e5; have HR5 := Lib.hid hr6; clear hr6; have y34 : w5.cell? ⟨w.heap.size, 34, none⟩ = some (.slice va c.m.length vc) := (hb5.cell (p := ⟨w.heap.size, 34, none⟩) hlt).trans c34; have z34 : w5.frozen? ⟨w.heap.size, 34, none⟩ = false := (hb5.frozen (p := ⟨w.heap.size, 34, none⟩) hlt).trans f34))
      have hcs0 : 0 < (macC c mv).length := by rw [HLN.out]; decide
      have K0 := (HK02.out.below hcs0 hb5).set (k := 34) (by rw [HLN.out]; decide) (.slice a5 c.m.length k5)
      have K1 := (HK12.out.below (by rw [macC_len rfl]; decide) hb5).other (b' := w.heap.size) (k := 34) (by omega) (.slice a5 c.m.length k5)
      have hb6 := (HB02.out.trans (hb5.mono (by omega))).setCell (p := ⟨w.heap.size, 34, none⟩) (Nat.le_refl _) (.slice a5 c.m.length k5)
      have hmm := (HR5.out.memO.set (b := w.heap.size) (j := 34) (by omega) (.slice a5 c.m.length k5))
      rw [HSET.out] at K0
      have hs6 : (w5.setCell ⟨w.heap.size, 34, none⟩ (.slice a5 c.m.length k5)).heap.size = w5.heap.size := by simp [World.setCell]
      have hs5 := hb5.size
      have HOWN : Hid (∀ k, (Value.slice a5 c.m.length k5).ownBlock = some k → w2.heap.size ≤ k) := Lib.hid (fun k hk => (hmm.own k hk).1)
      generalize w5.setCell ⟨w.heap.size, 34, none⟩ (.slice a5 c.m.length k5) = W6 at *
      have hMM : MM w.heap.size w.heap.size (.slice a5 c.m.length k5) c W6 := MM.of K0 (hmm.low (by omega)) (fun e => by have := HOWN.out _ e; omega) (Nat.le_refl _) HO.out hmo.1 hmo.2
      have HST := Lib.hid (step_all hMM)
      have HK1 := Lib.hid K1
      have HB6 := Lib.hid hb6
      have h6l : w.heap.size + 1 < W6.heap.size := by omega
      clear K0 K1 hb6 hmm hs6 hs5 hMM hmo y34 z34 c34 f34 c35 f35 hb5 HR5 HK02 HK12 hcs0
      go_upto_region 8 with ((go_at_call 37; with_reducible refine (HST.out).mono ?_); rintro e w7 ⟨rfl, hm7, hc7⟩; have HM7 := Lib.hid hm7; have HC7 := Lib.hid hc7; clear hm7 hc7)
      have K17 := HK1.out.block (HC7.out.block (w.heap.size + 1) h6l (by omega) (by omega) (fun e => by have := HOWN.out _ e; omega))
      have hb7 := HB6.out.trans (HC7.out.below (base := w.heap.size) (by omega) (Nat.le_refl _) (Nat.le_refl _) (fun k e => by have := HOWN.out _ e; omega))
      have hl7 := macC_len HM7.out.rl (.slice a5 c.m.length k5)
      have hrg := HM7.out.m.range
      have hsz1 : (Try.prog.info? 47).map (·.size) = some (macC (stepM c) (.slice a5 c.m.length k5)).length := by rw [hl7]; kernel_rfl
      have hsz2 : (Try.prog.info? 47).map (·.size) = some (macC (stepM c) (.slice a5 c.m.length k5)).toArray.size := by simpa using hsz1
      have hone := macC_ones (c := stepM c) (mv := .slice a5 c.m.length k5) ⟨_, _, _, rfl⟩
      have hth := K17.there (ds := macC (stepM c) (.slice a5 c.m.length k5)) (by rw [hl7, macC_len rfl])
      have HK2 := Lib.hid (K17.setCells (ds := macC (stepM c) (.slice a5 c.m.length k5)) (by rw [hl7, macC_len rfl]))
      have HBE := Lib.hid (below_setCells (b := w.heap.size + 1) (by omega) (macC (stepM c) (.slice a5 c.m.length k5)) 0 _ hb7)
      have HME := Lib.hid (HM7.out.memO.setCellsO (b := w.heap.size + 1) (fun e => by have := HOWN.out _ e; omega) (macC (stepM c) (.slice a5 c.m.length k5)))
      have HOK := Lib.hid HM7.out.ok
      have HML := Lib.hid HM7.out.ml
      have HSZ1 := Lib.hid hsz1
      clear K17 hb7 hl7 HM7 HC7 HST HK1 HB6
      obtain ⟨cs7, hcs7⟩ : ∃ cs7, macC (stepM c) (.slice a5 c.m.length k5) = cs7 := ⟨_, rfl⟩
      have HCS7 := Lib.hid hcs7
      rw [hcs7] at hrg hsz1 hsz2 hone hth HK2 HBE HME HSZ1
      clear hcs7
      have h7l : w.heap.size + 1 < w7.heap.size := by have := hth 0 (by have h9 := HSZ1.out; simp only [List.size_toArray]; rw [show cs7.length = 36 by rw [← HCS7.out]; exact macC_len HOK.out.rl _]; decide); obtain ⟨u, hu⟩ := Option.isSome_iff_exists.1 this.1; exact cell_lt hu
      go_wp2_with (first | (refine wpList_load_mid rfl _ _ rfl w.heap.size 0 rfl cs7 _ hrg Try.underlying47 rfl hsz1 ?_) | (refine wpList_store_mid rfl _ _ _ rfl (w.heap.size + 1) 0 cs7.toArray rfl rfl hth hsz2 hone ?_))
      refine bodyPost_ret (v := .tuple #[.agg cs7.toArray, .int .i64 0]) (res2 rfl rfl rfl HK2.out Try.underlying47 rfl HSZ1.out) rfl ?_
      rw [HR.out]
      exact ⟨⟨.slice a5 c.m.length k5, by rw [HCS7.out], HME.out, HOK.out, HML.out⟩, HBE.out⟩
    · have d1 : (c.e == 0) = false := by simpa using he
      have hR : StepR c = (mac0, 9) := by unfold StepR; rw [if_pos HE.out, if_neg he]
      have HR := Lib.hid hR
      clear hR he K0 K1 hv2 c34 f34 f35
      go_wp2_with (refine wpList_store_mid rfl _ _ _ rfl (w.heap.size + 1) 0 (macC mac0 (.slice none 0 0)).toArray rfl rfl hthz hszz honez ?_)
      refine bodyPost_ret (v := .tuple #[.agg (macC mac0 (.slice none 0 0)).toArray, .int .i64 9]) (res2 rfl rfl rfl KZ.out Try.underlying47 rfl HSZ0.out) rfl ?_
      rw [HR.out]
      exact ⟨⟨.slice none 0 0, rfl, Or.inl ⟨rfl, rfl⟩, mac0_ok, by decide⟩, BZ.out⟩
  · subst e
    have hR : StepR c = (mac0, 1) := by unfold StepR; rw [if_neg (by rw [HE.out]; decide)]
    have HR := Lib.hid hR
    clear hR K0 K1 hv2 c34 f34 c35 f35
    go_wp2_with (refine wpList_store_mid rfl _ _ _ rfl (w.heap.size + 1) 0 (macC mac0 (.slice none 0 0)).toArray rfl rfl hthz hszz honez ?_)
    refine bodyPost_ret (v := .tuple #[.agg (macC mac0 (.slice none 0 0)).toArray, .int .i64 1]) (res2 rfl rfl rfl KZ.out Try.underlying47 rfl HSZ0.out) rfl ?_
    rw [HR.out]
    exact ⟨⟨.slice none 0 0, rfl, Or.inl ⟨rfl, rfl⟩, mac0_ok, by decide⟩, BZ.out⟩
end Go.Proofs.Ytdojafpjipcbjaa
