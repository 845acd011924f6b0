/- Walk of share: the nodes that lead to a node, in new memory. -/
import Derived.Test.YthopdfikikdcbaaFr
import Derived.Test.YthopdfikikdcbaaAdd
namespace Go.Proofs.Ythopdfikikdcbaa
open Go.RowKit Go.Maps Wd
set_option linter.unusedVariables false
set_option linter.unusedSimpArgs false
def cnt (l : List Int) : Nat := l.countP fun x => decide (0 ≤ x)
theorem cnt_le (l : List Int) : cnt l ≤ l.length := List.countP_le_length
theorem cnt_set : ∀ (l : List Int) (k : Nat) (x : Int), k < l.length → gno l k < 0 → 0 ≤ x → cnt (l.set k x) = cnt l + 1
  | [], k, x, h, _, _ => by simp at h
  | a :: l, 0, x, _, h, hx => by
    have ha : a < 0 := h
    simp [cnt, hx, show ¬ 0 ≤ a by omega]
  | a :: l, k + 1, x, h, hn, hx => by
    have := cnt_set l k x (by simpa using h) (by simpa [gno] using hn) hx
    simp only [cnt, List.set_cons_succ, List.countP_cons] at this ⊢
    omega
theorem cnt_repl (n : Nat) : cnt (List.replicate n (-1)) = 0 := by
  unfold cnt; rw [List.countP_replicate]; simp
/-- The builder's own step keeps this, whatever the builder had. -/
structure JA (B : Nat) (ts : List Nd) (o : List Nd) (nos : List Int) : Prop where
  len : nos.length = ts.length
  rng : ∀ k, 0 ≤ gno nos k → gno nos k < o.length
  sz : o.length ≤ B + cnt nos
theorem gjJA (B : Nat) (ts : List Nd) : GJ stepA ts (JA B ts) :=
  ⟨fun h => h.len, fun {s nos k} h hk hu _ => by
    obtain ⟨l, hl⟩ := @addN_ext s (gnd ts k nos)
    have h1 : (stepA s (gnd ts k nos)).1 = s ++ l := hl
    have h2 : (stepA s (gnd ts k nos)).2 < ((stepA s (gnd ts k nos)).1.length : Int) := by
      have := @addN_len s (gnd ts k nos)
      show ((addN s (gnd ts k nos)).2 : Int) < ((addN s (gnd ts k nos)).1.length : Int)
      omega
    have h0 : 0 ≤ (stepA s (gnd ts k nos)).2 := by show (0 : Int) ≤ ((addN _ _).2 : Int); omega
    have h3 : (stepA s (gnd ts k nos)).1.length ≤ s.length + 1 := by
      show (addN s (gnd ts k nos)).1.length ≤ _
      unfold addN; split <;> simp
    have hkn : k < nos.length := by rw [h.len]; exact hk
    refine ⟨⟨by rw [List.length_set]; exact h.len, fun j hj => ?_, ?_⟩, h0⟩
    · by_cases e : k = j
      · subst e; rw [gno_set_self hkn]; exact h2
      · rw [gno_set_ne e] at hj ⊢
        have := h.rng j hj
        rw [h1, List.length_append]; omega
    · rw [cnt_set nos k _ hkn hu h0]
      have := h.sz
      omega⟩
theorem ja_start (B : Nat) (ts o : List Nd) (h : o.length ≤ B) : JA B ts o (List.replicate ts.length (-1)) :=
  ⟨by simp, fun k hk => by rw [gno_repl] at hk; omega, by rw [cnt_repl]; omega⟩
/-- A node of a valid term. -/
structure NdV (x : Nd) : Prop where
  op : Sml x.op
  width : Sml x.width
  flags : x.flags = 0
  len : x.args.length ≤ 3
  imm : 0 ≤ x.imm ∧ x.imm ≤ 4294967295
theorem gnd_key {B : Nat} {ts o : List Nd} {nos : List Int} {k : Nat} (hx : NdV (nd ts k)) (hj : JA B ts o nos) (hB : B + ts.length ≤ 100000) (ht : ∀ a ∈ (nd ts k).args, 0 ≤ gno nos a.toNat) : NdK (gnd ts k nos) where
  op := hx.op
  width := hx.width
  flags := hx.flags
  len := by unfold gnd gn; simp only; rw [List.length_map]; exact hx.len
  args := fun a ha => by
    obtain ⟨b, hb, rfl⟩ := List.mem_map.1 (show a ∈ (nd ts k).args.map fun a => gno nos a.toNat from ha)
    have h1 := ht b hb
    have h2 := hj.rng _ h1
    have h3 := hj.sz
    have h4 := cnt_le nos
    have h5 := hj.len
    exact ⟨h1, by omega⟩
  imm := hx.imm
theorem iok_bld (bb : Nat) : IOk (Bld bb) := ⟨fun h hs => h.same hs, fun h => h.lt⟩
theorem made_add (bb B : Nat) (ts : List Nd) (w0 : World) (hB : B + ts.length ≤ 100000) (hv : ∀ k, k < ts.length → NdV (nd ts k)) :
    MadeOk stepA (Bld bb) (JA B ts) ts w0 67 #[.pointer (some ⟨bb, 0, none⟩)] #[] := by
  intro s nos k T w av hj hk hu ht hi hF hav hTB hb
  have h1 := hj.sz
  have h2 := cnt_le nos
  have h3 := hj.len
  exact add_any bb s T (gnd ts k nos) av w hi (gnd_key (hv k hk) hj hB ht) hF (fun b hb => ⟨(hav b hb).1, (hav b hb).2.1⟩) (by omega)
theorem callf_add (args : Array Value) (w : World) : (callFunc 67 args).run Try.prog w = .ok (.enter 67 args) w := by kernel_rfl
/-- What share returns: a builder's nodes, all in new memory. -/
def ShrIs (w w' : World) (v : Value) (o : List Nd) : Prop :=
  ∃ bb W R fv avs, BSt bb o W R w' v fv avs ∧ (∀ b, W b ∨ R b → w.heap.size ≤ b) ∧ Below w.heap.size w w'
set_option maxRecDepth 100000 in
set_option maxHeartbeats 1000000 in
theorem share_any (ts : List Nd) (tv : Value) (w : World) (k : Nat) (hts : Nds w tv ts) (hd : Down ts) (hv : ∀ k, k < ts.length → NdV (nd ts k)) (hk : k < ts.length) (hl : ts.length ≤ 1000) :
    Calls Try.prog 53 #[tv, .int .i64 (k : Int)] w fun e w' => ∃ v, e = .returned v ∧ ShrIs w w' v (shr ts k) := by
  have HTS := Lib.hid hts
  have hb2 : Below w.heap.size w ((w.alloc (.cells #[.slice none 0 0, .map none] 106)).alloc (.map #[] 0)) := ((Below.refl _ _).alloc (Nat.le_refl _) _).alloc (by simp) _
  have hbld : Bld w.heap.size [] (fun b => b = w.heap.size) ((w.alloc (.cells #[.slice none 0 0, .map none] 106)).alloc (.map #[] 0)) := by
    have hb1 : Below (w.alloc (.cells #[.slice none 0 0, .map none] 106)).heap.size (w.alloc (.cells #[.slice none 0 0, .map none] 106)) ((w.alloc (.cells #[.slice none 0 0, .map none] 106)).alloc (.map #[] 0)) := (Below.refl _ _).alloc (Nat.le_refl _) _
    refine ⟨fun b => b = w.heap.size, fun _ => False, .slice none 0 0, .map none, [], fun b => by simp, ?_⟩
    exact {
      b0 := below_cell hb1 (by simp) (by simp [go_sem])
      b1 := below_cell hb1 (by simp) (by simp [go_sem])
      f0 := by rw [hb1.frozen (p := ⟨w.heap.size, 0, none⟩) (by simp)]; simp [go_sem]
      f1 := by rw [hb1.frozen (p := ⟨w.heap.size, 1, none⟩) (by simp)]; simp [go_sem]
      Wb := rfl
      Wlt := fun b h => by subst h; simp; omega
      Rlt := fun b h => h.elim
      WR := fun b _ h => h
      row := World.ownsRow_nil _ _ _ _
      rowW := fun b h => by cases h
      len := rfl
      args := fun i hi => absurd hi (by simp)
      kn := fun x hx => by cases hx
      map := .inl ⟨rfl, rfl⟩ }
  have hseen : SeenIs ((w.alloc (.cells #[.slice none 0 0, .map none] 106)).alloc (.map #[] 0)) (w.heap.size + 1) (List.replicate ts.length (-1)) := by
    have := SeenIs.made (w := w.alloc (.cells #[.slice none 0 0, .map none] 106)) (n := ts.length) (by omega)
    rw [show (w.alloc (.cells #[.slice none 0 0, .map none] 106)).heap.size = w.heap.size + 1 by simp] at this
    exact this
  have HC := Lib.hid (fun bv => from_any (step := stepA) (I := Bld w.heap.size) (J := JA 0 ts) ts tv bv w _ _ _ callf_add hd (gjJA 0 ts) (iok_bld w.heap.size) hts (fun k hk => by have := (hv k hk).len; omega) (made_add w.heap.size 0 ts w (by omega) hv) (k + 1) k [] (List.replicate ts.length (-1)) (fun b => b = w.heap.size) _ (w.heap.size + 1) (by omega) hk (ja_start 0 ts [] (by simp)) hbld hseen (by omega) (by omega) (fun b h => by omega) hb2)
  have HE := Lib.hid (gvis_shr hd hk)
  clear hbld hseen hts hd hv
  obtain ⟨hmk⟩ : Nonempty (∀ w : World, (Instr.makeMap 108 none).run Try.prog w = .ok (.map (some w.heap.size)) (w.alloc (.map #[] 0))) := ⟨fun _ => by kernel_rfl⟩
  have HB2 := Lib.hid hb2
  clear hb2
  go_enter Try.func53, Try.ntmps53
  go_wp2_with fail
  refine (HC.out _).mono ?_
  rintro e w' ⟨rfl, T', hB, hS, hT, hch⟩
  rw [HE.out] at hB
  obtain ⟨W, R, nv, fv, avs, hW, hb⟩ := hB
  have hc := hb.b0
  have HB := Lib.hid hb
  have HW := Lib.hid hW
  have HT := Lib.hid hT
  have HCH := Lib.hid hch
  clear hb hW hT hch hS hmk
  go_wp2_with fail
  go_ret
  refine ⟨nv, rfl, w.heap.size, W, R, fv, avs, HB.out, fun b h => ?_, HB2.out.trans (HCH.out.below (by simp; omega) fun j hj => by omega)⟩
  rcases HT.out b ((HW.out b).2 h) with h | h
  · omega
  · simp at h; omega
end Go.Proofs.Ythopdfikikdcbaa
