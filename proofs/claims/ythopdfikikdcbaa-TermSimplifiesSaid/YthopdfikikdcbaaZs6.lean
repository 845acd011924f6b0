/- Walk of the builder's from, with any step. -/
import Derived.Maps.AppendAt
import Derived.Laws.IdiomCopy
import Derived.Deep.RegionLaw
import Derived.Deep.RegionHeld3
import Derived.Deep.AppendLies
import Derived.Deep.QuietTactic
import Derived.BigQuiet
import Derived.Test.YthopdfikikdcbaaZs1
import Derived.Test.YthopdfikikdcbaaZs5
namespace Go.Proofs.Ythopdfikikdcbaa
open Go.RowKit Go.Maps Wd
set_option linter.unusedVariables false
set_option linter.unusedSimpArgs false
/-- The node as a value, its Args in the slice av. -/
def ndA (x : Nd) (av : Value) : Value := .agg #[.int .i64 x.op, .int .i64 x.width, .int .i64 x.flags, av, .int .u32 x.imm]
section
variable {σ : Type}
/-- What a function that does the step promises. -/
def MadeOk (step : σ → Nd → σ × Int) (I : σ → (Nat → Prop) → World → Prop) (J : σ → List Int → Prop) (ts : List Nd) (w0 : World) (mf : FuncId) (fs cs : Array Value) : Prop :=
  ∀ (s : σ) (nos : List Int) (k : Nat) (T : Nat → Prop) (w : World) (av : Value), J s nos → k < ts.length → gno nos k < 0 → (∀ a ∈ (nd ts k).args, 0 ≤ gno nos a.toNat) → I s T w →
    IntsF w av (gnd ts k nos).args → (∀ b, av.ownBlock = some b → ¬ T b ∧ b < w.heap.size ∧ w0.heap.size ≤ b) → (∀ b, T b → w0.heap.size ≤ b) → Below w0.heap.size w0 w →
    Calls Try.prog mf (fs.push (ndA (gnd ts k nos) av) ++ cs) w fun e w' => e = .returned (.int .i64 (step s (gnd ts k nos)).2) ∧
      ∃ T', I (step s (gnd ts k nos)).1 T' w' ∧ (∀ b, T' b → T b ∨ w.heap.size ≤ b ∨ av.ownBlock = some b) ∧ Chg T w w'
/-- What is kept about the state. -/
structure IOk (I : σ → (Nat → Prop) → World → Prop) : Prop where
  same : ∀ {s : σ} {T : Nat → Prop} {w w' : World}, I s T w → Same T w w' → I s T w'
  lt : ∀ {s : σ} {T : Nat → Prop} {w : World}, I s T w → ∀ b, T b → b < w.heap.size
theorem IOk.chg {I : σ → (Nat → Prop) → World → Prop} (h : IOk I) {s : σ} {T U : Nat → Prop} {w w' : World} (hi : I s T w) (hc : Chg U w w') (hT : ∀ k, T k → ¬ U k) : I s T w' :=
  h.same hi (hc.same fun k hk => ⟨h.lt hi k hk, hT k hk⟩)
/-- The state behind a walk. -/
def FrP (I : σ → (Nat → Prop) → World → Prop) (sm : Nat) (T : Nat → Prop) (w : World) (c : σ × List Int) (w' : World) : Prop :=
  ∃ T', I c.1 T' w' ∧ SeenIs w' sm c.2 ∧ (∀ b, T' b → T b ∨ w.heap.size ≤ b) ∧ Chg (fun b => T b ∨ b = sm) w w'
/-- Within the loop over the Args: W1 is the world at its beginning. -/
def FrL (I : σ → (Nat → Prop) → World → Prop) (sm : Nat) (T : Nat → Prop) (W1 : World) (c : σ × List Int) (v : Value) (wr : World) : Prop :=
  ∃ T', I c.1 T' wr ∧ SeenIs wr sm c.2 ∧ (∀ b, T' b → T b ∨ W1.heap.size ≤ b) ∧ (∀ b, v.ownBlock = some b → ¬ T' b) ∧ Chg (fun b => T b ∨ b = sm) W1 wr
variable {step : σ → Nd → σ × Int} {I : σ → (Nat → Prop) → World → Prop} {J : σ → List Int → Prop}
theorem FrL.next (hI : IOk I) {sm : Nat} {T T' : Nat → Prop} {W1 wr w1 w2 : World} {X : Obj} {c c2 : σ × List Int} {v v' : Value} (h1 : I c.1 T' wr) (h3 : ∀ b, T' b → T b ∨ W1.heap.size ≤ b) (h4 : ∀ b, v.ownBlock = some b → ¬ T' b)
    (h5 : Chg (fun b => T b ∨ b = sm) W1 wr) (hp : FrP I sm T' wr c2 w1) (hg : (w1.alloc X).grownBy w2 v.ownBlock) (hv : v'.ownBlock = v.ownBlock ∨ v'.ownBlock = some (w1.alloc X).heap.size) (hb : ∀ b, v.ownBlock = some b → W1.heap.size ≤ b ∧ b < wr.heap.size) (hsm : sm < W1.heap.size) :
    FrL I sm T W1 c2 v' w2 := by
  obtain ⟨T2, i2, s2, t2, ch2⟩ := hp
  have hc12 : Chg (fun b => v.ownBlock = some b) w1 w2 := (Chg.of_below ((Below.refl _ _).alloc (Nat.le_refl _) X)).trans (Chg.of_grown hg (fun k hk => hk)) (fun _ _ h => h)
  have hno : ∀ b, v.ownBlock = some b → ¬ T2 b := fun b hv hT => by
    rcases t2 b hT with h | h
    · exact h4 b hv h
    · have := (hb b hv).2; omega
  refine ⟨T2, hI.chg i2 hc12 (fun k hk hv => hno k hv hk), s2.chg hc12 (fun hv => by have := (hb _ hv).1; omega), ?_, ?_, ?_⟩
  · intro b hT
    rcases t2 b hT with h | h
    · exact h3 b h
    · have := h5.size; exact .inr (by omega)
  · intro b hv' hT
    rcases hv with hv | hv
    · exact hno b (by rw [← hv]; exact hv') hT
    · rw [hv] at hv'
      cases hv'
      have := hI.lt i2 _ hT
      simp at this
      omega
  · refine (h5.trans ch2 ?_).trans hc12 ?_
    · rintro k hk (h | h)
      · rcases h3 k h with h | h
        · exact .inl h
        · omega
      · exact .inr h
    · intro k hk h
      have := (hb k h).1
      omega
theorem FrL.done (hI : IOk I) {sm : Nat} {T T' : Nat → Prop} {w W1 wr W2 w3 : World} {v : Value} {s3 : σ} {nos3 : List Int} {o : Nat} {es : Array MapEntry} {cl : Nat}
    (h3 : ∀ b, T' b → T b ∨ W1.heap.size ≤ b) (h5 : Chg (fun b => T b ∨ b = sm) W1 wr) (hst : ¬ T' sm) (hT : ∀ b, T b → b < w.heap.size) (hsm : sm < w.heap.size) (hw1 : Chg T w W1) (hw : w.heap.size < W1.heap.size) (hW2 : W2 = wr.setCell ⟨w.heap.size, o, none⟩ v)
    (hb : ∀ b, v.ownBlock = some b → W1.heap.size ≤ b)
    (hm : ∃ T3, I s3 T3 w3 ∧ (∀ b, T3 b → T' b ∨ W2.heap.size ≤ b ∨ v.ownBlock = some b) ∧ Chg T' W2 w3) (hs : SeenIs (setMap w3 sm es cl) sm nos3) : FrP I sm T w (s3, nos3) (setMap w3 sm es cl) := by
  obtain ⟨T3, i3, t3, ch3⟩ := hm
  have hz : W2.heap.size = wr.heap.size := by rw [hW2]; simp [World.setCell]
  have h5s := h5.size
  have hno : ¬ T3 sm := fun h => by
    rcases t3 sm h with h | h | h
    · exact hst h
    · omega
    · have := hb _ h; omega
  refine ⟨T3, hI.chg i3 ((Chg.refl (fun b => b = sm) w3).setMap rfl es cl) (fun k hk e => hno (e ▸ hk)), hs, ?_, ?_⟩
  · intro b h
    rcases t3 b h with h | h | h
    · rcases h3 b h with h | h
      · exact .inl h
      · exact .inr (by omega)
    · exact .inr (by omega)
    · exact .inr (by have := hb _ h; omega)
  · have c1 : Chg (fun b => T b ∨ b = sm) w wr := (hw1.mono (fun k _ h => .inl h)).trans h5 (fun k _ h => h)
    have c2 : Chg (fun b => T b ∨ b = sm) w W2 := by
      rw [hW2]
      exact c1.trans ((Chg.refl (fun b => b = w.heap.size) wr).setCell rfl v) (fun k hk e => by omega)
    refine (c2.trans ch3 ?_).setMap (.inr rfl) es cl
    intro k hk h
    rcases h3 k h with h | h
    · exact .inl h
    · omega
set_option maxRecDepth 100000 in
set_option maxHeartbeats 1000000 in
theorem from_any (ts : List Nd) (tv bv : Value) (w0 : World) (mf : FuncId) (fs cs : Array Value) (hcf : ∀ (args : Array Value) (w : World), (callFunc mf args).run Try.prog w = .ok (.enter mf args) w) (hd : Down ts) (hJ : GJ step ts J) (hI : IOk I) (hts : Nds w0 tv ts) (hn : ∀ k, k < ts.length → (nd ts k).args.length ≤ 1000) (hm : MadeOk step I J ts w0 mf fs cs) :
    ∀ (f k : Nat) (s : σ) (nos : List Int) (T : Nat → Prop) (w : World) (sm : Nat), k < f → k < ts.length → J s nos → I s T w → SeenIs w sm nos → ¬ T sm → w0.heap.size ≤ sm → (∀ b, T b → w0.heap.size ≤ b) → Below w0.heap.size w0 w →
    Calls Try.prog 66 #[bv, tv, .int .i64 (k : Int), .map (some sm), .func (.func mf) fs cs] w fun e w' => e = .returned (.int .i64 (gno (gvis step ts f k (s, nos)).2 k)) ∧ FrP I sm T w (gvis step ts f k (s, nos)) w' := by
  intro f
  induction f with
  | zero => intro k _ _ _ _ _ h; exact absurd h (by omega)
  | succ f ih =>
    intro k s nos T w sm hf hk hj hi hs hsT hsB hTB hb
    have HIH := Lib.hid ih
    have HD := Lib.hid hd
    have HJ := Lib.hid hJ
    have HI := Lib.hid hI
    have HT := Lib.hid hts
    have HM := Lib.hid hm
    have HN := Lib.hid (hn k hk)
    have HJ0 := Lib.hid hj
    have HI0 := Lib.hid hi
    have HS := Lib.hid hs
    have HST := Lib.hid hsT
    have HSB := Lib.hid hsB
    have HTB := Lib.hid hTB
    have HB := Lib.hid hb
    have hlen : nos.length = ts.length := hJ.len hj
    have hkn : k < nos.length := by omega
    obtain ⟨ta, tc, rfl, ht1, ht2⟩ := hts.shape
    by_cases h0 : 0 ≤ gno nos k
    · have hlook := hs.hit hkn h0
      have e : gvis step ts (f + 1) k (s, nos) = (s, nos) := by unfold gvis; rw [if_pos h0]
      rw [e]
      clear ih hd hJ hI hts hm hn hj hi hs hsT hsB hTB hb e h0 hlen
      go_enter Try.func66, Try.ntmps66
      go_wp2_with fail
      go_outline
      go_ret
      exact ⟨rfl, T, HI0.out, HS.out, fun b h => .inl h, Chg.refl _ _⟩
    · have hlook := hs.miss hkn (by omega)
      have hmis : gno nos k < 0 := by omega
      have HMIS := Lib.hid hmis
      have e : gvis step ts (f + 1) k (s, nos) = gput step ts k (gargs (gvis step ts f) (nd ts k).args (s, nos)) := by conv => lhs; unfold gvis; rw [if_neg h0]
      have HE := Lib.hid e
      have hda := hd k hk
      have HGA := Lib.hid (fun l hl => gvis_args (f := f) hd hJ (by omega) hk (c := (s, nos)) hj l hl)
      obtain ⟨b, q, c', av, e', hc', hbq, hav, c0, c1, c2, c3, c4⟩ := hts.at2 hb hk
      cases e'
      have hHI := hI.lt hi
      have hsl := hs.lt
      have hbw := hb.size
      clear ih hd hJ hI hts hm hn hj hi hs hsB hb e h0 hlen
      have HX : Hid (nd ts k = ts.getD k default) := rfl
      have HDA := Lib.hid hda
      have HLT := Lib.hid hHI
      clear hda hHI hmis hsT hTB
      generalize ts.getD k default = x at *
      obtain ⟨op, width, flags, args, imm⟩ := x
      simp only at hav c0 c1 c2 c3 c4
      have hn20 : args.length ≤ 1000 := by have := HN.out; rw [HX.out] at this; exact this
      have HAV := Lib.hid hav
      obtain ⟨aa, ac, rfl, ha1, ha2⟩ := hav.shape
      clear hav
      obtain ⟨i0, hi0, hz0, hz1, hz2⟩ := info_parts info_int
      go_enter Try.func66, Try.ntmps66
      go_wp2_with fail
      go_loopw [14, 33] (fun v0 i wr => ∃ (j : Nat) (v : Value), v = v0 ∧ j ≤ args.length ∧ i = .int .i64 j ∧ RowI wr (w.heap.size + 1) 3 .i64 v (gargs (gvis step ts f) (args.take j) (s, nos)).2 ∧ FrL I sm T (w.alloc (.cells #[.int .i64 op, .int .i64 width, .int .i64 flags, .slice aa args.length ac, .int .u32 imm] 47)) (gargs (gvis step ts f) (args.take j) (s, nos)).1 v wr) (fun _ i _ => args.length - (intOf i).toNat)
      case atStart => 
        refine ⟨0, _, rfl, Nat.zero_le _, rfl, RowI.nil _ _ _ _, T, ?_, ?_, fun b h => .inl h, (fun b h => by cases h), Chg.refl _ _⟩
        · exact HI.out.chg HI0.out (Chg.of_below ((Below.refl _ _).alloc (Nat.le_refl _) _) (T := fun _ => False)) (fun _ _ h => h)
        · exact HS.out.chg (Chg.of_below ((Below.refl _ _).alloc (Nat.le_refl _) _) (T := fun _ => False)) (fun h => h)
      case round =>
        obtain ⟨j, v, rfl, hj, rfl, hrow, T', h1, h2, h3, h4, h5⟩ := hrel
        have hlr := gargs_len (gvis step ts f) (args.take j) (s, nos)
        rw [List.length_take, Nat.min_eq_left hj] at hlr
        have H1 := Lib.hid h1
        have H2 := Lib.hid h2
        have H3 := Lib.hid h3
        have H4 := Lib.hid h4
        have H5 := Lib.hid h5
        have HROW := Lib.hid hrow
        have h5s := h5.size
        simp only [World.size_alloc] at h5s
        have HLR := Lib.hid hlr
        have HBR : Hid (Below w0.heap.size w0 wr) := HB.out.trans ((((Below.refl _ _).alloc (Nat.le_refl _) _).mono (by omega)).trans (h5.below (by simp; omega) (fun k hk => by rcases hk with hk | hk; exact HTB.out k hk; have := HSB.out; omega)))
        have HJA := Lib.hid (HGA.out (args.take j) (fun a ha => by have := HDA.out a (by rw [HX.out]; exact List.mem_of_mem_take ha); exact this))
        have hsB := HSB.out
        have HST' : Hid (¬ T' sm) := fun h => by
          rcases h3 sm h with h | h
          · exact HST.out h
          · simp at h; omega
        have HTB' : Hid (∀ b, T' b → w0.heap.size ≤ b) := fun b h => by
          rcases h3 b h with h | h
          · exact HTB.out b h
          · simp at h; omega
        clear hsB
        clear h1 h2 h3 h4 h5 hrow hlr
        by_cases hlt : j < args.length
        · have hG := gargs_take (gvis step ts f) args (s, nos) j hlt
          obtain ⟨ab, ao, rfl, hab, hcs⟩ := HAV.out.row (by omega)
          have d0 := below_cell HBR.out hab (hcs j hlt)
          have hak := HDA.out (args.getD j 0) (by rw [HX.out]; exact mem_getD hlt)
          clear hcs
          generalize args.getD j 0 = y at *
          obtain ⟨m, rfl⟩ := Int.eq_ofNat_of_zero_le hak.1
          rw [Int.toNat_natCast] at hG
          generalize gargs (gvis step ts f) (args.take j) (s, nos) = r at *
          obtain ⟨⟨s', nos'⟩, l'⟩ := r
          simp only at hG
          have HG := Lib.hid hG
          clear hG
          go_wp2_with fail
          refine (HIH.out m s' nos' T' _ sm (by omega) (by omega) HJA.out.1.j H1.out H2.out HST'.out HSB.out HTB'.out HBR.out).mono ?_
          rintro e w1 ⟨rfl, hp⟩
          have HR1 : Hid (w1.ownsRow (w.heap.size + 1) 3 1 v l'.length (l'.map (Value.int .i64))) := by
            obtain ⟨T2, _, _, _, ch⟩ := hp
            refine own_same (T := fun b => v.ownBlock = some b) HROW.out (ch.same fun k hk => ⟨own_lt HROW.out k hk, fun h => ?_⟩) (fun b h => h)
            rcases h with h | h
            · exact H4.out k hk h
            · have := own_ge HROW.out k hk; omega
          have hw1 : wr.heap.size ≤ w1.heap.size := by obtain ⟨T2, _, _, _, ch⟩ := hp; exact ch.size
          have HP := Lib.hid hp
          have hll : l'.length = j := HLR.out
          clear hp
          generalize gvis step ts f m (s', nos') = c2 at *
          generalize gno c2.2 m = gy at *
          go_wp2_with (at_builtin; refine wpList_append_own_at _ rfl _ _ 25 rfl (w.heap.size + 1) 3 i0 (.int .i64 0) 1 8 Try.underlying25 hi0 hz0 hz1 hz2 rfl (by decide) _ _ _ rfl (HR1.out.alloc _) ⟨w1.heap.size, 0, none⟩ 1 1 [.int .i64 gy] rfl rfl ?c1 ?c2 ?c3 ?c4 ?c5 ?_)
          case c1 =>
            intro i u h
            rcases i with _ | i
            · cases h; simp [go_sem, Addr.add]
            · cases h
          case c2 => simp [Value.oneCell']
          case c3 => unfold maxLen; omega
          case c4 => omega
          case c5 => simp; omega
          intro v' w2 hown' hgrow _ hat
          have HO := Lib.hid hown'
          have HGR := Lib.hid hgrow
          have HAT := Lib.hid hat
          clear hown' hgrow hat hll
          go_wp2_with fail
          go_roundw
          case rel =>
            refine ⟨j + 1, v', rfl, by omega, by go_num, RowI.app1 HO.out HLR.out (by rw [HG.out]), ?_⟩
            rw [HG.out]
            exact FrL.next (c := ((s', nos') : σ × List Int)) HI.out H1.out H3.out H4.out H5.out HP.out HGR.out (by simpa using HAT.out) (fun b hb => ⟨by have := own_ge HROW.out b hb; simp; omega, own_lt HROW.out b hb⟩) (by simp; omega)
          case measure => simp [intOf]; omega
        · obtain rfl : j = args.length := by omega
          obtain ⟨va, vc, hv⟩ := HROW.out.shape
          rw [HLR.out] at hv
          subst hv
          have hnT : ¬ (T w.heap.size ∨ w.heap.size = sm) := fun h => by
            rcases h with h | h
            · exact absurd (HLT.out _ h) (by omega)
            · omega
          have y0 := H5.out.cell (b := w.heap.size) (o := 0) hnT (v := .int .i64 op) (by simp [go_sem])
          have y1 := H5.out.cell (b := w.heap.size) (o := 1) hnT (v := .int .i64 width) (by simp [go_sem])
          have y2 := H5.out.cell (b := w.heap.size) (o := 2) hnT (v := .int .i64 flags) (by simp [go_sem])
          have y3 := H5.out.cell (b := w.heap.size) (o := 3) hnT (v := .slice aa args.length ac) (by simp [go_sem])
          have y4 := H5.out.cell (b := w.heap.size) (o := 4) hnT (v := .int .u32 imm) (by simp [go_sem])
          have z3 : wr.frozen? ⟨w.heap.size, 3, none⟩ = false := by rw [H5.out.frozen hnT (by simp)]; simp [go_sem]
          clear hnT
          have HE2 : Hid (gvis step ts (f + 1) k (s, nos) = gput step ts k (gargs (gvis step ts f) args (s, nos))) := by
            have e2 := HE.out
            rw [HX.out] at e2
            exact e2
          rw [List.take_length] at H1 H2 HLR HJA HROW
          generalize gargs (gvis step ts f) args (s, nos) = r at *
          obtain ⟨⟨s', nos'⟩, l'⟩ := r
          have HEG : Hid (gnd ts k nos' = ⟨op, width, flags, l', imm⟩) := by
            show _ = _
            have e3 := HJA.out.2.1
            simp only at e3
            rw [e3]
            unfold gnd gn
            rw [HX.out]
          have HU : Hid (gno nos' k < 0) := by
            have h8 := HJA.out.1.up k (Nat.le_refl _)
            have h9 : gno nos k < 0 := HMIS.out
            show gno nos' k < 0
            rw [h8]; exact h9
          have HTA : Hid (∀ a ∈ (nd ts k).args, 0 ≤ gno nos' a.toNat) := by
            show ∀ a ∈ (nd ts k).args, 0 ≤ gno nos' a.toNat
            rw [HX.out]; exact HJA.out.2.2
          have hbT : ¬ T' w.heap.size := fun h => by
            rcases H3.out _ h with h | h
            · exact absurd (HLT.out _ h) (by omega)
            · simp at h; omega
          have HST2 : Hid (Chg (fun b => b = w.heap.size) wr (wr.setCell ⟨w.heap.size, 3, none⟩ (.slice va args.length vc))) := (Chg.refl (fun b => b = w.heap.size) wr).setCell (b := w.heap.size) rfl _
          have HI2 : Hid (I s' T' (wr.setCell ⟨w.heap.size, 3, none⟩ (.slice va args.length vc))) := HI.out.chg H1.out HST2.out (fun j hj e => hbT (e ▸ hj))
          have HOW : Hid (∀ b, (Value.slice va args.length vc).ownBlock = some b → w.heap.size + 1 ≤ b ∧ b < wr.heap.size) := fun b hb => ⟨own_ge HROW.out b hb, own_lt HROW.out b hb⟩
          have HIN : Hid (IntsF (wr.setCell ⟨w.heap.size, 3, none⟩ (.slice va args.length vc)) (.slice va args.length vc) (gnd ts k nos').args) := by
            have h9 : RowI (wr.setCell ⟨w.heap.size, 3, none⟩ (.slice va args.length vc)) (w.heap.size + 1) 3 .i64 (.slice va args.length vc) l' :=
              own_same (T := fun b => (Value.slice va args.length vc).ownBlock = some b) HROW.out (HST2.out.same fun j hj => ⟨(HOW.out j hj).2, by have := (HOW.out j hj).1; omega⟩) (fun b h => h)
            have h8 : l'.length = args.length := HLR.out
            have h7 := h9.intsF (by omega)
            rw [HEG.out]; exact h7
          have HSE : Hid (SeenIs (wr.setCell ⟨w.heap.size, 3, none⟩ (.slice va args.length vc)) sm nos') := by
            have h8 : SeenIs wr sm nos' := H2.out
            exact h8.chg HST2.out (by omega)
          have HJS := Lib.hid (HJ.out.step HJA.out.1.j hk HU.out HTA.out)
          have hkn' : k < nos'.length := by rw [HJ.out.len HJA.out.1.j]; exact hk
          have HB2 : Hid (Below w0.heap.size w0 (wr.setCell ⟨w.heap.size, 3, none⟩ (.slice va args.length vc))) := below_at HBR.out (by omega) _ _
          have HCM := Lib.hid (HM.out s' nos' k T' (wr.setCell ⟨w.heap.size, 3, none⟩ (.slice va args.length vc)) (.slice va args.length vc) HJA.out.1.j hk HU.out HTA.out HI2.out HIN.out (fun b hb => ⟨H4.out b hb, by simp [World.setCell]; exact (HOW.out b hb).2, by have := (HOW.out b hb).1; omega⟩) HTB'.out HB2.out)
          clear hbT
          rw [HEG.out] at HCM
          go_wp2_with fail
          refine HCM.out.mono ?_
          rintro e w3 ⟨rfl, hpost⟩
          rw [← HEG.out] at hpost
          have HP := Lib.hid hpost
          have hsn : SeenIs w3 sm nos' := by
            obtain ⟨T3, _, _, ch⟩ := hpost
            exact HSE.out.chg ch HST'.out
          clear hpost
          rw [← HEG.out]
          obtain ⟨es, cl, hrun, hsn2⟩ := hsn.put hkn' HU.out HJS.out.2
          have HSN := Lib.hid hsn2
          clear hsn hsn2
          generalize hn : (step s' (gnd ts k nos')).2 = n at *
          have HNN := Lib.hid hn
          clear hn
          go_wp2_with fail
          go_ret
          have hfin : gvis step ts (f + 1) k (s, nos) = ((step s' (gnd ts k nos')).1, nos'.set k n) := by
            rw [HE2.out]
            unfold gput
            simp only
            have : gn ts k l' = gnd ts k nos' := by
              rw [HEG.out]; unfold gn; rw [HX.out]
            rw [this, HNN.out]
          rw [hfin]
          refine ⟨congrArg (fun z => Ending.returned (.int .i64 z)) (gno_set_self hkn').symm, ?_⟩
          exact FrL.done (W1 := w.alloc (.cells #[.int .i64 op, .int .i64 width, .int .i64 flags, .slice aa args.length ac, .int .u32 imm] 47)) (o := 3) HI.out H3.out H5.out HST'.out HLT.out hsl (Chg.of_below ((Below.refl _ _).alloc (Nat.le_refl _) _)) (by simp) rfl (fun b hb => by have := (HOW.out b hb).1; simp; omega) HP.out HSN.out
end
end Go.Proofs.Ythopdfikikdcbaa
/- The keys of the builder's map: nodes as keys. -/
namespace Go.Proofs.Ythopdfikikdcbaa
open Go.RowKit Go.Maps
set_option linter.unusedVariables false
set_option linter.unusedSimpArgs false
section
variable {P : Program} {t e : TypeId}
theorem kl_int {d : Nat} {q : IntKind} {n : Int} (hu : P.underlying t = some (.int q)) (hw : (Lit.int q n).wf = true) : P.keyLits (d + 1) t [.int q n] = some [.int q n] := by
  unfold Program.keyLits; rw [hu]; simp [hw]
theorem kl_arr3 {d : Nat} {x y z : Int} (hu : P.underlying t = some (.array 3 e)) (hue : P.underlying e = some (.int .i64)) (hc : P.cellsOf t = 3) (hce : P.cellsOf e = 1)
    (hx : (Lit.int .i64 x).wf = true) (hy : (Lit.int .i64 y).wf = true) (hz : (Lit.int .i64 z).wf = true) : P.keyLits (d + 2) t [.int .i64 x, .int .i64 y, .int .i64 z] = some [.int .i64 x, .int .i64 y, .int .i64 z] := by
  unfold Program.keyLits; rw [hu]
  simp [hc, hce, show List.range 3 = [0, 1, 2] from rfl, kl_int hue hx, kl_int hue hy, kl_int hue hz]
end
/-- The key of a node. -/
def keyV (x : Nd) : Value := .agg #[.int .i64 x.op, .int .i64 x.width, .int .u32 x.imm, .int .i64 (x.args.getD 0 (-1)), .int .i64 (x.args.getD 1 (-1)), .int .i64 (x.args.getD 2 (-1))]
theorem lawKey : Keyed Try.prog 131 := Keyed.of_law (deep_law_gate (by kernel_rfl) (of_decide_eq_true (by kernel_rfl)) (of_decide_eq_true (by kernel_rfl)) (by kernel_rfl) (by kernel_rfl))
theorem key6 (a b c d e f : Int) (ha : (Lit.int .i64 a).wf = true) (hb : (Lit.int .i64 b).wf = true) (hc : (Lit.int .u32 c).wf = true) (hd : (Lit.int .i64 d).wf = true) (he : (Lit.int .i64 e).wf = true) (hf : (Lit.int .i64 f).wf = true) :
    ∃ q, keyOf Try.prog 131 (.agg #[.int .i64 a, .int .i64 b, .int .u32 c, .int .i64 d, .int .i64 e, .int .i64 f]) = some q := by
  have h1 : Try.prog.keyType 131 = true := by kernel_rfl
  have h2 : Try.prog.cellsOf 131 = 6 := by kernel_rfl
  have h3 : Try.prog.cellsOf 3 = 1 := by kernel_rfl
  have h4 : Try.prog.cellsOf 34 = 1 := by kernel_rfl
  have h5 : Try.prog.cellsOf 129 = 3 := by kernel_rfl
  have h6 : Try.prog.types.size = (Try.prog.types.size - 2) + 2 := by kernel_rfl
  unfold keyOf
  rw [Try.underlying131]
  rw [h6]
  generalize Try.prog.types.size - 2 = n
  simp only [h1, Value.formed, Try.underlying131, h2]
  unfold Program.keyLits
  rw [Try.underlying131]
  simp [h2, h3, h4, h5, Value.cells, kl_int Try.underlying3, kl_int Try.underlying34, ha, hb, hc, kl_arr3 Try.underlying129 Try.underlying3 h5 h3 hd he hf]
end Go.Proofs.Ythopdfikikdcbaa
/- The builder in memory: its nodes, their Args, its map. -/
namespace Go.Proofs.Ythopdfikikdcbaa
open Go.RowKit Go.Maps
set_option linter.unusedVariables false
set_option linter.unusedSimpArgs false
/-- A node that may be a key. -/
structure NdK (x : Nd) : Prop where
  op : Sml x.op
  width : Sml x.width
  flags : x.flags = 0
  len : x.args.length ≤ 3
  args : ∀ a ∈ x.args, 0 ≤ a ∧ a ≤ 9223372036854775807
  imm : 0 ≤ x.imm ∧ x.imm ≤ 4294967295
theorem args_of3 {l m : List Int} (hl : l.length ≤ 3) (hm : m.length ≤ 3) (pl : ∀ a ∈ l, 0 ≤ a) (pm : ∀ a ∈ m, 0 ≤ a)
    (h0 : l.getD 0 (-1) = m.getD 0 (-1)) (h1 : l.getD 1 (-1) = m.getD 1 (-1)) (h2 : l.getD 2 (-1) = m.getD 2 (-1)) : l = m := by
  rcases l with _ | ⟨a, _ | ⟨b, _ | ⟨c, _ | ⟨d, l⟩⟩⟩⟩ <;> rcases m with _ | ⟨a', _ | ⟨b', _ | ⟨c', _ | ⟨d', m⟩⟩⟩⟩ <;> simp at * <;> omega
theorem keyV_inj {x y : Nd} (hx : NdK x) (hy : NdK y) (h : keyV x = keyV y) : x = y := by
  obtain ⟨a, b, c, d, e⟩ := x
  obtain ⟨a', b', c', d', e'⟩ := y
  have h1 := hx.flags
  have h2 := hy.flags
  simp only [keyV, Value.agg.injEq, Array.mk.injEq, List.cons.injEq, Value.int.injEq, true_and, and_true] at h h1 h2
  obtain ⟨k1, k2, k3, k4, k5, k6⟩ := h
  have k7 : d = d' := args_of3 hx.len hy.len (fun a h => (hx.args a h).1) (fun a h => (hy.args a h).1) k4 k5 k6
  subst k1 k2 k3 k7 h1 h2
  rfl
theorem wf_arg {l : List Int} (h : ∀ a ∈ l, 0 ≤ a ∧ a ≤ 9223372036854775807) (i : Nat) : (Lit.int .i64 (l.getD i (-1))).wf = true := by
  refine WalkArith.wf_i64 ?_
  rw [List.getD_eq_getElem?_getD]
  cases e : l[i]? with
  | none => exact ⟨by decide, by decide⟩
  | some a => have := h a (List.mem_of_getElem? e); exact ⟨by simp; omega, by simp; omega⟩
theorem keyV_key {x : Nd} (h : NdK x) : ∃ q, keyOf Try.prog 131 (keyV x) = some q :=
  key6 _ _ _ _ _ _ (WalkArith.wf_i64 h.op) (WalkArith.wf_i64 h.width) (WalkArith.wf_u32 h.imm) (wf_arg h.args 0) (wf_arg h.args 1) (wf_arg h.args 2)
/-- The entries of the builder's map. -/
def entK (o : List Nd) : List (Value × Value) := o.mapIdx fun i x => (keyV x, .int .i64 (i : Int))
theorem entK_snoc (o : List Nd) (x : Nd) : entK (o ++ [x]) = entK o ++ [(keyV x, .int .i64 (o.length : Int))] := by
  unfold entK; rw [List.mapIdx_append]; simp
theorem entK_len (o : List Nd) : (entK o).length = o.length := by unfold entK; simp
theorem entK_hit {o : List Nd} {x : Nd} (h : x ∈ o) : (keyV x, Value.int .i64 (o.idxOf x : Int)) ∈ entK o := by
  unfold entK
  rw [List.mem_mapIdx]
  exact ⟨o.idxOf x, List.idxOf_lt_length_of_mem h, by rw [List.getElem_idxOf]⟩
theorem entK_miss {o : List Nd} {x : Nd} (ho : ∀ y ∈ o, NdK y) (hx : NdK x) (h : x ∉ o) : ∀ p ∈ entK o, p.1 ≠ keyV x := by
  intro p hp e
  unfold entK at hp
  rw [List.mem_mapIdx] at hp
  obtain ⟨i, hi, rfl⟩ := hp
  exact h (keyV_inj (ho _ (List.getElem_mem hi)) hx e ▸ List.getElem_mem hi)
/-- The cells of a node. -/
def rowC (x : Nd) (av : Value) : List Value := [.int .i64 x.op, .int .i64 x.width, .int .i64 x.flags, av, .int .u32 x.imm]
def rowsC : List Nd → List Value → List Value
  | x :: o, av :: avs => rowC x av ++ rowsC o avs
  | _, _ => []
theorem rowsC_snoc (x : Nd) (av : Value) : ∀ (o : List Nd) (avs : List Value), avs.length = o.length → rowsC (o ++ [x]) (avs ++ [av]) = rowsC o avs ++ rowC x av
  | [], [], _ => by simp [rowsC]
  | y :: o, bv :: avs, h => by
    show rowC y bv ++ rowsC (o ++ [x]) (avs ++ [av]) = (rowC y bv ++ rowsC o avs) ++ rowC x av
    rw [rowsC_snoc x av o avs (by simpa using h), List.append_assoc]
  | [], _ :: _, h => by simp at h
  | _ :: _, [], h => by simp at h
theorem rowsC_get : ∀ (o : List Nd) (avs : List Value), avs.length = o.length → ∀ (i j : Nat), i < o.length → j < 5 → (rowsC o avs)[i * 5 + j]? = (rowC (o.getD i default) (avs.getD i undef))[j]?
  | [], _, _, i, j, hi, _ => by simp at hi
  | x :: o, [], h, _, _, _, _ => by simp at h
  | x :: o, av :: avs, h, 0, j, hi, hj => by
    show (rowC x av ++ rowsC o avs)[0 * 5 + j]? = (rowC x av)[j]?
    rw [Nat.zero_mul, Nat.zero_add, List.getElem?_append_left (by simp [rowC]; omega)]
  | x :: o, av :: avs, h, i + 1, j, hi, hj => by
    show (rowC x av ++ rowsC o avs)[(i + 1) * 5 + j]? = (rowC (o.getD i default) (avs.getD i undef))[j]?
    rw [List.getElem?_append_right (by simp [rowC]; omega), show (i + 1) * 5 + j - (rowC x av).length = i * 5 + j by simp [rowC]; omega]
    exact rowsC_get o avs (by simpa using h) i j (by simpa using hi) hj
/-- W: the blocks that the builder writes; R: those of the Args of its nodes. -/
structure BSt (bb : Nat) (o : List Nd) (W R : Nat → Prop) (w : World) (nv fv : Value) (avs : List Value) : Prop where
  b0 : w.cell? ⟨bb, 0, none⟩ = some nv
  b1 : w.cell? ⟨bb, 1, none⟩ = some fv
  f0 : w.frozen? ⟨bb, 0, none⟩ = false
  f1 : w.frozen? ⟨bb, 1, none⟩ = false
  Wb : W bb
  Wlt : ∀ b, W b → b < w.heap.size
  Rlt : ∀ b, R b → b < w.heap.size
  WR : ∀ b, W b → ¬ R b
  row : w.ownsRow 0 47 5 nv o.length (rowsC o avs)
  rowW : ∀ b, nv.ownBlock = some b → W b ∧ b ≠ bb
  len : avs.length = o.length
  args : ∀ i, i < o.length → IntsT R w (avs.getD i undef) (o.getD i default).args
  kn : ∀ x ∈ o, NdK x
  map : (fv = .map none ∧ o = []) ∨ ∃ r, fv = .map (some r) ∧ W r ∧ r ≠ bb ∧ nv.ownBlock ≠ some r ∧ MapIs Try.prog 131 w r (entK o)
def Bld (bb : Nat) (o : List Nd) (T : Nat → Prop) (w : World) : Prop := ∃ W R nv fv avs, (∀ b, T b ↔ W b ∨ R b) ∧ BSt bb o W R w nv fv avs
theorem BSt.same {bb : Nat} {o : List Nd} {W R : Nat → Prop} {w w' : World} {nv fv : Value} {avs : List Value} (h : BSt bb o W R w nv fv avs) (hs : Same (fun b => W b ∨ R b) w w') : BSt bb o W R w' nv fv avs :=
  { b0 := hs.cell (.inl h.Wb) h.b0
    b1 := hs.cell (.inl h.Wb) h.b1
    f0 := by rw [hs.frozen (.inl h.Wb)]; exact h.f0
    f1 := by rw [hs.frozen (.inl h.Wb)]; exact h.f1
    Wb := h.Wb
    Wlt := fun b hb => Nat.lt_of_lt_of_le (h.Wlt b hb) hs.1
    Rlt := fun b hb => Nat.lt_of_lt_of_le (h.Rlt b hb) hs.1
    WR := h.WR
    row := own_same h.row hs (fun b hb => .inl (h.rowW b hb).1)
    rowW := h.rowW
    len := h.len
    args := fun i hi => (h.args i hi).same (hs.mono fun k hk => .inr hk)
    kn := h.kn
    map := by
      rcases h.map with h1 | ⟨r, h1, h2, h3, h4, h5⟩
      · exact .inl h1
      · exact .inr ⟨r, h1, h2, h3, h4, h5.same hs (.inl h2)⟩ }
theorem Bld.same {bb : Nat} {o : List Nd} {T : Nat → Prop} {w w' : World} (h : Bld bb o T w) (hs : Same T w w') : Bld bb o T w' := by
  obtain ⟨W, R, nv, fv, avs, hT, hb⟩ := h
  exact ⟨W, R, nv, fv, avs, hT, hb.same (hs.mono fun k hk => (hT k).2 hk)⟩
theorem Bld.lt {bb : Nat} {o : List Nd} {T : Nat → Prop} {w : World} (h : Bld bb o T w) : ∀ b, T b → b < w.heap.size := by
  obtain ⟨W, R, nv, fv, avs, hT, hb⟩ := h
  intro b h
  rcases (hT b).1 h with h | h
  · exact hb.Wlt b h
  · exact hb.Rlt b h
theorem own_shape {w : World} {base : Nat} {e : TypeId} {size : Nat} {v : Value} {n : Nat} {xs : List Value} (h : w.ownsRow base e size v n xs) : ∃ a c, v = .slice a n c := by
  obtain ⟨_, ⟨rfl, h1⟩ | ⟨g, cap, cur, rfl, _⟩⟩ := h
  · exact ⟨none, 0, by rw [h1]⟩
  · exact ⟨_, _, rfl⟩
/-- The builder's nodes, read. -/
theorem BSt.nds {bb : Nat} {o : List Nd} {W R : Nat → Prop} {w : World} {nv fv : Value} {avs : List Value} (h : BSt bb o W R w nv fv avs) (hl : o.length ≤ 100000) : Nds w nv o := by
  have hr := h.row
  obtain ⟨h0, ⟨e, h1⟩ | ⟨g, cap, cur, e, hb', hg, h1, h2, h3, h4⟩⟩ := hr
  · exact ⟨none, 0, by rw [e, h1], by omega, ⟨by omega, by omega⟩, fun _ => rfl, fun i hi => absurd hi (by omega)⟩
  · have hlt : g < w.heap.size := by
      rcases Nat.lt_or_ge g w.heap.size with h | h
      · exact h
      · rw [Array.getElem?_eq_none h] at hg; cases hg
    refine ⟨some ⟨g, 0, none⟩, cap, e, h1, ⟨by omega, by unfold maxLen at h2; omega⟩, (fun hh => by cases hh), fun i hi => ⟨g, 0, rfl, hlt, ?_⟩⟩
    rw [Nat.zero_add]
    have cell : ∀ j, j < 5 → w.cell? ⟨g, i * 5 + j, none⟩ = (rowC (o.getD i default) (avs.getD i undef))[j]? := by
      intro j hj
      have e1 : w.cell? ⟨g, i * 5 + j, none⟩ = cur.toList[i * 5 + j]? := by simp [World.cell?, hg]
      have e2 : (cur.toList.take (o.length * 5))[i * 5 + j]? = cur.toList[i * 5 + j]? := by rw [List.getElem?_take, if_pos (by omega)]
      rw [e1, ← e2, h4]
      exact rowsC_get o avs h.len i j hi hj
    exact ⟨cell 0 (by omega), cell 1 (by omega), cell 2 (by omega), ⟨_, cell 3 (by omega), (h.args i hi).1.ints⟩, cell 4 (by omega)⟩
theorem Bld.next {bb : Nat} {o : List Nd} {T : Nat → Prop} {w w' : World} (h : Bld bb o T w) (hb : Below w.heap.size w w') : Bld bb o T w' :=
  h.same ((Chg.of_below (T := fun _ => False) hb).same fun k hk => ⟨h.lt k hk, fun h => h⟩)
/-- Behind the three stores of add. -/
theorem add_done {bb : Nat} {o : List Nd} {W R : Nat → Prop} {w w8 w1 : World} {nv fv av v' : Value} {avs : List Value} {x : Nd} {r : Nat} (hb : BSt bb o W R w nv fv avs) (hx : NdK x) (hv : IntsF w av x.args)
    (hav : ∀ b, av.ownBlock = some b → ¬ W b ∧ ¬ R b ∧ b < w.heap.size) (h8 : Chg W w w8) (c0 : w8.cell? ⟨bb, 0, none⟩ = some nv) (c1 : w8.cell? ⟨bb, 1, none⟩ = some (.map (some r)))
    (f0 : w8.frozen? ⟨bb, 0, none⟩ = false) (f1 : w8.frozen? ⟨bb, 1, none⟩ = false) (hm : MapIs Try.prog 131 w8 r (entK (o ++ [x]))) (hr : W r ∨ w.heap.size ≤ r) (hrb : r ≠ bb) (hrn : nv.ownBlock ≠ some r)
    (hg : Chg (fun b => nv.ownBlock = some b) w8 w1) (hown : w1.ownsRow 0 47 5 v' (o.length + 1) (rowsC o avs ++ rowC x av)) (hv' : v'.ownBlock = nv.ownBlock ∨ ∃ g, v'.ownBlock = some g ∧ w8.heap.size ≤ g) :
    ∃ T', Bld bb (o ++ [x]) T' (w1.setCell ⟨bb, 0, none⟩ v') ∧ (∀ b, T' b → (W b ∨ R b) ∨ w.heap.size ≤ b ∨ av.ownBlock = some b) ∧ Chg W w (w1.setCell ⟨bb, 0, none⟩ v') := by
  have hbb := hb.Wlt bb hb.Wb
  have s8 := h8.size
  have s1 := hg.size
  have hz : (w1.setCell ⟨bb, 0, none⟩ v').heap.size = w1.heap.size := by simp [World.setCell]
  have nbb : ¬ nv.ownBlock = some bb := fun e => (hb.rowW bb e).2 rfl
  have vbb : ¬ v'.ownBlock = some bb := fun e => by
    rcases hv' with h | ⟨g, h, hg⟩
    · exact nbb (by rw [← h]; exact e)
    · rw [h] at e; cases e; omega
  have hrl : r < w8.heap.size := hm.1
  have d0 : w1.cell? ⟨bb, 0, none⟩ = some nv := hg.cell nbb c0
  have d1 : w1.cell? ⟨bb, 1, none⟩ = some (.map (some r)) := hg.cell nbb c1
  have e0 : w1.frozen? ⟨bb, 0, none⟩ = false := by rw [hg.frozen nbb (by omega)]; exact f0
  have e1 : w1.frozen? ⟨bb, 1, none⟩ = false := by rw [hg.frozen nbb (by omega)]; exact f1
  have hset : Chg (fun b => b = bb) w1 (w1.setCell ⟨bb, 0, none⟩ v') := (Chg.refl (fun b => b = bb) w1).setCell (b := bb) rfl v'
  have hall : Chg W w (w1.setCell ⟨bb, 0, none⟩ v') := by
    refine (h8.trans hg ?_).trans hset ?_
    · intro k _ h; exact (hb.rowW k h).1
    · intro k _ h; subst h; exact hb.Wb
  have sameR : Same R w (w1.setCell ⟨bb, 0, none⟩ v') := hall.same fun k hk => ⟨hb.Rlt k hk, fun h => hb.WR k h hk⟩
  have sameA : Same (fun b => av.ownBlock = some b) w (w1.setCell ⟨bb, 0, none⟩ v') := hall.same fun k hk => ⟨(hav k hk).2.2, (hav k hk).1⟩
  refine ⟨fun b => (W b ∨ b = r ∨ v'.ownBlock = some b) ∨ (R b ∨ av.ownBlock = some b), ⟨fun b => W b ∨ b = r ∨ v'.ownBlock = some b, fun b => R b ∨ av.ownBlock = some b, v', .map (some r), avs ++ [av], fun _ => Iff.rfl, ?_⟩, ?_, hall⟩
  · exact {
      b0 := World.cell?_setCell_same _ _ _ d0
      b1 := by rw [World.cell?_setCell_other _ _ _ _ (by intro e; cases e)]; exact d1
      f0 := by rw [World.frozen?_setCell]; exact e0
      f1 := by rw [World.frozen?_setCell]; exact e1
      Wb := .inl hb.Wb
      Wlt := fun b h => by
        rw [hz]
        rcases h with h | h | h
        · have := hb.Wlt b h; omega
        · omega
        · exact own_lt hown b h
      Rlt := fun b h => by
        rw [hz]
        rcases h with h | h
        · have := hb.Rlt b h; omega
        · have := (hav b h).2.2; omega
      WR := fun b h h' => by
        have hlt : b < w.heap.size := by
          rcases h' with h' | h'
          · exact hb.Rlt b h'
          · exact (hav b h').2.2
        have hW : W b := by
          rcases h with h | h | h
          · exact h
          · subst h
            rcases hr with h | h
            · exact h
            · omega
          · rcases hv' with e | ⟨g, e, hge⟩
            · exact (hb.rowW b (by rw [← e]; exact h)).1
            · rw [e] at h; cases h; omega
        rcases h' with h' | h'
        · exact hb.WR b hW h'
        · exact (hav b h').1 hW
      row := by
        rw [rowsC_snoc x av o avs hb.len, List.length_append]
        exact own_same (T := fun b => v'.ownBlock = some b) hown (hset.same fun k hk => ⟨own_lt hown k hk, fun e => vbb (e ▸ hk)⟩) (fun b h => h)
      rowW := fun b h => ⟨.inr (.inr h), fun e => vbb (e ▸ h)⟩
      len := by rw [List.length_append, List.length_append, hb.len]; rfl
      args := fun i hi => by
        by_cases h : i < o.length
        · have e1 : (avs ++ [av]).getD i undef = avs.getD i undef := by rw [List.getD_eq_getElem?_getD, List.getD_eq_getElem?_getD, List.getElem?_append_left (by rw [hb.len]; exact h)]
          rw [e1, getD_pre h]
          exact ((hb.args i h).same sameR).mono fun k hk => .inl hk
        · obtain rfl : i = o.length := by rw [List.length_append] at hi; simp at hi; omega
          have e1 : (avs ++ [av]).getD o.length undef = av := by rw [List.getD_eq_getElem?_getD, List.getElem?_append_right (by rw [hb.len]; exact Nat.le_refl _), hb.len, Nat.sub_self]; rfl
          have e2 : (o ++ [x]).getD o.length default = x := by rw [List.getD_eq_getElem?_getD, List.getElem?_append_right (Nat.le_refl _), Nat.sub_self]; rfl
          rw [e1, e2]
          exact (IntsT.same ⟨hv, fun b h => h⟩ sameA).mono fun k hk => .inr hk
      kn := fun y hy => by
        rcases List.mem_append.1 hy with h | h
        · exact hb.kn y h
        · simp at h; subst h; exact hx
      map := by
        refine .inr ⟨r, rfl, .inr (.inl rfl), hrb, ?_, ?_⟩
        · intro e
          rcases hv' with h | ⟨g, h, hge⟩
          · exact hrn (by rw [← h]; exact e)
          · rw [h] at e; cases e; omega
        · exact hm.same (T := fun b => b = r) (((hg.mono (T := fun b => nv.ownBlock = some b ∨ b = bb) (fun k _ h => .inl h)).trans hset (fun k _ h => .inr h)).same fun k hk => by
            subst hk; exact ⟨hrl, fun h => by rcases h with h | h; exact hrn h; exact hrb h⟩) rfl }
  · intro b h
    rcases h with (h | h | h) | (h | h)
    · exact .inl (.inl h)
    · subst h
      rcases hr with h | h
      · exact .inl (.inl h)
      · exact .inr (.inl h)
    · rcases hv' with e | ⟨g, e, hge⟩
      · exact .inl (.inl (hb.rowW b (by rw [← e]; exact h)).1)
      · rw [e] at h; cases h; exact .inr (.inl (by omega))
    · exact .inl (.inr h)
    · exact .inr (.inr h)
end Go.Proofs.Ythopdfikikdcbaa
/- Walk of the builder's add. -/
namespace Go.Proofs.Ythopdfikikdcbaa
open Go.RowKit Go.Maps Wd
set_option linter.unusedVariables false
set_option linter.unusedSimpArgs false
theorem setCells_one (w : World) (b o : Nat) (v : Value) : w.setCells b o [v] = w.setCell ⟨b, o, none⟩ v := rfl
theorem setCells_two (w : World) (b o : Nat) (u v : Value) : w.setCells b o [u, v] = (w.setCell ⟨b, o, none⟩ u).setCell ⟨b, o + 1, none⟩ v := rfl
theorem setCells_three (w : World) (b o : Nat) (u v x : Value) : w.setCells b o [u, v, x] = ((w.setCell ⟨b, o, none⟩ u).setCell ⟨b, o + 1, none⟩ v).setCell ⟨b, o + 1 + 1, none⟩ x := rfl
/-- The copy of the Args into the key. -/
theorem copy_key (w : World) (xb : Obj) (a b c : Value) (args : List Int) (aa : Option Addr) (ac : Nat) (hv : Ints .i64 w (.slice aa args.length ac) args) (hl : args.length ≤ 3) :
    (Builtin.copy_ #[25, 25] 3 #[.slice (some ⟨w.heap.size + 1, 3, none⟩) 3 3, .slice aa args.length ac]).run Try.prog (((w.alloc xb).alloc (.cells #[a, b, c, .int .i64 (-1), .int .i64 (-1), .int .i64 (-1)] 131)).drew) =
      .ok (goInt args.length) (((w.alloc xb).alloc (.cells #[a, b, c, .int .i64 (args.getD 0 (-1)), .int .i64 (args.getD 1 (-1)), .int .i64 (args.getD 2 (-1))] 131)).drew) := by
  have hu : Try.prog.underlying 25 = some (.slice 3) := Try.underlying25
  have hs : (Try.prog.info? 3).map (·.size) = some 1 := by kernel_rfl
  by_cases h0 : args.length = 0
  · obtain rfl : args = [] := List.length_eq_zero_iff.1 h0
    rw [run_copy_none (P := Try.prog) _ _ _ _ _ _ _ _ _ _ _ hu hs (by simp [Nat.min])]
    rfl
  · obtain ⟨ab, ao, rfl, hab, hcs⟩ := hv.row (by omega)
    have hW : ∀ j, j < args.length → ((w.alloc xb).alloc (.cells #[a, b, c, .int .i64 (-1), .int .i64 (-1), .int .i64 (-1)] 131)).drew.cell? ⟨ab, ao + j, none⟩ = some (.int .i64 (args.getD j 0)) := fun j hj => by
      have := hcs j hj
      exact below_cell (B := w.heap.size) ((((Below.refl _ _).alloc (Nat.le_refl _) _).alloc (by simp) _).drew) hab this
    have hz : (w.alloc xb).heap.size = w.heap.size + 1 := by simp
    have hk : ∀ j, j < 3 → (((w.alloc xb).alloc (.cells #[a, b, c, .int .i64 (-1), .int .i64 (-1), .int .i64 (-1)] 131)).drew.cell? ⟨w.heap.size + 1, 3 + j, none⟩).isSome = true := fun j hj => by
      have : j = 0 ∨ j = 1 ∨ j = 2 := by omega
      rcases this with rfl | rfl | rfl <;> simp [go_sem]
    have hf : ∀ j, j < 3 → ((w.alloc xb).alloc (.cells #[a, b, c, .int .i64 (-1), .int .i64 (-1), .int .i64 (-1)] 131)).drew.frozen? ⟨w.heap.size + 1, 3 + j, none⟩ = false := fun j hj => by
      have : j = 0 ∨ j = 1 ∨ j = 2 := by omega
      rcases this with rfl | rfl | rfl <;> simp [go_sem]
    rw [run_copy_cells (P := Try.prog) _ _ _ _ _ _ _ _ _ _ _ _ (args.map (Value.int .i64)) hu hs (by rw [List.length_map]; exact (Nat.min_eq_left (by omega)).symm) ?_ (fun j hj => hk j (by simp at hj; omega)) (fun j hj => hf j (by simp at hj; omega)) (by simp [Value.oneCell'])]
    · rw [List.length_map]
      refine congrArg (Result.ok _) ?_
      rcases args with _ | ⟨x, _ | ⟨y, _ | ⟨z, _ | ⟨u, l⟩⟩⟩⟩
      · simp at h0
      · rw [List.map_cons, List.map_nil, setCells_one]
        simp [go_sem]
      · rw [List.map_cons, List.map_cons, List.map_nil, setCells_two]
        simp [go_sem]
      · rw [List.map_cons, List.map_cons, List.map_cons, List.map_nil, setCells_three]
        simp [go_sem]
      · simp at hl
    · intro j v hjv
      rw [List.getElem?_map] at hjv
      cases e : args[j]? with
      | none => rw [e] at hjv; cases hjv
      | some y =>
        rw [e] at hjv
        cases hjv
        have hj : j < args.length := by
          rcases Nat.lt_or_ge j args.length with h | h
          · exact h
          · rw [List.getElem?_eq_none h] at e; cases e
        have := hW j hj
        rw [List.getD_eq_getElem?_getD, e] at this
        by_cases hj0 : j = 0
        · subst hj0; exact this
        · simpa [Addr.add, hj0] using this
theorem info_node : (Try.prog.info? 47).map (fun i => (i.zero, i.size, i.bytes)) = some (some (.agg #[.int .i64 0, .int .i64 0, .int .i64 0, .slice none 0 0, .int .u32 0]), 5, 56) := by kernel_rfl
/-- In the midst of add: the map is there, the node is not yet. -/
structure AddMid (bb : Nat) (o : List Nd) (W : Nat → Prop) (w w7 : World) (na : Option Addr) (nc : Nat) (avs : List Value) (r : Nat) (op width flags imm : Int) (args : List Int) (aa : Option Addr) (ac : Nat) (k0 k1 k2 : Int) : Prop where
  x0 : w7.cell? ⟨w.heap.size, 0, none⟩ = some (.int .i64 op)
  x1 : w7.cell? ⟨w.heap.size, 1, none⟩ = some (.int .i64 width)
  x2 : w7.cell? ⟨w.heap.size, 2, none⟩ = some (.int .i64 flags)
  x3 : w7.cell? ⟨w.heap.size, 3, none⟩ = some (.slice aa args.length ac)
  x4 : w7.cell? ⟨w.heap.size, 4, none⟩ = some (.int .u32 imm)
  y0 : w7.cell? ⟨w.heap.size + 1, 0, none⟩ = some (.int .i64 op)
  y1 : w7.cell? ⟨w.heap.size + 1, 1, none⟩ = some (.int .i64 width)
  y2 : w7.cell? ⟨w.heap.size + 1, 2, none⟩ = some (.int .u32 imm)
  y3 : w7.cell? ⟨w.heap.size + 1, 3, none⟩ = some (.int .i64 k0)
  y4 : w7.cell? ⟨w.heap.size + 1, 4, none⟩ = some (.int .i64 k1)
  y5 : w7.cell? ⟨w.heap.size + 1, 5, none⟩ = some (.int .i64 k2)
  c0 : w7.cell? ⟨bb, 0, none⟩ = some (.slice na o.length nc)
  c1 : w7.cell? ⟨bb, 1, none⟩ = some (.map (some r))
  f0 : w7.frozen? ⟨bb, 0, none⟩ = false
  f1 : w7.frozen? ⟨bb, 1, none⟩ = false
  sz : w.heap.size + 1 < w7.heap.size
  row : w7.ownsRow 0 47 5 (.slice na o.length nc) o.length (rowsC o avs)
  map : MapIs Try.prog 131 w7 r (entK o)
  chg : Chg W w w7
  hr : W r ∨ w.heap.size ≤ r
  rb : r ≠ bb
  rn : (Value.slice na o.length nc).ownBlock ≠ some r
  rx : r ≠ w.heap.size ∧ r ≠ w.heap.size + 1
set_option maxRecDepth 100000 in
set_option maxHeartbeats 2000000 in
theorem add_any (bb : Nat) (o : List Nd) (T : Nat → Prop) (x : Nd) (av : Value) (w : World) (h : Bld bb o T w) (hx : NdK x) (hvf : IntsF w av x.args) (hav : ∀ b, av.ownBlock = some b → ¬ T b ∧ b < w.heap.size) (hlen : o.length ≤ 100000) :
    Calls Try.prog 67 #[.pointer (some ⟨bb, 0, none⟩), .agg #[.int .i64 x.op, .int .i64 x.width, .int .i64 x.flags, av, .int .u32 x.imm]] w fun e w' => e = .returned (.int .i64 (stepA o x).2) ∧
      ∃ T', Bld bb (stepA o x).1 T' w' ∧ (∀ b, T' b → T b ∨ w.heap.size ≤ b ∨ av.ownBlock = some b) ∧ Chg T w w' := by
  have HH := Lib.hid h
  obtain ⟨W, R, nv, fv, avs, hT, hb⟩ := h
  have HT := Lib.hid hT
  have HB := Lib.hid hb
  have HX := Lib.hid hx
  have hv := hvf.ints
  have HV := Lib.hid hvf
  clear hvf
  have HAV := Lib.hid hav
  have c0 := hb.b0
  have c1 := hb.b1
  have f0 := hb.f0
  have f1 := hb.f1
  have hbl := hb.Wlt bb hb.Wb
  have hx3 := hx.len
  have hmap := hb.map
  have hrow := hb.row
  have HRW := Lib.hid hb.rowW
  obtain ⟨q, hq⟩ := keyV_key hx
  obtain ⟨na, nc, rfl⟩ := own_shape hrow
  obtain ⟨i0, hi0, hz0, hz1, hz2⟩ := info_parts info_node
  obtain ⟨op, width, flags, args, imm⟩ := x
  obtain ⟨aa, ac, rfl, ha1, ha2⟩ := hv.shape
  simp only at hv hx3 ha1 ha2 ⊢
  have HQ := Lib.hid hq
  have hcp := copy_key w (.cells #[.int .i64 op, .int .i64 width, .int .i64 flags, .slice aa args.length ac, .int .u32 imm] 47) (.int .i64 op) (.int .i64 width) (.int .u32 imm) args aa ac hv hx3
  by_cases hm : (⟨op, width, flags, args, imm⟩ : Nd) ∈ o
  · rcases hmap with ⟨_, h1⟩ | ⟨r, rfl, hr1, hr2, hr3, hr4⟩
    · rw [h1] at hm; cases hm
    · have hlook : (Instr.lookup 104 (.map (some r)) (keyV ⟨op, width, flags, args, imm⟩) true).run Try.prog ((((w.alloc (.cells #[.int .i64 op, .int .i64 width, .int .i64 flags, .slice aa args.length ac, .int .u32 imm] 47)).alloc (.cells #[.int .i64 op, .int .i64 width, .int .u32 imm, .int .i64 (args.getD 0 (-1)), .int .i64 (args.getD 1 (-1)), .int .i64 (args.getD 2 (-1))] 131)).drew).drew) = .ok (.tuple #[.int .i64 (o.idxOf ⟨op, width, flags, args, imm⟩ : Int), .bool true]) _ :=
        lookup_hit lawKey Try.underlying104 (hr4.below ((((Below.refl _ _).alloc (Nat.le_refl _) _).alloc (by simp) _).drew.drew)) hq (entK_hit hm)
      have HST : Hid (stepA o ⟨op, width, flags, args, imm⟩ = (o, (o.idxOf (⟨op, width, flags, args, imm⟩ : Nd) : Int))) := by
        show _ = _
        unfold stepA addN
        rw [if_pos hm]
      simp only [keyV] at hlook
      generalize args.getD 0 (-1) = k0 at *
      generalize args.getD 1 (-1) = k1 at *
      generalize args.getD 2 (-1) = k2 at *
      clear hT hb hx hv hav ha1 ha2 hx3 hr4 hq hm hrow
      go_enter Try.func67, Try.ntmps67
      go_wp2_with fail
      go_region
      clear hcp
      go_wp2_with fail
      go_region
      clear hlook
      go_wp2_with fail
      go_ret
      rw [HST.out]
      exact ⟨rfl, T, HH.out.next ((((Below.refl _ _).alloc (Nat.le_refl _) _).alloc (by simp) _).drew.drew), fun b h => .inl h, Chg.of_below ((((Below.refl _ _).alloc (Nat.le_refl _) _).alloc (by simp) _).drew.drew)⟩
  · have HST : Hid (stepA o ⟨op, width, flags, args, imm⟩ = (o ++ [⟨op, width, flags, args, imm⟩], (o.length : Int))) := by
      show _ = _
      unfold stepA addN
      rw [if_neg hm]
    have HMISS := Lib.hid (entK_miss hb.kn hx hm)
    have HKV : Hid (keyV ⟨op, width, flags, args, imm⟩ = .agg #[.int .i64 op, .int .i64 width, .int .u32 imm, .int .i64 (args.getD 0 (-1)), .int .i64 (args.getD 1 (-1)), .int .i64 (args.getD 2 (-1))]) := rfl
    rcases hmap with ⟨rfl, hnil⟩ | ⟨r, rfl, hr1, hr2, hr3, hr4⟩
    · have hlook : (Instr.lookup 104 (.map none) (keyV ⟨op, width, flags, args, imm⟩) true).run Try.prog ((((w.alloc (.cells #[.int .i64 op, .int .i64 width, .int .i64 flags, .slice aa args.length ac, .int .u32 imm] 47)).alloc (.cells #[.int .i64 op, .int .i64 width, .int .u32 imm, .int .i64 (args.getD 0 (-1)), .int .i64 (args.getD 1 (-1)), .int .i64 (args.getD 2 (-1))] 131)).drew).drew) = .ok (.tuple #[.int .i64 0, .bool false]) _ :=
        lookup_nil lawKey Try.underlying104 (fun _ => by kernel_rfl) hq
      simp only [keyV] at hlook
      obtain ⟨w6, r, hmk, hw6, hr6⟩ : ∃ w6 r, (Instr.makeMap 104 none).run Try.prog (((w.alloc (.cells #[.int .i64 op, .int .i64 width, .int .i64 flags, .slice aa args.length ac, .int .u32 imm] 47)).alloc (.cells #[.int .i64 op, .int .i64 width, .int .u32 imm, .int .i64 (args.getD 0 (-1)), .int .i64 (args.getD 1 (-1)), .int .i64 (args.getD 2 (-1))] 131)).drew.drew) = .ok (.map (some r)) w6 ∧ w6 = ((w.alloc (.cells #[.int .i64 op, .int .i64 width, .int .i64 flags, .slice aa args.length ac, .int .u32 imm] 47)).alloc (.cells #[.int .i64 op, .int .i64 width, .int .u32 imm, .int .i64 (args.getD 0 (-1)), .int .i64 (args.getD 1 (-1)), .int .i64 (args.getD 2 (-1))] 131)).drew.drew.alloc (.map #[] 0) ∧ r = w.heap.size + 2 := ⟨_, _, (show (Instr.makeMap 104 none).run Try.prog (((w.alloc (.cells #[.int .i64 op, .int .i64 width, .int .i64 flags, .slice aa args.length ac, .int .u32 imm] 47)).alloc (.cells #[.int .i64 op, .int .i64 width, .int .u32 imm, .int .i64 (args.getD 0 (-1)), .int .i64 (args.getD 1 (-1)), .int .i64 (args.getD 2 (-1))] 131)).drew.drew) = .ok (.map (some (((w.alloc (.cells #[.int .i64 op, .int .i64 width, .int .i64 flags, .slice aa args.length ac, .int .u32 imm] 47)).alloc (.cells #[.int .i64 op, .int .i64 width, .int .u32 imm, .int .i64 (args.getD 0 (-1)), .int .i64 (args.getD 1 (-1)), .int .i64 (args.getD 2 (-1))] 131)).drew.drew).heap.size)) (((w.alloc (.cells #[.int .i64 op, .int .i64 width, .int .i64 flags, .slice aa args.length ac, .int .u32 imm] 47)).alloc (.cells #[.int .i64 op, .int .i64 width, .int .u32 imm, .int .i64 (args.getD 0 (-1)), .int .i64 (args.getD 1 (-1)), .int .i64 (args.getD 2 (-1))] 131)).drew.drew.alloc (.map #[] 0)) by kernel_rfl), rfl, by simp⟩
      have hb6 : Below w.heap.size w w6 := by rw [hw6]; exact ((((Below.refl _ _).alloc (Nat.le_refl _) _).alloc (by simp) _).drew.drew).alloc (by simp; omega) _
      have c60 := below_cell hb6 hbl c0
      have c61 := below_cell hb6 hbl c1
      have f61 : w6.frozen? ⟨bb, 1, none⟩ = false := by rw [← f1]; exact hb6.frozen (p := ⟨bb, 1, none⟩) hbl
      have f60 : w6.frozen? ⟨bb, 0, none⟩ = false := by rw [← f0]; exact hb6.frozen (p := ⟨bb, 0, none⟩) hbl
      have HMID : Hid (AddMid bb o W w (w6.setCell ⟨bb, 1, none⟩ (.map (some r))) na nc avs r op width flags imm args aa ac (args.getD 0 (-1)) (args.getD 1 (-1)) (args.getD 2 (-1))) := by
        have hother : ∀ b i, b ≠ bb → (w6.setCell ⟨bb, 1, none⟩ (.map (some r))).cell? ⟨b, i, none⟩ = w6.cell? ⟨b, i, none⟩ := fun b i hne => World.cell?_setCell_other _ _ _ _ (by intro e; cases e; exact hne rfl)
        have hal : ∀ b i, b < w.heap.size + 2 → w6.cell? ⟨b, i, none⟩ = ((w.alloc (.cells #[.int .i64 op, .int .i64 width, .int .i64 flags, .slice aa args.length ac, .int .u32 imm] 47)).alloc (.cells #[.int .i64 op, .int .i64 width, .int .u32 imm, .int .i64 (args.getD 0 (-1)), .int .i64 (args.getD 1 (-1)), .int .i64 (args.getD 2 (-1))] 131)).cell? ⟨b, i, none⟩ := fun b i hlt => by
          rw [hw6]
          exact ((Below.refl (((w.alloc (.cells #[.int .i64 op, .int .i64 width, .int .i64 flags, .slice aa args.length ac, .int .u32 imm] 47)).alloc (.cells #[.int .i64 op, .int .i64 width, .int .u32 imm, .int .i64 (args.getD 0 (-1)), .int .i64 (args.getD 1 (-1)), .int .i64 (args.getD 2 (-1))] 131)).drew.drew).heap.size _).alloc (Nat.le_refl _) (.map #[] 0)).cell (p := ⟨b, i, none⟩) (by simp; omega)
        have hset : Chg W w (w6.setCell ⟨bb, 1, none⟩ (.map (some r))) := (Chg.of_below hb6).setCell hb.Wb _
        exact {
          x0 := by rw [hother _ _ (by omega), hal _ _ (by omega)]; simp [go_sem]
          x1 := by rw [hother _ _ (by omega), hal _ _ (by omega)]; simp [go_sem]
          x2 := by rw [hother _ _ (by omega), hal _ _ (by omega)]; simp [go_sem]
          x3 := by rw [hother _ _ (by omega), hal _ _ (by omega)]; simp [go_sem]
          x4 := by rw [hother _ _ (by omega), hal _ _ (by omega)]; simp [go_sem]
          y0 := by rw [hother _ _ (by omega), hal _ _ (by omega)]; simp [go_sem]
          y1 := by rw [hother _ _ (by omega), hal _ _ (by omega)]; simp [go_sem]
          y2 := by rw [hother _ _ (by omega), hal _ _ (by omega)]; simp [go_sem]
          y3 := by rw [hother _ _ (by omega), hal _ _ (by omega)]; simp [go_sem]
          y4 := by rw [hother _ _ (by omega), hal _ _ (by omega)]; simp [go_sem]
          y5 := by rw [hother _ _ (by omega), hal _ _ (by omega)]; simp [go_sem]
          c0 := by rw [World.cell?_setCell_other _ _ _ _ (by intro e; cases e)]; exact c60
          c1 := World.cell?_setCell_same _ _ _ c61
          f0 := by rw [World.frozen?_setCell]; exact f60
          f1 := by rw [World.frozen?_setCell]; exact f61
          sz := by rw [hw6]; simp [World.setCell]
          row := own_same (T := fun b => (Value.slice na o.length nc).ownBlock = some b) hrow (((Chg.of_below (T := fun b => b = bb) hb6).setCell (b := bb) rfl _).same fun k hk => ⟨own_lt hrow k hk, fun e => (HRW.out k hk).2 e⟩) (fun b h => h)
          map := by
            have h6 : MapIs Try.prog 131 w6 r (entK o) := by
              rw [hw6, hnil, hr6]
              have := MapIs.made (P := Try.prog) (K := 131) (w := ((w.alloc (.cells #[.int .i64 op, .int .i64 width, .int .i64 flags, .slice aa args.length ac, .int .u32 imm] 47)).alloc (.cells #[.int .i64 op, .int .i64 width, .int .u32 imm, .int .i64 (args.getD 0 (-1)), .int .i64 (args.getD 1 (-1)), .int .i64 (args.getD 2 (-1))] 131)).drew.drew)
              simpa [entK] using this
            exact h6.same (T := fun b => b = r) (((Chg.refl (fun b => b = bb) w6).setCell (b := bb) rfl _).same fun k hk => by subst hk; exact ⟨h6.1, by omega⟩) rfl
          chg := hset
          hr := .inr (by omega)
          rb := by omega
          rn := fun e => by have := own_lt hrow _ e; omega
          rx := by omega }
      generalize args.getD 0 (-1) = k0 at *
      generalize args.getD 1 (-1) = k1 at *
      generalize args.getD 2 (-1) = k2 at *
      clear hT hb hx hv hav ha1 ha2 hx3 hq hm hrow hw6 hr6 hb6 hnil f60 c60
      go_enter Try.func67, Try.ntmps67
      go_wp2_with fail
      go_region
      clear hcp
      go_wp2_with fail
      go_region
      clear hlook
      have heq : ∀ w : World, (binOp .eql 104 (.map none) (.map none)).run Try.prog w = .ok (.bool true) w := fun _ => by kernel_rfl
      go_wp2_with fail
      clear heq hmk c61 f61
      generalize w6.setCell ⟨bb, 1, none⟩ (.map (some r)) = w7 at *
      have hmid := HMID.out
      have hmd : MapIs Try.prog 131 w7.drew r (entK o) := hmid.map
      have hk7 : keyV ⟨op, width, flags, args, imm⟩ = .agg #[.int .i64 op, .int .i64 width, .int .u32 imm, .int .i64 k0, .int .i64 k1, .int .i64 k2] := HKV.out
      obtain ⟨w8, hup, hw8⟩ : ∃ w8, (Instr.mapUpdate 104 (.map (some r)) (keyV ⟨op, width, flags, args, imm⟩) (.int .i64 (o.length : Int))).run Try.prog w7.drew = .ok () w8 ∧ w8 = setMap w7.drew r (ents (entK o ++ [(keyV ⟨op, width, flags, args, imm⟩, .int .i64 (o.length : Int))])) ((entK o).length + 1) :=
        ⟨_, update_new lawKey Try.underlying104 hmd HQ.out HMISS.out, rfl⟩
      rw [hk7] at hup
      clear hk7
      have hM : MapIs Try.prog 131 w8 r (entK (o ++ [⟨op, width, flags, args, imm⟩])) := by
        rw [hw8, entK_snoc]
        exact MapIs.new hmd HQ.out HMISS.out
      have hC : Chg (fun b => b = r) w7 w8 := by rw [hw8]; exact ((Chg.refl (fun b => b = r) w7).drew).setMap (b := r) rfl _ _
      have hz8 : w8.heap.size = w7.heap.size := by rw [hw8, size_setMap]; rfl
      have hs7 := hmid.sz
      have rx1 := hmid.rx.1
      have rb1 := hmid.rb
      have hnb : some bb ≠ (Value.slice na o.length nc).ownBlock := fun e => (HRW.out bb e.symm).2 rfl
      have hbl7 : bb < w7.heap.size := by omega
      have x0 := hC.cell (fun e => rx1 e.symm) hmid.x0
      have x1 := hC.cell (fun e => rx1 e.symm) hmid.x1
      have x2 := hC.cell (fun e => rx1 e.symm) hmid.x2
      have x3 := hC.cell (fun e => rx1 e.symm) hmid.x3
      have x4 := hC.cell (fun e => rx1 e.symm) hmid.x4
      have y0 := hmid.y0
      have y1 := hmid.y1
      have y2 := hmid.y2
      have y3 := hmid.y3
      have y4 := hmid.y4
      have y5 := hmid.y5
      have c70 := hmid.c0
      have c71 := hmid.c1
      have c80 := hC.cell (fun e => rb1 e.symm) hmid.c0
      have f80 : w8.frozen? ⟨bb, 0, none⟩ = false := by rw [hC.frozen (fun e => rb1 e.symm) hbl7]; exact hmid.f0
      have HC81 := Lib.hid (hC.cell (fun e => rb1 e.symm) hmid.c1)
      have HF81 : Hid (w8.frozen? ⟨bb, 1, none⟩ = false) := by
        show _ = _
        rw [hC.frozen (fun e => rb1 e.symm) hbl7]; exact hmid.f1
      have HROW : Hid (w8.ownsRow 0 47 5 (.slice na o.length nc) o.length (rowsC o avs)) := own_same (T := fun b => (Value.slice na o.length nc).ownBlock = some b) hmid.row (hC.same fun k hk => ⟨own_lt hmid.row k hk, fun e => hmid.rn (e ▸ hk)⟩) (fun b h => h)
      have HM := Lib.hid hM
      have HC : Hid (Chg (fun b => W b) w w8) := hmid.chg.trans hC (fun k hk h => by subst h; rcases hmid.hr with h | h; exact h; omega)
      have hs8 : w.heap.size + 1 < w8.heap.size := by omega
      have hle8 : w7.heap.size ≤ w8.heap.size := by omega
      clear hM hC hw8 hmid rx1 rb1 hmd hz8
      go_region
      clear hup y0 y1 y2 y3 y4 y5 c70 c71
      go_wp2_with fail
      have hfz : ∀ ob, (w8.alloc ob).frozen? ⟨bb, 0, none⟩ = false := fun ob => by rw [← f80]; exact ((Below.refl _ _).alloc (Nat.le_refl _) ob).frozen (p := ⟨bb, 0, none⟩) (by simp; omega)
      have hcz : ∀ ob, (w8.alloc ob).drew.cell? ⟨bb, 0, none⟩ = some (.slice na o.length nc) := fun ob => below_cell (B := w8.heap.size) (((Below.refl _ _).alloc (Nat.le_refl _) ob).drew) (by omega) c80
      have hfz2 : ∀ ob, (w8.alloc ob).drew.frozen? ⟨bb, 0, none⟩ = false := hfz
      go_region_law ((refine step_append_lies _ (by rfl) _ _ _ (by rfl) 0 47 i0 _ 5 56 Try.underlying22 hi0 hz0 hz1 hz2 rfl (by omega) (.slice na o.length nc) o.length (rowsC o avs) (by rfl) (((HROW.out).alloc _).drew) ⟨w8.heap.size, 0, none⟩ 1 1 [.int .i64 op, .int .i64 width, .int .i64 flags, .slice aa args.length ac, .int .u32 imm] (by rfl) (by rfl) (World.news_of_block (cs := #[.int .i64 op, .int .i64 width, .int .i64 flags, .slice aa args.length ac, .int .u32 imm]) (t := 47) (fr := (0, 0)) (heap_alloc_new w8 _)) (by simp [Value.oneCell']) (by omega) (by unfold maxLen; omega) (by omega) (Nat.zero_le _) (w8.heap.size + 1) (by simp) ?_; intro gg cap w1 hown1 hgrow hat hlt; have G0 := (hgrow.cell_far ⟨bb, 0, none⟩ (by simp; omega) hnb).trans (hcz _); have G1 := (hgrow.frozen_far ⟨bb, 0, none⟩ (by simp; omega) hnb).trans (hfz2 _)))
      all_goals
        clear hfz hfz2 hcz
        go_wp2_with fail
        go_ret
        rw [HST.out]
        have hmid := HMID.out
        obtain ⟨T', t1, t2, t3⟩ := add_done (x := ⟨op, width, flags, args, imm⟩) (av := .slice aa args.length ac) HB.out HX.out HV.out (fun b hb => ⟨fun h => (HAV.out b hb).1 ((HT.out b).2 (.inl h)), fun h => (HAV.out b hb).1 ((HT.out b).2 (.inr h)), (HAV.out b hb).2⟩) HC.out c80 HC81.out f80 HF81.out HM.out hmid.hr hmid.rb hmid.rn
          (Chg.trans (Chg.of_below (T := fun b => (Value.slice na o.length nc).ownBlock = some b) (((Below.refl _ _).alloc (Nat.le_refl _) _).drew)) (Chg.of_grown hgrow (fun k hk => hk)) (fun _ _ h => h)) hown1 (hat.elim (fun h => .inl h.symm) (fun h => .inr ⟨gg, rfl, by omega⟩))
        exact ⟨rfl, T', t1, fun b h => (t2 b h).imp_left (HT.out b).2, t3.mono fun k _ h => (HT.out k).2 (.inl h)⟩
    · have hlook : (Instr.lookup 104 (.map (some r)) (keyV ⟨op, width, flags, args, imm⟩) true).run Try.prog ((((w.alloc (.cells #[.int .i64 op, .int .i64 width, .int .i64 flags, .slice aa args.length ac, .int .u32 imm] 47)).alloc (.cells #[.int .i64 op, .int .i64 width, .int .u32 imm, .int .i64 (args.getD 0 (-1)), .int .i64 (args.getD 1 (-1)), .int .i64 (args.getD 2 (-1))] 131)).drew).drew) = .ok (.tuple #[.int .i64 0, .bool false]) _ :=
        lookup_miss lawKey Try.underlying104 (fun _ => by kernel_rfl) (hr4.below ((((Below.refl _ _).alloc (Nat.le_refl _) _).alloc (by simp) _).drew.drew)) hq HMISS.out
      have hrl := hr4.1
      simp only [keyV] at hlook
      have HMID : Hid (AddMid bb o W w (((w.alloc (.cells #[.int .i64 op, .int .i64 width, .int .i64 flags, .slice aa args.length ac, .int .u32 imm] 47)).alloc (.cells #[.int .i64 op, .int .i64 width, .int .u32 imm, .int .i64 (args.getD 0 (-1)), .int .i64 (args.getD 1 (-1)), .int .i64 (args.getD 2 (-1))] 131)).drew.drew) na nc avs r op width flags imm args aa ac (args.getD 0 (-1)) (args.getD 1 (-1)) (args.getD 2 (-1))) := by
        have hb6 : Below w.heap.size w (((w.alloc (.cells #[.int .i64 op, .int .i64 width, .int .i64 flags, .slice aa args.length ac, .int .u32 imm] 47)).alloc (.cells #[.int .i64 op, .int .i64 width, .int .u32 imm, .int .i64 (args.getD 0 (-1)), .int .i64 (args.getD 1 (-1)), .int .i64 (args.getD 2 (-1))] 131)).drew.drew) := ((((Below.refl _ _).alloc (Nat.le_refl _) _).alloc (by simp) _).drew.drew)
        exact {
          x0 := by simp [go_sem]
          x1 := by simp [go_sem]
          x2 := by simp [go_sem]
          x3 := by simp [go_sem]
          x4 := by simp [go_sem]
          y0 := by simp [go_sem]
          y1 := by simp [go_sem]
          y2 := by simp [go_sem]
          y3 := by simp [go_sem]
          y4 := by simp [go_sem]
          y5 := by simp [go_sem]
          c0 := below_cell hb6 hbl c0
          c1 := below_cell hb6 hbl c1
          f0 := by rw [← f0]; exact hb6.frozen (p := ⟨bb, 0, none⟩) hbl
          f1 := by rw [← f1]; exact hb6.frozen (p := ⟨bb, 1, none⟩) hbl
          sz := by simp
          row := own_same (T := fun b => (Value.slice na o.length nc).ownBlock = some b) hrow ((Chg.of_below (T := fun _ => False) hb6).same fun k hk => ⟨own_lt hrow k hk, fun e => e⟩) (fun b h => h)
          map := hr4.below hb6
          chg := Chg.of_below hb6
          hr := .inl hr1
          rb := hr2
          rn := hr3
          rx := by omega }
      generalize args.getD 0 (-1) = k0 at *
      generalize args.getD 1 (-1) = k1 at *
      generalize args.getD 2 (-1) = k2 at *
      clear hT hb hx hv hav ha1 ha2 hx3 hr4 hq hm hrow hr1 hr2 hr3
      go_enter Try.func67, Try.ntmps67
      go_wp2_with fail
      go_region
      clear hcp
      go_wp2_with fail
      go_region
      clear hlook
      have heq : ∀ w : World, (binOp .eql 104 (.map (some r)) (.map none)).run Try.prog w = .ok (.bool false) w := fun _ => by kernel_rfl
      go_wp2_with fail
      clear heq
      generalize (((w.alloc (.cells #[.int .i64 op, .int .i64 width, .int .i64 flags, .slice aa args.length ac, .int .u32 imm] 47)).alloc (.cells #[.int .i64 op, .int .i64 width, .int .u32 imm, .int .i64 k0, .int .i64 k1, .int .i64 k2] 131)).drew.drew) = w7 at *
      have hmid := HMID.out
      have hmd : MapIs Try.prog 131 w7.drew r (entK o) := hmid.map
      have hk7 : keyV ⟨op, width, flags, args, imm⟩ = .agg #[.int .i64 op, .int .i64 width, .int .u32 imm, .int .i64 k0, .int .i64 k1, .int .i64 k2] := HKV.out
      obtain ⟨w8, hup, hw8⟩ : ∃ w8, (Instr.mapUpdate 104 (.map (some r)) (keyV ⟨op, width, flags, args, imm⟩) (.int .i64 (o.length : Int))).run Try.prog w7.drew = .ok () w8 ∧ w8 = setMap w7.drew r (ents (entK o ++ [(keyV ⟨op, width, flags, args, imm⟩, .int .i64 (o.length : Int))])) ((entK o).length + 1) :=
        ⟨_, update_new lawKey Try.underlying104 hmd HQ.out HMISS.out, rfl⟩
      rw [hk7] at hup
      clear hk7
      have hM : MapIs Try.prog 131 w8 r (entK (o ++ [⟨op, width, flags, args, imm⟩])) := by
        rw [hw8, entK_snoc]
        exact MapIs.new hmd HQ.out HMISS.out
      have hC : Chg (fun b => b = r) w7 w8 := by rw [hw8]; exact ((Chg.refl (fun b => b = r) w7).drew).setMap (b := r) rfl _ _
      have hz8 : w8.heap.size = w7.heap.size := by rw [hw8, size_setMap]; rfl
      have hs7 := hmid.sz
      have rx1 := hmid.rx.1
      have rb1 := hmid.rb
      have hnb : some bb ≠ (Value.slice na o.length nc).ownBlock := fun e => (HRW.out bb e.symm).2 rfl
      have hbl7 : bb < w7.heap.size := by omega
      have x0 := hC.cell (fun e => rx1 e.symm) hmid.x0
      have x1 := hC.cell (fun e => rx1 e.symm) hmid.x1
      have x2 := hC.cell (fun e => rx1 e.symm) hmid.x2
      have x3 := hC.cell (fun e => rx1 e.symm) hmid.x3
      have x4 := hC.cell (fun e => rx1 e.symm) hmid.x4
      have y0 := hmid.y0
      have y1 := hmid.y1
      have y2 := hmid.y2
      have y3 := hmid.y3
      have y4 := hmid.y4
      have y5 := hmid.y5
      have c70 := hmid.c0
      have c71 := hmid.c1
      have c80 := hC.cell (fun e => rb1 e.symm) hmid.c0
      have f80 : w8.frozen? ⟨bb, 0, none⟩ = false := by rw [hC.frozen (fun e => rb1 e.symm) hbl7]; exact hmid.f0
      have HC81 := Lib.hid (hC.cell (fun e => rb1 e.symm) hmid.c1)
      have HF81 : Hid (w8.frozen? ⟨bb, 1, none⟩ = false) := by
        show _ = _
        rw [hC.frozen (fun e => rb1 e.symm) hbl7]; exact hmid.f1
      have HROW : Hid (w8.ownsRow 0 47 5 (.slice na o.length nc) o.length (rowsC o avs)) := own_same (T := fun b => (Value.slice na o.length nc).ownBlock = some b) hmid.row (hC.same fun k hk => ⟨own_lt hmid.row k hk, fun e => hmid.rn (e ▸ hk)⟩) (fun b h => h)
      have HM := Lib.hid hM
      have HC : Hid (Chg (fun b => W b) w w8) := hmid.chg.trans hC (fun k hk h => by subst h; rcases hmid.hr with h | h; exact h; omega)
      have hs8 : w.heap.size + 1 < w8.heap.size := by omega
      have hle8 : w7.heap.size ≤ w8.heap.size := by omega
      clear hM hC hw8 hmid rx1 rb1 hmd hz8
      go_region
      clear hup y0 y1 y2 y3 y4 y5 c70 c71
      go_wp2_with fail
      have hfz : ∀ ob, (w8.alloc ob).frozen? ⟨bb, 0, none⟩ = false := fun ob => by rw [← f80]; exact ((Below.refl _ _).alloc (Nat.le_refl _) ob).frozen (p := ⟨bb, 0, none⟩) (by simp; omega)
      have hcz : ∀ ob, (w8.alloc ob).drew.cell? ⟨bb, 0, none⟩ = some (.slice na o.length nc) := fun ob => below_cell (B := w8.heap.size) (((Below.refl _ _).alloc (Nat.le_refl _) ob).drew) (by omega) c80
      have hfz2 : ∀ ob, (w8.alloc ob).drew.frozen? ⟨bb, 0, none⟩ = false := hfz
      go_region_law ((refine step_append_lies _ (by rfl) _ _ _ (by rfl) 0 47 i0 _ 5 56 Try.underlying22 hi0 hz0 hz1 hz2 rfl (by omega) (.slice na o.length nc) o.length (rowsC o avs) (by rfl) (((HROW.out).alloc _).drew) ⟨w8.heap.size, 0, none⟩ 1 1 [.int .i64 op, .int .i64 width, .int .i64 flags, .slice aa args.length ac, .int .u32 imm] (by rfl) (by rfl) (World.news_of_block (cs := #[.int .i64 op, .int .i64 width, .int .i64 flags, .slice aa args.length ac, .int .u32 imm]) (t := 47) (fr := (0, 0)) (heap_alloc_new w8 _)) (by simp [Value.oneCell']) (by omega) (by unfold maxLen; omega) (by omega) (Nat.zero_le _) (w8.heap.size + 1) (by simp) ?_; intro gg cap w1 hown1 hgrow hat hlt; have G0 := (hgrow.cell_far ⟨bb, 0, none⟩ (by simp; omega) hnb).trans (hcz _); have G1 := (hgrow.frozen_far ⟨bb, 0, none⟩ (by simp; omega) hnb).trans (hfz2 _)))
      all_goals
        clear hfz hfz2 hcz
        go_wp2_with fail
        go_ret
        rw [HST.out]
        have hmid := HMID.out
        obtain ⟨T', t1, t2, t3⟩ := add_done (x := ⟨op, width, flags, args, imm⟩) (av := .slice aa args.length ac) HB.out HX.out HV.out (fun b hb => ⟨fun h => (HAV.out b hb).1 ((HT.out b).2 (.inl h)), fun h => (HAV.out b hb).1 ((HT.out b).2 (.inr h)), (HAV.out b hb).2⟩) HC.out c80 HC81.out f80 HF81.out HM.out hmid.hr hmid.rb hmid.rn
          (Chg.trans (Chg.of_below (T := fun b => (Value.slice na o.length nc).ownBlock = some b) (((Below.refl _ _).alloc (Nat.le_refl _) _).drew)) (Chg.of_grown hgrow (fun k hk => hk)) (fun _ _ h => h)) hown1 (hat.elim (fun h => .inl h.symm) (fun h => .inr ⟨gg, rfl, by omega⟩))
        exact ⟨rfl, T', t1, fun b h => (t2 b h).imp_left (HT.out b).2, t3.mono fun k _ h => (HT.out k).2 (.inl h)⟩
end Go.Proofs.Ythopdfikikdcbaa
/- Walk of share: the nodes that lead to a node, in new memory. -/
namespace Go.Proofs.Ythopdfikikdcbaa
open Go.RowKit Go.Maps Wd
set_option linter.unusedVariables false
set_option linter.unusedSimpArgs false
def cnt (l : List Int) : Nat := l.countP fun x => decide (0 ≤ x)
theorem cnt_le (l : List Int) : cnt l ≤ l.length := List.countP_le_length
theorem cnt_set : ∀ (l : List Int) (k : Nat) (x : Int), k < l.length → gno l k < 0 → 0 ≤ x → cnt (l.set k x) = cnt l + 1
  | [], k, x, h, _, _ => by simp at h
  | a :: l, 0, x, _, h, hx => by
    have ha : a < 0 := h
    simp [cnt, hx, show ¬ 0 ≤ a by omega]
  | a :: l, k + 1, x, h, hn, hx => by
    have := cnt_set l k x (by simpa using h) (by simpa [gno] using hn) hx
    simp only [cnt, List.set_cons_succ, List.countP_cons] at this ⊢
    omega
theorem cnt_repl (n : Nat) : cnt (List.replicate n (-1)) = 0 := by
  unfold cnt; rw [List.countP_replicate]; simp
/-- The builder's own step keeps this, whatever the builder had. -/
structure JA (B : Nat) (ts : List Nd) (o : List Nd) (nos : List Int) : Prop where
  len : nos.length = ts.length
  rng : ∀ k, 0 ≤ gno nos k → gno nos k < o.length
  sz : o.length ≤ B + cnt nos
theorem gjJA (B : Nat) (ts : List Nd) : GJ stepA ts (JA B ts) :=
  ⟨fun h => h.len, fun {s nos k} h hk hu _ => by
    obtain ⟨l, hl⟩ := @addN_ext s (gnd ts k nos)
    have h1 : (stepA s (gnd ts k nos)).1 = s ++ l := hl
    have h2 : (stepA s (gnd ts k nos)).2 < ((stepA s (gnd ts k nos)).1.length : Int) := by
      have := @addN_len s (gnd ts k nos)
      show ((addN s (gnd ts k nos)).2 : Int) < ((addN s (gnd ts k nos)).1.length : Int)
      omega
    have h0 : 0 ≤ (stepA s (gnd ts k nos)).2 := by show (0 : Int) ≤ ((addN _ _).2 : Int); omega
    have h3 : (stepA s (gnd ts k nos)).1.length ≤ s.length + 1 := by
      show (addN s (gnd ts k nos)).1.length ≤ _
      unfold addN; split <;> simp
    have hkn : k < nos.length := by rw [h.len]; exact hk
    refine ⟨⟨by rw [List.length_set]; exact h.len, fun j hj => ?_, ?_⟩, h0⟩
    · by_cases e : k = j
      · subst e; rw [gno_set_self hkn]; exact h2
      · rw [gno_set_ne e] at hj ⊢
        have := h.rng j hj
        rw [h1, List.length_append]; omega
    · rw [cnt_set nos k _ hkn hu h0]
      have := h.sz
      omega⟩
theorem ja_start (B : Nat) (ts o : List Nd) (h : o.length ≤ B) : JA B ts o (List.replicate ts.length (-1)) :=
  ⟨by simp, fun k hk => by rw [gno_repl] at hk; omega, by rw [cnt_repl]; omega⟩
/-- A node of a valid term. -/
structure NdV (x : Nd) : Prop where
  op : Sml x.op
  width : Sml x.width
  flags : x.flags = 0
  len : x.args.length ≤ 3
  imm : 0 ≤ x.imm ∧ x.imm ≤ 4294967295
theorem gnd_key {B : Nat} {ts o : List Nd} {nos : List Int} {k : Nat} (hx : NdV (nd ts k)) (hj : JA B ts o nos) (hB : B + ts.length ≤ 100000) (ht : ∀ a ∈ (nd ts k).args, 0 ≤ gno nos a.toNat) : NdK (gnd ts k nos) where
  op := hx.op
  width := hx.width
  flags := hx.flags
  len := by unfold gnd gn; simp only; rw [List.length_map]; exact hx.len
  args := fun a ha => by
    obtain ⟨b, hb, rfl⟩ := List.mem_map.1 (show a ∈ (nd ts k).args.map fun a => gno nos a.toNat from ha)
    have h1 := ht b hb
    have h2 := hj.rng _ h1
    have h3 := hj.sz
    have h4 := cnt_le nos
    have h5 := hj.len
    exact ⟨h1, by omega⟩
  imm := hx.imm
theorem iok_bld (bb : Nat) : IOk (Bld bb) := ⟨fun h hs => h.same hs, fun h => h.lt⟩
theorem made_add (bb B : Nat) (ts : List Nd) (w0 : World) (hB : B + ts.length ≤ 100000) (hv : ∀ k, k < ts.length → NdV (nd ts k)) :
    MadeOk stepA (Bld bb) (JA B ts) ts w0 67 #[.pointer (some ⟨bb, 0, none⟩)] #[] := by
  intro s nos k T w av hj hk hu ht hi hF hav hTB hb
  have h1 := hj.sz
  have h2 := cnt_le nos
  have h3 := hj.len
  exact add_any bb s T (gnd ts k nos) av w hi (gnd_key (hv k hk) hj hB ht) hF (fun b hb => ⟨(hav b hb).1, (hav b hb).2.1⟩) (by omega)
theorem callf_add (args : Array Value) (w : World) : (callFunc 67 args).run Try.prog w = .ok (.enter 67 args) w := by kernel_rfl
/-- What share returns: a builder's nodes, all in new memory. -/
def ShrIs (w w' : World) (v : Value) (o : List Nd) : Prop :=
  ∃ bb W R fv avs, BSt bb o W R w' v fv avs ∧ (∀ b, W b ∨ R b → w.heap.size ≤ b) ∧ Below w.heap.size w w'
set_option maxRecDepth 100000 in
set_option maxHeartbeats 1000000 in
theorem share_any (ts : List Nd) (tv : Value) (w : World) (k : Nat) (hts : Nds w tv ts) (hd : Down ts) (hv : ∀ k, k < ts.length → NdV (nd ts k)) (hk : k < ts.length) (hl : ts.length ≤ 100000) :
    Calls Try.prog 53 #[tv, .int .i64 (k : Int)] w fun e w' => ∃ v, e = .returned v ∧ ShrIs w w' v (shr ts k) := by
  have HTS := Lib.hid hts
  have hb2 : Below w.heap.size w ((w.alloc (.cells #[.slice none 0 0, .map none] 106)).alloc (.map #[] 0)) := ((Below.refl _ _).alloc (Nat.le_refl _) _).alloc (by simp) _
  have hbld : Bld w.heap.size [] (fun b => b = w.heap.size) ((w.alloc (.cells #[.slice none 0 0, .map none] 106)).alloc (.map #[] 0)) := by
    have hb1 : Below (w.alloc (.cells #[.slice none 0 0, .map none] 106)).heap.size (w.alloc (.cells #[.slice none 0 0, .map none] 106)) ((w.alloc (.cells #[.slice none 0 0, .map none] 106)).alloc (.map #[] 0)) := (Below.refl _ _).alloc (Nat.le_refl _) _
    refine ⟨fun b => b = w.heap.size, fun _ => False, .slice none 0 0, .map none, [], fun b => by simp, ?_⟩
    exact {
      b0 := below_cell hb1 (by simp) (by simp [go_sem])
      b1 := below_cell hb1 (by simp) (by simp [go_sem])
      f0 := by rw [hb1.frozen (p := ⟨w.heap.size, 0, none⟩) (by simp)]; simp [go_sem]
      f1 := by rw [hb1.frozen (p := ⟨w.heap.size, 1, none⟩) (by simp)]; simp [go_sem]
      Wb := rfl
      Wlt := fun b h => by subst h; simp; omega
      Rlt := fun b h => h.elim
      WR := fun b _ h => h
      row := World.ownsRow_nil _ _ _ _
      rowW := fun b h => by cases h
      len := rfl
      args := fun i hi => absurd hi (by simp)
      kn := fun x hx => by cases hx
      map := .inl ⟨rfl, rfl⟩ }
  have hseen : SeenIs ((w.alloc (.cells #[.slice none 0 0, .map none] 106)).alloc (.map #[] 0)) (w.heap.size + 1) (List.replicate ts.length (-1)) := by
    have := SeenIs.made (w := w.alloc (.cells #[.slice none 0 0, .map none] 106)) (n := ts.length) (by omega)
    rw [show (w.alloc (.cells #[.slice none 0 0, .map none] 106)).heap.size = w.heap.size + 1 by simp] at this
    exact this
  have HC := Lib.hid (fun bv => from_any (step := stepA) (I := Bld w.heap.size) (J := JA 0 ts) ts tv bv w _ _ _ callf_add hd (gjJA 0 ts) (iok_bld w.heap.size) hts (fun k hk => by have := (hv k hk).len; omega) (made_add w.heap.size 0 ts w (by omega) hv) (k + 1) k [] (List.replicate ts.length (-1)) (fun b => b = w.heap.size) _ (w.heap.size + 1) (by omega) hk (ja_start 0 ts [] (by simp)) hbld hseen (by omega) (by omega) (fun b h => by omega) hb2)
  have HE := Lib.hid (gvis_shr hd hk)
  clear hbld hseen hts hd hv
  obtain ⟨hmk⟩ : Nonempty (∀ w : World, (Instr.makeMap 108 none).run Try.prog w = .ok (.map (some w.heap.size)) (w.alloc (.map #[] 0))) := ⟨fun _ => by kernel_rfl⟩
  have HB2 := Lib.hid hb2
  clear hb2
  go_enter Try.func53, Try.ntmps53
  go_wp2_with fail
  refine (HC.out _).mono ?_
  rintro e w' ⟨rfl, T', hB, hS, hT, hch⟩
  rw [HE.out] at hB
  obtain ⟨W, R, nv, fv, avs, hW, hb⟩ := hB
  have hc := hb.b0
  have HB := Lib.hid hb
  have HW := Lib.hid hW
  have HT := Lib.hid hT
  have HCH := Lib.hid hch
  clear hb hW hT hch hS hmk
  go_wp2_with fail
  go_ret
  refine ⟨nv, rfl, w.heap.size, W, R, fv, avs, HB.out, fun b h => ?_, HB2.out.trans (HCH.out.below (by simp; omega) fun j hj => by omega)⟩
  rcases HT.out b ((HW.out b).2 h) with h | h
  · omega
  · simp at h; omega
end Go.Proofs.Ythopdfikikdcbaa
/- Joined terms: the plain law. -/
namespace Go.Proofs.Ythopdfikikdcbaa
open Go.RowKit Wd
set_option linter.unusedVariables false
set_option linter.unusedSimpArgs false
theorem gvis_T {ts : List Nd} (hd : Down ts) (B : Nat) : ∀ (f k : Nat) (s : St), k < f → k < ts.length → JA B ts s.out s.nos → gvis stepA ts f k (s.out, s.nos) = ((visit ts f k s).out, (visit ts f k s).nos)
  | 0, k, s, h, _, _ => absurd h (by omega)
  | f + 1, k, s, hf, hk, hj => by
    unfold gvis visit
    by_cases ht : s.told k
    · rw [if_pos ht, if_pos (show 0 ≤ gno s.nos k from ht)]
    · rw [if_neg ht, if_neg (show ¬ 0 ≤ gno s.nos k from ht)]
      have key : ∀ (l : List Int) (s : St), (∀ a ∈ l, 0 ≤ a ∧ a < (k : Int)) → JA B ts s.out s.nos →
          (gargs (gvis stepA ts f) l (s.out, s.nos)).1 = ((l.foldl (fun s a => visit ts f a.toNat s) s).out, (l.foldl (fun s a => visit ts f a.toNat s) s).nos) := by
        intro l
        induction l with
        | nil => intro s _ _; rfl
        | cons a l ih =>
          intro s hr hj
          have ha := hr a (List.mem_cons_self ..)
          have e := gvis_T hd B f a.toNat s (by omega) (by omega) hj
          have hok := (gvis_ok hd (gjJA B ts) f a.toNat (s.out, s.nos) (by omega) (by omega) hj).1.j
          show (gargs (gvis stepA ts f) l (gvis stepA ts f a.toNat (s.out, s.nos))).1 = _
          rw [e] at hok ⊢
          rw [List.foldl_cons]
          exact ih _ (fun b hb => hr b (List.mem_cons_of_mem _ hb)) hok
      obtain ⟨w1, e1, t1⟩ := gvis_args (f := f) hd (gjJA B ts) (by omega) hk (c := (s.out, s.nos)) hj (nd ts k).args (hd k hk)
      rw [gput_eq (c := (s.out, s.nos)) e1, key _ s (hd k hk) hj]
      rfl
theorem inv_fresh {o ts : List Nd} (h : Good o) : InvT ts ⟨o, List.replicate ts.length (-1)⟩ := by
  have hn : ∀ k, ¬ (St.told ⟨o, List.replicate ts.length (-1)⟩ k) := fun k => by
    show ¬ 0 ≤ gno (List.replicate ts.length (-1)) k
    rw [gno_repl]; omega
  exact ⟨h, by simp, fun k hk => absurd hk (hn k), fun k hk => absurd hk (hn k)⟩
/-- What from does with a fresh map. -/
theorem from_ins {ts o : List Nd} (hd : Down ts) {B k : Nat} (hk : k < ts.length) (ho : Good o) (hB : o.length ≤ B) :
    (gvis stepA ts (k + 1) k (o, List.replicate ts.length (-1))).1 = (insT (tree ts k) o).1 ∧ gno (gvis stepA ts (k + 1) k (o, List.replicate ts.length (-1))).2 k = ((insT (tree ts k) o).2 : Int) := by
  have e := gvis_T hd B (k + 1) k ⟨o, List.replicate ts.length (-1)⟩ (by omega) hk (ja_start B ts o hB)
  have v := vis_ins hd k ⟨o, List.replicate ts.length (-1)⟩ hk (inv_fresh ho)
  have h0 : 0 ≤ (vis ts k ⟨o, List.replicate ts.length (-1)⟩).no k := v.told
  have h1 := v.ins
  rw [e, h1]
  refine ⟨rfl, ?_⟩
  show (vis ts k ⟨o, List.replicate ts.length (-1)⟩).no k = (((vis ts k ⟨o, List.replicate ts.length (-1)⟩).no k).toNat : Int)
  omega
theorem insL_snoc (t : Tr) : ∀ (l : List Tr) (o : List Nd), insL (l ++ [t]) o = ((insT t (insL l o).1).1, (insL l o).2 ++ [((insT t (insL l o).1).2 : Int)])
  | [], o => by rw [List.nil_append, insL_cons, insL_nil, insL_nil]; rfl
  | a :: l, o => by rw [List.cons_append, insL_cons, insL_snoc t l, insL_cons]; rfl
def trs (pts : List (List Nd)) : List Tr := pts.map fun p => tree p (p.length - 1)
theorem trs_take (pts : List (List Nd)) (j : Nat) (h : j < pts.length) : trs (pts.take (j + 1)) = trs (pts.take j) ++ [tree (pts.getD j []) ((pts.getD j []).length - 1)] := by
  unfold trs
  rw [List.take_succ_eq_append_getElem h, List.map_append, List.getD_eq_getElem?_getD, List.getElem?_eq_getElem h]; rfl
def joinO (pts : List (List Nd)) : List Nd := (insL (trs pts) []).1
def joinA (pts : List (List Nd)) : List Int := (insL (trs pts) []).2
def joinT (op width imm : Int) (pts : List (List Nd)) : Tr := .mk op width 0 (trs pts) imm
def outJ (op width imm : Int) (pts : List (List Nd)) : List Nd := (insT (joinT op width imm pts) []).1
theorem joinA_len (pts : List (List Nd)) : (joinA pts).length = pts.length := by
  have := (putL (trs pts) [] Good.nil).len
  unfold joinA
  rw [this]; unfold trs; simp
theorem joinO_good (pts : List (List Nd)) : Good (joinO pts) := (putL (trs pts) [] Good.nil).good
theorem joinA_rng (pts : List (List Nd)) : ∀ a ∈ joinA pts, 0 ≤ a ∧ a < ((joinO pts).length : Int) := (putL (trs pts) [] Good.nil).rng
theorem join_next (pts : List (List Nd)) (j : Nat) (h : j < pts.length) :
    joinO (pts.take (j + 1)) = (insT (tree (pts.getD j []) ((pts.getD j []).length - 1)) (joinO (pts.take j))).1 ∧
    joinA (pts.take (j + 1)) = joinA (pts.take j) ++ [((insT (tree (pts.getD j []) ((pts.getD j []).length - 1)) (joinO (pts.take j))).2 : Int)] := by
  unfold joinO joinA
  rw [trs_take pts j h, insL_snoc]
  exact ⟨rfl, rfl⟩
theorem outJ_add (op width imm : Int) (pts : List (List Nd)) : insT (joinT op width imm pts) [] = addN (joinO pts) ⟨op, width, 0, joinA pts, imm⟩ := by
  unfold joinT; rw [insT_mk]; rfl
/-- The builder's nodes, shared from the root. -/
theorem join_share (op width imm : Int) (pts : List (List Nd)) : shr (addN (joinO pts) ⟨op, width, 0, joinA pts, imm⟩).1 (addN (joinO pts) ⟨op, width, 0, joinA pts, imm⟩).2 = outJ op width imm pts := by
  have h := put1 (joinT op width imm pts) [] Good.nil
  rw [← outJ_add, shr_ins h.good.down h.lt, h.tr]
  rfl
theorem Tr.down_insT (t : Tr) : Down (insT t []).1 := (put1 t [] Good.nil).good.down
/-- How many nodes more a term of k nodes brings. -/
theorem ins_len {ts o : List Nd} (hd : Down ts) {k : Nat} (hk : k < ts.length) (ho : Good o) : (insT (tree ts k) o).1.length ≤ o.length + ts.length := by
  have hj := (gvis_ok hd (gjJA o.length ts) (k + 1) k (o, List.replicate ts.length (-1)) (by omega) hk (ja_start o.length ts o (Nat.le_refl _))).1.j
  rw [← (from_ins hd hk ho (Nat.le_refl _)).1]
  have h1 := hj.sz
  have h2 := cnt_le (gvis stepA ts (k + 1) k (o, List.replicate ts.length (-1))).2
  have h3 := hj.len
  omega
theorem joinO_len (pts : List (List Nd)) (hv : ∀ p ∈ pts, valE p = 0) : ∀ j, j ≤ pts.length → (joinO (pts.take j)).length ≤ 300 * j
  | 0, _ => by simp [joinO, trs, insL_nil]
  | j + 1, h => by
    have ih := joinO_len pts hv j (by omega)
    have hp : valE (pts.getD j []) = 0 := hv _ (mem_getD (by omega))
    obtain ⟨v1, v2, _⟩ := valid_facts hp
    have := ins_len (valid_down hp) (show (pts.getD j []).length - 1 < (pts.getD j []).length by omega) (joinO_good (pts.take j))
    rw [(join_next pts j (by omega)).1]
    omega
/-- The first error of the parts. -/
def firstE (pts : List (List Nd)) : Int := match pts.find? (fun p => valE p != 0) with | some p => valE p | none => 0
theorem firstE_hit {pts : List (List Nd)} {j : Nat} (hj : j < pts.length) (h : ∀ i, i < j → valE (pts.getD i []) = 0) (hb : valE (pts.getD j []) ≠ 0) : firstE pts = valE (pts.getD j []) := by
  unfold firstE
  have e : pts = pts.take j ++ pts.getD j [] :: pts.drop (j + 1) := by
    conv => lhs; rw [← List.take_append_drop j pts]
    rw [List.drop_eq_getElem_cons hj, List.getD_eq_getElem?_getD, List.getElem?_eq_getElem hj]; rfl
  have hn : List.find? (fun p => valE p != 0) (pts.take j) = none := by
    rw [List.find?_eq_none]
    intro p hp
    obtain ⟨i, hi, rfl⟩ := List.getElem_of_mem hp
    rw [List.length_take] at hi
    have := h i (by omega)
    rw [List.getD_eq_getElem?_getD, List.getElem?_eq_getElem (by omega)] at this
    rw [List.getElem_take]
    have h2 : valE pts[i] = 0 := this
    simp [h2]
  rw [e, List.find?_append, hn, List.find?_cons_of_pos (by simpa using hb)]
  simp only [Option.none_or]
  rw [← e]
theorem firstE_none {pts : List (List Nd)} (h : ∀ i, i < pts.length → valE (pts.getD i []) = 0) : firstE pts = 0 := by
  unfold firstE
  have hn : List.find? (fun p => valE p != 0) pts = none := by
    rw [List.find?_eq_none]
    intro p hp
    obtain ⟨i, hi, rfl⟩ := List.getElem_of_mem hp
    have := h i hi
    rw [List.getD_eq_getElem?_getD, List.getElem?_eq_getElem hi] at this
    have h2 : valE pts[i] = 0 := this
    simp [h2]
  rw [hn]
/-- The error of Join. -/
def joinE (op width imm : Int) (pts : List (List Nd)) : Int := if firstE pts ≠ 0 then firstE pts else if arV op = -1 then 1 else valE (outJ op width imm pts)
def joinL (op width imm : Int) (pts : List (List Nd)) : List Nd := if joinE op width imm pts = 0 then outJ op width imm pts else []
/-- A root of more than three Args. -/
theorem join_many {op width imm : Int} {pts : List (List Nd)} (h3 : 3 < pts.length) (ha : arV op ≠ -1) (hK : ∀ x ∈ joinO pts, x.args.length ≤ 3) : valE (outJ op width imm pts) = if 300 ≤ (joinO pts).length then 3 else 1 := by
  have hnew : (⟨op, width, 0, joinA pts, imm⟩ : Nd) ∉ joinO pts := fun hm => by
    have h1 := hK _ hm
    have h2 := joinA_len pts
    simp only at h1
    omega
  have hout : outJ op width imm pts = joinO pts ++ [⟨op, width, 0, joinA pts, imm⟩] := by
    show (insT (joinT op width imm pts) []).1 = _
    rw [outJ_add]; unfold addN; rw [if_neg hnew]
  rw [hout]
  by_cases c : 300 ≤ (joinO pts).length
  · rw [if_pos c]; exact valE_3 (by simp; omega)
  · rw [if_neg c]
    refine valE_1 (by simp; omega) (okS_bad (j := (joinO pts).length) (by simp) ?_)
    rw [Bool.eq_false_iff]
    intro hs
    rw [List.getD_eq_getElem?_getD, List.getElem?_append_right (Nat.le_refl _), Nat.sub_self] at hs
    have h1 := (shaped_facts hs).1
    have h2 := joinA_len pts
    have h4 := arV_cases op
    change ((joinA pts).length : Int) = arV op at h1
    omega

/-! ### the answer's way: all nodes one behind the other -/
def ovr (p : List Nd) (n : Nat) : List Nd := p.map fun x => ⟨x.op, x.width, x.flags, x.args.map (· + (n : Int)), x.imm⟩
theorem ovr_len (p : List Nd) (n : Nat) : (ovr p n).length = p.length := by unfold ovr; simp
theorem ovr_nd {p : List Nd} {n k : Nat} (h : k < p.length) : (ovr p n).getD k default = ⟨(nd p k).op, (nd p k).width, (nd p k).flags, (nd p k).args.map (· + (n : Int)), (nd p k).imm⟩ := by
  unfold ovr nd
  rw [List.getD_eq_getElem?_getD, List.getElem?_map, List.getD_eq_getElem?_getD, List.getElem?_eq_getElem h]; rfl
theorem nd_ovr {o p : List Nd} {k : Nat} (h : k < p.length) : nd (o ++ ovr p o.length) (o.length + k) = ⟨(nd p k).op, (nd p k).width, (nd p k).flags, (nd p k).args.map (· + (o.length : Int)), (nd p k).imm⟩ := by
  rw [← ovr_nd h]
  unfold nd
  rw [List.getD_eq_getElem?_getD, List.getElem?_append_right (by omega), List.getD_eq_getElem?_getD]
  congr 2
  omega
theorem down_ovr {o p : List Nd} (ho : Down o) (hp : Down p) : Down (o ++ ovr p o.length) := by
  intro k hk a ha
  rw [List.length_append, ovr_len] at hk
  by_cases h : k < o.length
  · rw [nd_pre h] at ha; exact ho k h a ha
  · obtain ⟨j, rfl⟩ : ∃ j, k = o.length + j := ⟨k - o.length, by omega⟩
    rw [nd_ovr (by omega)] at ha
    obtain ⟨b, hb, rfl⟩ := List.mem_map.1 (show a ∈ (nd p j).args.map (· + (o.length : Int)) from ha)
    have := hp j (by omega) b hb
    omega
theorem tree_ovr {o p : List Nd} (ho : Down o) (hp : Down p) : ∀ (j : Nat), j < p.length → tree (o ++ ovr p o.length) (o.length + j) = tree p j := by
  intro j
  induction j using Nat.strongRecOn with
  | _ j ih =>
    intro hj
    rw [tree_eq (down_ovr ho hp) (by rw [List.length_append, ovr_len]; omega), tree_eq hp hj, nd_ovr hj]
    simp only [Tr.mk.injEq, true_and, and_true, List.map_map]
    refine List.map_congr_left fun a ha => ?_
    have h := hp j hj a ha
    have e : ((a + (o.length : Int))).toNat = o.length + a.toNat := by omega
    show tree _ ((a + (o.length : Int))).toNat = _
    rw [e]
    exact ih a.toNat (by omega) (by omega)
/-- All nodes of the parts, and where each part ends. -/
def allJ : List (List Nd) → List Nd × List Int
  | pts => pts.foldl (fun c p => (c.1 ++ ovr p c.1.length, c.2 ++ [((c.1.length + p.length : Nat) : Int) - 1])) ([], [])
theorem allJ_next (pts : List (List Nd)) (j : Nat) (h : j < pts.length) : allJ (pts.take (j + 1)) = ((allJ (pts.take j)).1 ++ ovr (pts.getD j []) (allJ (pts.take j)).1.length, (allJ (pts.take j)).2 ++ [(((allJ (pts.take j)).1.length + (pts.getD j []).length : Nat) : Int) - 1]) := by
  unfold allJ
  rw [List.take_succ_eq_append_getElem h, List.foldl_append, List.getD_eq_getElem?_getD, List.getElem?_eq_getElem h]; rfl
structure AllOk (pts : List (List Nd)) (c : List Nd × List Int) : Prop where
  down : Down c.1
  rng : ∀ a ∈ c.2, 0 ≤ a ∧ a < (c.1.length : Int)
  trs : c.2.map (fun a => tree c.1 a.toNat) = trs pts
  len : c.1.length ≤ 300 * pts.length
  cnt : c.2.length = pts.length
  imm : ∀ x ∈ c.1, 0 ≤ x.imm ∧ x.imm ≤ 4294967295
  short : ∀ x ∈ c.1, x.args.length ≤ 3
theorem allJ_ok (pts : List (List Nd)) (hv : ∀ p ∈ pts, valE p = 0) (hI : ∀ p ∈ pts, ∀ x ∈ p, 0 ≤ x.imm ∧ x.imm ≤ 4294967295) : ∀ j, j ≤ pts.length → AllOk (pts.take j) (allJ (pts.take j))
  | 0, _ => ⟨fun k hk => by simp [allJ] at hk, fun a ha => by simp [allJ] at ha, by simp [allJ, Go.Proofs.Ythopdfikikdcbaa.trs], by simp [allJ], by simp [allJ], fun x hx => by simp [allJ] at hx, fun x hx => by simp [allJ] at hx⟩
  | j + 1, h => by
    have ih := allJ_ok pts hv hI j (by omega)
    have hp : valE (pts.getD j []) = 0 := hv _ (mem_getD (by omega))
    have hpi := hI (pts.getD j []) (mem_getD (by omega))
    obtain ⟨v1, v2, _⟩ := valid_facts hp
    have hpd := valid_down hp
    have ht := trs_take pts j (by omega)
    rw [allJ_next pts j (by omega)]
    have hs : ∀ k, k < (pts.getD j []).length → (nd (pts.getD j []) k).args.length ≤ 3 := fun k hk => by
      have ho := nodeOk hp hk
      have hc := arV_cases (nd (pts.getD j []) k).op
      have h1 := ho.len
      change ((nd (pts.getD j []) k).args.length : Int) = arV (nd (pts.getD j []) k).op at h1
      omega
    generalize pts.getD j [] = p at *
    have hmem : ∀ (P : Nd → Prop), (∀ x ∈ (allJ (pts.take j)).1, P x) → (∀ x ∈ p, ∀ l, l.length = x.args.length → P ⟨x.op, x.width, x.flags, l, x.imm⟩) → ∀ x ∈ (allJ (pts.take j)).1 ++ ovr p (allJ (pts.take j)).1.length, P x := by
      intro P h1 h2 x hx
      rcases List.mem_append.1 hx with hx | hx
      · exact h1 x hx
      · obtain ⟨y, hy, rfl⟩ := List.mem_map.1 (show x ∈ p.map _ from hx)
        exact h2 y hy _ (by simp)
    refine ⟨down_ovr ih.down hpd, ?_, ?_, ?_, ?_, hmem _ ih.imm (fun x hx l _ => hpi x hx), hmem _ ih.short (fun x hx l hl => ?_)⟩
    · intro a ha
      simp only [List.length_append, ovr_len]
      rcases List.mem_append.1 ha with ha | ha
      · have := ih.rng a ha; omega
      · simp at ha; omega
    · rw [List.map_append, ht, ← ih.trs]
      congr 1
      · refine List.map_congr_left fun a ha => ?_
        have := ih.rng a ha
        exact tree_pre ih.down _ (by omega)
      · show [tree _ ((((allJ (pts.take j)).1.length + p.length : Nat) : Int) - 1).toNat] = _
        rw [show ((((allJ (pts.take j)).1.length + p.length : Nat) : Int) - 1).toNat = (allJ (pts.take j)).1.length + (p.length - 1) by omega, tree_ovr ih.down hpd _ (by omega)]
    · have := ih.len
      simp only [List.length_append, ovr_len, List.length_take] at this ⊢
      omega
    · have := ih.cnt
      simp only [List.length_append, List.length_singleton, List.length_take] at this ⊢
      omega
    · obtain ⟨i, hi, rfl⟩ := List.getElem_of_mem hx
      have := hs i hi
      unfold nd at this
      rw [List.getD_eq_getElem?_getD, List.getElem?_eq_getElem hi] at this
      rw [hl]; exact this
theorem nd_last (o : List Nd) (x : Nd) : nd (o ++ [x]) o.length = x := by
  unfold nd; rw [List.getD_eq_getElem?_getD, List.getElem?_append_right (Nat.le_refl _), Nat.sub_self]; rfl
theorem down_snoc {o : List Nd} {x : Nd} (ho : Down o) (hx : ∀ a ∈ x.args, 0 ≤ a ∧ a < (o.length : Int)) : Down (o ++ [x]) := by
  intro k hk a ha
  rw [List.length_append, List.length_singleton] at hk
  by_cases h : k < o.length
  · rw [nd_pre h] at ha; exact ho k h a ha
  · obtain rfl : k = o.length := by omega
    rw [nd_last] at ha
    exact hx a ha
theorem tree_snoc {o : List Nd} {x : Nd} (ho : Down o) (hx : ∀ a ∈ x.args, 0 ≤ a ∧ a < (o.length : Int)) : tree (o ++ [x]) o.length = .mk x.op x.width x.flags (x.args.map fun a => tree o a.toNat) x.imm := by
  rw [tree_eq (down_snoc ho hx) (by simp), nd_last]
  congr 1
  refine List.map_congr_left fun a ha => ?_
  have := hx a ha
  exact tree_pre ho _ (by omega)
/-- The answer's nodes, shared from the root. -/
theorem allJ_share (op width imm : Int) {pts : List (List Nd)} (hv : ∀ p ∈ pts, valE p = 0) (hI : ∀ p ∈ pts, ∀ x ∈ p, 0 ≤ x.imm ∧ x.imm ≤ 4294967295) :
    Down ((allJ pts).1 ++ [⟨op, width, 0, (allJ pts).2, imm⟩]) ∧ shr ((allJ pts).1 ++ [⟨op, width, 0, (allJ pts).2, imm⟩]) (allJ pts).1.length = outJ op width imm pts := by
  have h := allJ_ok pts hv hI pts.length (Nat.le_refl _)
  rw [List.take_length] at h
  have hd := down_snoc (x := ⟨op, width, 0, (allJ pts).2, imm⟩) h.down h.rng
  refine ⟨hd, ?_⟩
  rw [shr_ins hd (by simp), tree_snoc h.down h.rng]
  show (insT (Tr.mk op width 0 ((allJ pts).2.map fun a => tree (allJ pts).1 a.toNat) imm) []).1 = _
  rw [h.trs]
  rfl
end Go.Proofs.Ythopdfikikdcbaa
/- A term with another one in the place of a variable: the plain law. -/
namespace Go.Proofs.Ythopdfikikdcbaa
open Go.RowKit Wd
set_option linter.unusedVariables false
set_option linter.unusedSimpArgs false
/-- The variable v is replaced by U. -/
def subG (v : Int) (U : Tr) (op w f : Int) (l : List Tr) (i : Int) : Tr := if op = 33 ∧ i = v then U else .mk op w f l i
def subT (v : Int) (U : Tr) : Tr → Tr := mapT (subG v U)
theorem subT_mk (v : Int) (U : Tr) (op w f : Int) (l : List Tr) (i : Int) : subT v U (.mk op w f l i) = if op = 33 ∧ i = v then U else .mk op w f (l.map (subT v U)) i := by
  unfold subT; rw [mapT_mk]; rfl
theorem subT_tree (v : Int) (U : Tr) {ts : List Nd} (hd : Down ts) {k : Nat} (hk : k < ts.length) :
    subT v U (tree ts k) = if (nd ts k).op = 33 ∧ (nd ts k).imm = v then U else .mk (nd ts k).op (nd ts k).width (nd ts k).flags ((nd ts k).args.map fun a => subT v U (tree ts a.toNat)) (nd ts k).imm := by
  rw [tree_eq hd hk, subT_mk, List.map_map]; rfl
/-- The step of Put: what is added, and what has been told of the other term. -/
def stepP (v : Int) (us : List Nd) (s : List Nd × List Int) (y : Nd) : (List Nd × List Int) × Int :=
  if y.op = 33 ∧ y.imm = v then (gvis stepA us (us.length - 1 + 1) (us.length - 1) s, gno (gvis stepA us (us.length - 1 + 1) (us.length - 1) s).2 (us.length - 1))
  else (((addN s.1 y).1, s.2), ((addN s.1 y).2 : Int))
theorem InvT.grow {us : List Nd} {o l nos : List _} (h : InvT us ⟨o, nos⟩) (hg : Good (o ++ l)) : InvT us ⟨o ++ l, nos⟩ :=
  ⟨hg, h.len, fun k hk => by
    have := h.rng k hk
    show St.no ⟨o, nos⟩ k < ((o ++ l).length : Int)
    simp only [List.length_append] at this ⊢
    have h2 : St.no ⟨o, nos⟩ k < (o.length : Int) := this
    omega, fun k hk => by
    have h2 := h.rng k hk
    have h3 : St.no ⟨o, nos⟩ k < (o.length : Int) := h2
    have h4 : 0 ≤ St.no ⟨o, nos⟩ k := hk
    rw [show tree (St.out ⟨o ++ l, nos⟩) (St.no ⟨o ++ l, nos⟩ k).toNat = tree (o ++ l) (St.no ⟨o, nos⟩ k).toNat from rfl, tree_pre h.good.down _ (by show _ < o.length; omega)]
    exact h.tr k hk⟩
theorem addN_tree {o : List Nd} (ho : Good o) {y : Nd} (hy : ∀ a ∈ y.args, 0 ≤ a ∧ a < (o.length : Int)) : tree (addN o y).1 (addN o y).2 = .mk y.op y.width y.flags (y.args.map fun a => tree o a.toNat) y.imm := by
  have hg := addN_good ho hy
  have hn : nd (addN o y).1 (addN o y).2 = y := addN_get
  obtain ⟨l, hl⟩ := @addN_ext o y
  rw [tree_eq hg.down addN_len, hn]
  congr 1
  refine List.map_congr_left fun a ha => ?_
  have := hy a ha
  rw [hl]
  exact tree_pre ho.down _ (by omega)
/-- What is kept on the way. -/
structure JP (v : Int) (us ts : List Nd) (s : List Nd × List Int) (nos : List Int) : Prop where
  len : nos.length = ts.length
  rng : ∀ k, 0 ≤ gno nos k → gno nos k < s.1.length
  sz : s.1.length ≤ cnt nos + cnt s.2
  tr : ∀ k, 0 ≤ gno nos k → tree s.1 (gno nos k).toNat = subT v (tree us (us.length - 1)) (tree ts k)
  inv : InvT us ⟨s.1, s.2⟩
theorem JP.ja {v : Int} {us ts : List Nd} {s : List Nd × List Int} {nos : List Int} (h : JP v us ts s nos) : JA (cnt nos) us s.1 s.2 :=
  ⟨h.inv.len, fun k hk => h.inv.rng k hk, h.sz⟩
theorem cnt_le_set {l : List Int} {k : Nat} {x : Int} (h : k < l.length) (hn : gno l k < 0) (hx : 0 ≤ x) : cnt (l.set k x) = cnt l + 1 := cnt_set l k x h hn hx
theorem told_set {nos : List Int} {k j : Nat} {x : Int} (hk : k < nos.length) (h : 0 ≤ gno (nos.set k x) j) : j = k ∨ (j ≠ k ∧ 0 ≤ gno nos j ∧ gno (nos.set k x) j = gno nos j) := by
  by_cases e : j = k
  · exact .inl e
  · rw [gno_set_ne (fun h => e h.symm)] at h ⊢
    exact .inr ⟨e, h, rfl⟩
theorem gjP {v : Int} {us ts : List Nd} (hd : Down ts) (hu : Down us) (h0 : 0 < us.length) : GJ (stepP v us) ts (JP v us ts) :=
  ⟨fun h => h.len, fun {s nos k} h hk hun ha => by
    have hkn : k < nos.length := by rw [h.len]; exact hk
    have hop : (gnd ts k nos).op = (nd ts k).op := rfl
    have him : (gnd ts k nos).imm = (nd ts k).imm := rfl
    by_cases hc : (gnd ts k nos).op = 33 ∧ (gnd ts k nos).imm = v
    · have e : stepP v us s (gnd ts k nos) = (gvis stepA us (us.length - 1 + 1) (us.length - 1) s, gno (gvis stepA us (us.length - 1 + 1) (us.length - 1) s).2 (us.length - 1)) := if_pos hc
      have hm : us.length - 1 < us.length := by omega
      have hja := h.ja
      have hT := gvis_T hu (cnt nos) (us.length - 1 + 1) (us.length - 1) ⟨s.1, s.2⟩ (by omega) hm hja
      have hok := (gvis_ok hu (gjJA (cnt nos) us) (us.length - 1 + 1) (us.length - 1) (s.1, s.2) (by omega) hm hja).1.j
      have hv := vis_ins hu (us.length - 1) ⟨s.1, s.2⟩ hm h.inv
      change gvis stepA us (us.length - 1 + 1) (us.length - 1) s = ((vis us (us.length - 1) ⟨s.1, s.2⟩).out, (vis us (us.length - 1) ⟨s.1, s.2⟩).nos) at hT
      change JA (cnt nos) us (gvis stepA us (us.length - 1 + 1) (us.length - 1) s).1 (gvis stepA us (us.length - 1 + 1) (us.length - 1) s).2 at hok
      rw [e, hT]
      rw [hT] at hok
      generalize vis us (us.length - 1) ⟨s.1, s.2⟩ = s' at *
      obtain ⟨l, hl⟩ := hv.ext.out
      have hl' : s'.out = s.1 ++ l := hl
      have ht0 : 0 ≤ s'.no (us.length - 1) := hv.told
      have hr0 := hv.inv.rng _ hv.told
      refine ⟨⟨by rw [List.length_set]; exact h.len, fun j hj => ?_, ?_, fun j hj => ?_, hv.inv⟩, ht0⟩
      · rcases told_set hkn hj with rfl | ⟨e1, e2, e3⟩
        · rw [gno_set_self hkn]; exact hr0
        · rw [e3]
          have := h.rng j e2
          show _ < (s'.out.length : Int)
          rw [hl', List.length_append]; omega
      · show s'.out.length ≤ cnt (nos.set k (s'.no (us.length - 1))) + cnt s'.nos
        rw [cnt_le_set hkn hun ht0]
        have := hok.sz
        show s'.out.length ≤ _
        have h9 : s'.out.length ≤ cnt nos + cnt s'.nos := this
        omega
      · show tree s'.out _ = _
        rcases told_set hkn hj with rfl | ⟨e1, e2, e3⟩
        · rw [gno_set_self hkn, subT_tree v _ hd hk, if_pos (by rw [← hop, ← him]; exact hc)]
          exact hv.inv.tr _ hv.told
        · rw [e3, hl']
          have := h.rng j e2
          rw [tree_pre h.inv.good.down _ (by show _ < s.1.length; omega)]
          exact h.tr j e2
    · have e : stepP v us s (gnd ts k nos) = (((addN s.1 (gnd ts k nos)).1, s.2), ((addN s.1 (gnd ts k nos)).2 : Int)) := if_neg hc
      have hy : ∀ a ∈ (gnd ts k nos).args, 0 ≤ a ∧ a < (s.1.length : Int) := fun a ha' => by
        obtain ⟨b, hb, rfl⟩ := List.mem_map.1 (show a ∈ (nd ts k).args.map fun a => gno nos a.toNat from ha')
        exact ⟨ha b hb, h.rng _ (ha b hb)⟩
      have hg := addN_good h.inv.good hy
      obtain ⟨l, hl⟩ := @addN_ext s.1 (gnd ts k nos)
      have hlt := @addN_len s.1 (gnd ts k nos)
      have hgr := addN_grow s.1 (gnd ts k nos)
      have htr := addN_tree h.inv.good hy
      rw [e]
      refine ⟨⟨by rw [List.length_set]; exact h.len, fun j hj => ?_, ?_, fun j hj => ?_, ?_⟩, by show (0 : Int) ≤ ((addN _ _).2 : Int); omega⟩
      · rcases told_set hkn hj with rfl | ⟨e1, e2, e3⟩
        · rw [gno_set_self hkn]; show ((addN _ _).2 : Int) < ((addN _ _).1.length : Int); omega
        · rw [e3]
          have := h.rng j e2
          show _ < ((addN s.1 (gnd ts k nos)).1.length : Int)
          rw [hl, List.length_append]; omega
      · show (addN s.1 (gnd ts k nos)).1.length ≤ cnt (nos.set k _) + cnt s.2
        rw [cnt_le_set hkn hun (by omega)]
        have := h.sz
        omega
      · show tree (addN s.1 (gnd ts k nos)).1 _ = _
        rcases told_set hkn hj with rfl | ⟨e1, e2, e3⟩
        · rw [gno_set_self hkn, subT_tree v _ hd hk, if_neg (by rw [← hop, ← him]; exact hc)]
          show tree _ ((addN s.1 (gnd ts j nos)).2 : Int).toNat = _
          rw [Int.toNat_natCast, htr]
          show Tr.mk _ _ _ (((nd ts j).args.map fun a => gno nos a.toNat).map fun a => tree s.1 a.toNat) _ = _
          rw [List.map_map]
          congr 1
          refine List.map_congr_left fun a ha' => ?_
          exact h.tr _ (ha a ha')
        · rw [e3, hl]
          have := h.rng j e2
          rw [tree_pre h.inv.good.down _ (by show _ < s.1.length; omega)]
          exact h.tr j e2
      · show InvT us ⟨(addN s.1 (gnd ts k nos)).1, s.2⟩
        rw [hl]
        exact h.inv.grow (by rw [← hl]; exact hg)⟩
theorem jp_start (v : Int) (us ts : List Nd) : JP v us ts ([], List.replicate us.length (-1)) (List.replicate ts.length (-1)) :=
  ⟨by simp, fun k hk => by rw [gno_repl] at hk; omega, by simp, fun k hk => by rw [gno_repl] at hk; omega, inv_fresh Good.nil⟩
/-- The result. -/
def putT (v : Int) (ts us : List Nd) : Tr := subT v (tree us (us.length - 1)) (tree ts (ts.length - 1))
def outP (v : Int) (ts us : List Nd) : List Nd := (insT (putT v ts us) []).1
/-- The builder's nodes, shared from the root. -/
theorem put_share {v : Int} {ts us : List Nd} (hd : Down ts) (hu : Down us) (h0 : 0 < us.length) (h1 : 0 < ts.length) {c : (List Nd × List Int) × List Int}
    (hc : gvis (stepP v us) ts (ts.length - 1 + 1) (ts.length - 1) (([], List.replicate us.length (-1)), List.replicate ts.length (-1)) = c) :
    Down c.1.1 ∧ 0 ≤ gno c.2 (ts.length - 1) ∧ (gno c.2 (ts.length - 1)).toNat < c.1.1.length ∧ shr c.1.1 (gno c.2 (ts.length - 1)).toNat = outP v ts us ∧ c.1.1.length ≤ ts.length + us.length := by
  obtain ⟨hw, ht⟩ := gvis_ok hd (gjP (v := v) hd hu h0) (ts.length - 1 + 1) (ts.length - 1) (([], List.replicate us.length (-1)), List.replicate ts.length (-1)) (by omega) (by omega) (jp_start v us ts)
  rw [hc] at hw ht
  have hj := hw.j
  have hr := hj.rng _ ht
  have htr := hj.tr _ ht
  refine ⟨hj.inv.good.down, ht, by omega, ?_, ?_⟩
  · rw [shr_ins hj.inv.good.down (by show _ < c.1.1.length; omega), htr]; rfl
  · have h2 := hj.sz
    have h3 := cnt_le c.2
    have h4 := cnt_le c.1.2
    have h5 := hj.len
    have h6 : c.1.2.length = us.length := hj.inv.len
    omega

/-! ### the answer's way -/

theorem take_succ_nd' (ts : List Nd) (j : Nat) (h : j < ts.length) : ts.take (j + 1) = ts.take j ++ [ts.getD j default] := by
  rw [List.take_succ_eq_append_getElem h, List.getD_eq_getElem?_getD, List.getElem?_eq_getElem h]; rfl
def rpS (v : Int) (m : Nat) (c : List Nd × List Int) (x : Nd) : List Nd × List Int :=
  if x.op = 33 ∧ x.imm = v then (c.1, c.2 ++ [(m : Int) - 1])
  else (c.1 ++ [⟨x.op, x.width, x.flags, x.args.map fun a => c.2.getD a.toNat 0, x.imm⟩], c.2 ++ [(c.1.length : Int)])
def rp (v : Int) (us ts : List Nd) : List Nd × List Int := ts.foldl (rpS v us.length) (us, [])
theorem rp_next (v : Int) (us ts : List Nd) (j : Nat) (h : j < ts.length) : rp v us (ts.take (j + 1)) = rpS v us.length (rp v us (ts.take j)) (ts.getD j default) := by
  unfold rp
  rw [take_succ_nd' ts j h, List.foldl_append]; rfl
structure RpOk (v : Int) (us ts : List Nd) (j : Nat) (c : List Nd × List Int) : Prop where
  down : Down c.1
  cnt : c.2.length = j
  rng : ∀ k, k < j → 0 ≤ c.2.getD k 0 ∧ c.2.getD k 0 < (c.1.length : Int)
  tr : ∀ k, k < j → tree c.1 (c.2.getD k 0).toNat = subT v (tree us (us.length - 1)) (tree ts k)
  len : c.1.length ≤ us.length + j
theorem getD_snoc_l {l : List Int} {x : Int} {k : Nat} (h : k < l.length) : (l ++ [x]).getD k 0 = l.getD k 0 := by
  rw [List.getD_eq_getElem?_getD, List.getD_eq_getElem?_getD, List.getElem?_append_left h]
theorem getD_snoc_r {l : List Int} {x : Int} {k : Nat} (h : k = l.length) : (l ++ [x]).getD k 0 = x := by
  subst h; rw [List.getD_eq_getElem?_getD, List.getElem?_append_right (Nat.le_refl _), Nat.sub_self]; rfl
theorem rp_ok (v : Int) {us ts : List Nd} (hd : Down ts) (hu : Down us) (h0 : 0 < us.length) : ∀ j, j ≤ ts.length → RpOk v us ts j (rp v us (ts.take j))
  | 0, _ => ⟨hu, rfl, fun k hk => absurd hk (by omega), fun k hk => absurd hk (by omega), Nat.le_refl _⟩
  | j + 1, h => by
    have ih := rp_ok v hd hu h0 j (by omega)
    have hp : ∃ l, (rp v us (ts.take j)).1 = us ++ l := by
      have key : ∀ (l : List Nd) (c : List Nd × List Int), ∃ m, (l.foldl (rpS v us.length) c).1 = c.1 ++ m := by
        intro l
        induction l with
        | nil => intro c; exact ⟨[], by simp⟩
        | cons x l ih2 =>
          intro c
          obtain ⟨m, hm⟩ := ih2 (rpS v us.length c x)
          rw [List.foldl_cons, hm]
          unfold rpS
          split
          · exact ⟨m, rfl⟩
          · exact ⟨[⟨x.op, x.width, x.flags, x.args.map fun a => c.2.getD a.toNat 0, x.imm⟩] ++ m, by simp⟩
      exact key (ts.take j) (us, [])
    rw [rp_next v us ts j (by omega)]
    have hdj := hd j (by omega)
    have hst := subT_tree v (tree us (us.length - 1)) hd (show j < ts.length by omega)
    change ∀ a ∈ (ts.getD j default).args, 0 ≤ a ∧ a < (j : Int) at hdj
    unfold nd at hst
    generalize ts.getD j default = x at *
    generalize rp v us (ts.take j) = c at *
    obtain ⟨l, hl⟩ := hp
    unfold rpS
    by_cases hc : x.op = 33 ∧ x.imm = v
    · rw [if_pos hc]
      rw [if_pos hc] at hst
      refine ⟨ih.down, by simp [ih.cnt], fun k hk => ?_, fun k hk => ?_, by have := ih.len; show c.1.length ≤ _; omega⟩
      · by_cases e : k < j
        · rw [getD_snoc_l (by rw [ih.cnt]; exact e)]; exact ih.rng k e
        · rw [getD_snoc_r (by rw [ih.cnt]; omega), hl, List.length_append]; omega
      · by_cases e : k < j
        · rw [getD_snoc_l (by rw [ih.cnt]; exact e)]; exact ih.tr k e
        · obtain rfl : k = j := by omega
          rw [getD_snoc_r (by rw [ih.cnt]), hst, show ((us.length : Int) - 1).toNat = us.length - 1 by omega, hl, tree_pre hu _ (by omega)]
    · rw [if_neg hc]
      rw [if_neg hc] at hst
      have hrr : ∀ a ∈ x.args.map (fun a => c.2.getD a.toNat 0), 0 ≤ a ∧ a < (c.1.length : Int) := fun a ha => by
        obtain ⟨b, hb, rfl⟩ := List.mem_map.1 ha
        have := hdj b hb
        exact ih.rng _ (by omega)
      refine ⟨down_snoc ih.down hrr, by simp [ih.cnt], fun k hk => ?_, fun k hk => ?_, by have := ih.len; simp only [List.length_append, List.length_singleton]; omega⟩
      · simp only [List.length_append, List.length_singleton]
        by_cases e : k < j
        · rw [getD_snoc_l (by rw [ih.cnt]; exact e)]; have := ih.rng k e; omega
        · rw [getD_snoc_r (by rw [ih.cnt]; omega)]; omega
      · by_cases e : k < j
        · rw [getD_snoc_l (by rw [ih.cnt]; exact e)]
          have h9 := ih.rng k e
          show tree (c.1 ++ [_]) _ = _
          rw [tree_pre ih.down _ (by omega)]
          exact ih.tr k e
        · obtain rfl : k = j := by omega
          rw [getD_snoc_r (by rw [ih.cnt]), hst, Int.toNat_natCast]
          show tree (c.1 ++ [_]) c.1.length = _
          rw [tree_snoc ih.down hrr]
          show Tr.mk _ _ _ ((x.args.map fun a => c.2.getD a.toNat 0).map fun a => tree c.1 a.toNat) _ = _
          rw [List.map_map]
          congr 1
          refine List.map_congr_left fun a ha => ?_
          have := hdj a ha
          exact ih.tr _ (by omega)
/-- The answer's nodes, shared from the root. -/
theorem rp_share (v : Int) {us ts : List Nd} (hd : Down ts) (hu : Down us) (h0 : 0 < us.length) (h1 : 0 < ts.length) :
    Down (rp v us ts).1 ∧ 0 ≤ (rp v us ts).2.getD (ts.length - 1) 0 ∧ ((rp v us ts).2.getD (ts.length - 1) 0).toNat < (rp v us ts).1.length ∧ shr (rp v us ts).1 ((rp v us ts).2.getD (ts.length - 1) 0).toNat = outP v ts us ∧ (rp v us ts).1.length ≤ us.length + ts.length ∧ (rp v us ts).2.length = ts.length := by
  have h := rp_ok v hd hu h0 ts.length (Nat.le_refl _)
  rw [List.take_length] at h
  have h2 := h.rng (ts.length - 1) (by omega)
  have h3 := h.tr (ts.length - 1) (by omega)
  refine ⟨h.down, h2.1, by omega, ?_, h.len, h.cnt⟩
  rw [shr_ins h.down (by omega), h3]; rfl
end Go.Proofs.Ythopdfikikdcbaa
/- The walk with a stack: what holds of its states; plain. -/
namespace Go.Proofs.Ythopdfikikdcbaa
set_option linter.unusedVariables false
set_option linter.unusedSimpArgs false
structure StkOk (ts : List Nd) (st : List Nat) (s : St) : Prop where
  lt : ∀ n ∈ st, n < ts.length
  dec : st.Pairwise (· < ·)
  un : ∀ n ∈ st, gno s.nos n < 0
  len : s.nos.length = ts.length
  sz : s.out.length ≤ cnt s.nos
theorem missing_mem {s : St} {l : List Int} {a : Int} (h : missing s l = some a) : a ∈ l ∧ s.no a.toNat < 0 := by
  unfold missing at h
  have h1 := List.mem_of_find?_eq_some h
  have h2 := List.find?_some h
  exact ⟨h1, by simpa using h2⟩
theorem stk_push {ts : List Nd} {n : Nat} {rest : List Nat} {s : St} {a : Int} (h : StkOk ts (n :: rest) s) (hd : Down ts) (hm : missing s (nd ts n).args = some a) : StkOk ts (a.toNat :: n :: rest) s := by
  obtain ⟨hmem, hneg⟩ := missing_mem hm
  have hn := h.lt n (List.mem_cons_self ..)
  have ha := hd n hn a hmem
  refine ⟨?_, ?_, ?_, h.len, h.sz⟩
  · intro m hm
    rcases List.mem_cons.1 hm with rfl | hm
    · omega
    · exact h.lt m hm
  · rw [List.pairwise_cons]
    refine ⟨fun m hm => ?_, h.dec⟩
    rcases List.mem_cons.1 hm with rfl | hm
    · omega
    · have := (List.pairwise_cons.1 h.dec).1 m hm; omega
  · intro m hm
    rcases List.mem_cons.1 hm with rfl | hm
    · exact hneg
    · exact h.un m hm
theorem addN_len1 (o : List Nd) (y : Nd) : (addN o y).1.length ≤ o.length + 1 := by unfold addN; split <;> simp
theorem stk_pop {ts : List Nd} {n : Nat} {rest : List Nat} {s : St} (h : StkOk ts (n :: rest) s) : StkOk ts rest (tell ts n s) := by
  have hn := h.lt n (List.mem_cons_self ..)
  have hu := h.un n (List.mem_cons_self ..)
  have hnl : n < s.nos.length := by rw [h.len]; exact hn
  refine ⟨fun m hm => h.lt m (List.mem_cons_of_mem _ hm), (List.pairwise_cons.1 h.dec).2, fun m hm => ?_, by show (s.nos.set n _).length = _; rw [List.length_set]; exact h.len, ?_⟩
  · have := (List.pairwise_cons.1 h.dec).1 m hm
    show gno (s.nos.set n _) m < 0
    rw [gno_set_ne (by omega)]
    exact h.un m (List.mem_cons_of_mem _ hm)
  · show (addN s.out (mapN s (nd ts n))).1.length ≤ cnt (s.nos.set n ((addN s.out (mapN s (nd ts n))).2 : Int))
    rw [cnt_set s.nos n _ hnl hu (by omega)]
    have := addN_len1 s.out (mapN s (nd ts n))
    have := h.sz
    omega
theorem stk_step {ts : List Nd} {st : List Nat} {s : St} (h : StkOk ts st s) (hd : Down ts) : StkOk ts (stp ts (st, s)).1 (stp ts (st, s)).2 := by
  cases st with
  | nil => exact h
  | cons n rest =>
    cases hm : missing s (nd ts n).args with
    | some a => rw [stp_some hm]; exact stk_push h hd hm
    | none => rw [stp_none hm]; exact stk_pop h
theorem stk_run {ts : List Nd} (hd : Down ts) {k : Nat} (hk : k < ts.length) : ∀ (t : Nat), StkOk ts (runS ts t ([k], st0 ts)).1 (runS ts t ([k], st0 ts)).2
  | 0 => ⟨fun n hn => by simp [runS] at hn; omega, by simp [runS], fun n hn => by
      have : gno (st0 ts).nos n = -1 := gno_repl _ _
      show gno (st0 ts).nos n < 0
      omega, by simp [runS, st0], by simp [runS, st0]⟩
  | t + 1 => by
    rw [runS_add, runS_one]
    exact stk_step (stk_run hd hk t) hd
theorem dec_len : ∀ (l : List Nat) (lo n : Nat), l.Pairwise (· < ·) → (∀ x ∈ l, lo ≤ x ∧ x < n) → l.length + lo ≤ n ∨ l = []
  | [], lo, n, _, _ => .inr rfl
  | x :: l, lo, n, h, hr => by
    have hx := hr x (List.mem_cons_self ..)
    have h2 := List.pairwise_cons.1 h
    rcases dec_len l (x + 1) n h2.2 (fun y hy => ⟨by have := h2.1 y hy; omega, (hr y (List.mem_cons_of_mem _ hy)).2⟩) with h3 | h3
    · exact .inl (by simp; omega)
    · subst h3; exact .inl (by simp; omega)
theorem StkOk.short {ts : List Nd} {st : List Nat} {s : St} (h : StkOk ts st s) : st.length ≤ ts.length := by
  rcases dec_len st 0 ts.length h.dec (fun x hx => ⟨Nat.zero_le _, h.lt x hx⟩) with h1 | h1
  · omega
  · subst h1; simp
/-- The number of the missing Arg, or -1. -/
def misN (s : St) (l : List Int) : Int := (missing s l).getD (-1)
theorem misN_cons (s : St) (a : Int) (l : List Int) : misN s (a :: l) = if gno s.nos a.toNat < 0 then a else misN s l := by
  unfold misN missing
  rw [List.find?_cons]
  by_cases h : gno s.nos a.toNat < 0
  · rw [if_pos h]
    have : decide (s.no a.toNat < 0) = true := decide_eq_true h
    rw [this]; rfl
  · rw [if_neg h]
    have : decide (s.no a.toNat < 0) = false := decide_eq_false h
    rw [this]
theorem misN_drop (s : St) (l : List Int) (c : Nat) (h : c < l.length) : misN s (l.drop c) = if gno s.nos (l.getD c 0).toNat < 0 then l.getD c 0 else misN s (l.drop (c + 1)) := by
  rw [List.drop_eq_getElem_cons h, misN_cons, List.getD_eq_getElem?_getD, List.getElem?_eq_getElem h]; rfl
theorem misN_some {s : St} {l : List Int} {a : Int} (h : missing s l = some a) : misN s l = a := by unfold misN; rw [h]; rfl
theorem misN_none {s : St} {l : List Int} (h : missing s l = none) : misN s l = -1 := by unfold misN; rw [h]; rfl
theorem shared_end {ts : List Nd} (hd : Down ts) {k : Nat} (hk : k < ts.length) : ∃ T0, (∀ t, t < T0 → (runS ts t ([k], st0 ts)).1 ≠ []) ∧ runS ts T0 ([k], st0 ts) = ([], vis ts k (st0 ts)) := by
  obtain ⟨T, hT⟩ := run_vis hd k (st0 ts) [] hk (st0_inv ts) (st0_told ts k)
  obtain ⟨T0, _, h1, h2⟩ := runS_end T hT
  exact ⟨T0, h2, h1⟩
end Go.Proofs.Ythopdfikikdcbaa
