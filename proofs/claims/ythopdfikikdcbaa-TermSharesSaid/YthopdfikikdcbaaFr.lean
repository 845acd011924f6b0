/- Walk of the builder's from, with any step. -/
import Derived.Test.YthopdfikikdcbaaSeen
import Derived.Test.YthopdfikikdcbaaTj
import Derived.Maps.AppendAt
namespace Go.Proofs.Ythopdfikikdcbaa
open Go.RowKit Go.Maps Wd
set_option linter.unusedVariables false
set_option linter.unusedSimpArgs false
/-- The node as a value, its Args in the slice av. -/
def ndA (x : Nd) (av : Value) : Value := .agg #[.int .i64 x.op, .int .i64 x.width, .int .i64 x.flags, av, .int .u32 x.imm]
section
variable {σ : Type}
/-- What a function that does the step promises. -/
def MadeOk (step : σ → Nd → σ × Int) (I : σ → (Nat → Prop) → World → Prop) (J : σ → List Int → Prop) (ts : List Nd) (w0 : World) (mf : FuncId) (fs cs : Array Value) : Prop :=
  ∀ (s : σ) (nos : List Int) (k : Nat) (T : Nat → Prop) (w : World) (av : Value), J s nos → k < ts.length → gno nos k < 0 → (∀ a ∈ (nd ts k).args, 0 ≤ gno nos a.toNat) → I s T w →
    IntsF w av (gnd ts k nos).args → (∀ b, av.ownBlock = some b → ¬ T b ∧ b < w.heap.size ∧ w0.heap.size ≤ b) → (∀ b, T b → w0.heap.size ≤ b) → Below w0.heap.size w0 w →
    Calls Try.prog mf (fs.push (ndA (gnd ts k nos) av) ++ cs) w fun e w' => e = .returned (.int .i64 (step s (gnd ts k nos)).2) ∧
      ∃ T', I (step s (gnd ts k nos)).1 T' w' ∧ (∀ b, T' b → T b ∨ w.heap.size ≤ b ∨ av.ownBlock = some b) ∧ Chg T w w'
/-- What is kept about the state. -/
structure IOk (I : σ → (Nat → Prop) → World → Prop) : Prop where
  same : ∀ {s : σ} {T : Nat → Prop} {w w' : World}, I s T w → Same T w w' → I s T w'
  lt : ∀ {s : σ} {T : Nat → Prop} {w : World}, I s T w → ∀ b, T b → b < w.heap.size
theorem IOk.chg {I : σ → (Nat → Prop) → World → Prop} (h : IOk I) {s : σ} {T U : Nat → Prop} {w w' : World} (hi : I s T w) (hc : Chg U w w') (hT : ∀ k, T k → ¬ U k) : I s T w' :=
  h.same hi (hc.same fun k hk => ⟨h.lt hi k hk, hT k hk⟩)
/-- The state behind a walk. -/
def FrP (I : σ → (Nat → Prop) → World → Prop) (sm : Nat) (T : Nat → Prop) (w : World) (c : σ × List Int) (w' : World) : Prop :=
  ∃ T', I c.1 T' w' ∧ SeenIs w' sm c.2 ∧ (∀ b, T' b → T b ∨ w.heap.size ≤ b) ∧ Chg (fun b => T b ∨ b = sm) w w'
/-- Within the loop over the Args: W1 is the world at its beginning. -/
def FrL (I : σ → (Nat → Prop) → World → Prop) (sm : Nat) (T : Nat → Prop) (W1 : World) (c : σ × List Int) (v : Value) (wr : World) : Prop :=
  ∃ T', I c.1 T' wr ∧ SeenIs wr sm c.2 ∧ (∀ b, T' b → T b ∨ W1.heap.size ≤ b) ∧ (∀ b, v.ownBlock = some b → ¬ T' b) ∧ Chg (fun b => T b ∨ b = sm) W1 wr
variable {step : σ → Nd → σ × Int} {I : σ → (Nat → Prop) → World → Prop} {J : σ → List Int → Prop}
theorem FrL.next (hI : IOk I) {sm : Nat} {T T' : Nat → Prop} {W1 wr w1 w2 : World} {X : Obj} {c c2 : σ × List Int} {v v' : Value} (h1 : I c.1 T' wr) (h3 : ∀ b, T' b → T b ∨ W1.heap.size ≤ b) (h4 : ∀ b, v.ownBlock = some b → ¬ T' b)
    (h5 : Chg (fun b => T b ∨ b = sm) W1 wr) (hp : FrP I sm T' wr c2 w1) (hg : (w1.alloc X).grownBy w2 v.ownBlock) (hv : v'.ownBlock = v.ownBlock ∨ v'.ownBlock = some (w1.alloc X).heap.size) (hb : ∀ b, v.ownBlock = some b → W1.heap.size ≤ b ∧ b < wr.heap.size) (hsm : sm < W1.heap.size) :
    FrL I sm T W1 c2 v' w2 := by
  obtain ⟨T2, i2, s2, t2, ch2⟩ := hp
  have hc12 : Chg (fun b => v.ownBlock = some b) w1 w2 := (Chg.of_below ((Below.refl _ _).alloc (Nat.le_refl _) X)).trans (Chg.of_grown hg (fun k hk => hk)) (fun _ _ h => h)
  have hno : ∀ b, v.ownBlock = some b → ¬ T2 b := fun b hv hT => by
    rcases t2 b hT with h | h
    · exact h4 b hv h
    · have := (hb b hv).2; omega
  refine ⟨T2, hI.chg i2 hc12 (fun k hk hv => hno k hv hk), s2.chg hc12 (fun hv => by have := (hb _ hv).1; omega), ?_, ?_, ?_⟩
  · intro b hT
    rcases t2 b hT with h | h
    · exact h3 b h
    · have := h5.size; exact .inr (by omega)
  · intro b hv' hT
    rcases hv with hv | hv
    · exact hno b (by rw [← hv]; exact hv') hT
    · rw [hv] at hv'
      cases hv'
      have := hI.lt i2 _ hT
      simp at this
      omega
  · refine (h5.trans ch2 ?_).trans hc12 ?_
    · rintro k hk (h | h)
      · rcases h3 k h with h | h
        · exact .inl h
        · omega
      · exact .inr h
    · intro k hk h
      have := (hb k h).1
      omega
theorem FrL.done (hI : IOk I) {sm : Nat} {T T' : Nat → Prop} {w W1 wr W2 w3 : World} {v : Value} {s3 : σ} {nos3 : List Int} {o : Nat} {es : Array MapEntry} {cl : Nat}
    (h3 : ∀ b, T' b → T b ∨ W1.heap.size ≤ b) (h5 : Chg (fun b => T b ∨ b = sm) W1 wr) (hst : ¬ T' sm) (hT : ∀ b, T b → b < w.heap.size) (hsm : sm < w.heap.size) (hw1 : Chg T w W1) (hw : w.heap.size < W1.heap.size) (hW2 : W2 = wr.setCell ⟨w.heap.size, o, none⟩ v)
    (hb : ∀ b, v.ownBlock = some b → W1.heap.size ≤ b)
    (hm : ∃ T3, I s3 T3 w3 ∧ (∀ b, T3 b → T' b ∨ W2.heap.size ≤ b ∨ v.ownBlock = some b) ∧ Chg T' W2 w3) (hs : SeenIs (setMap w3 sm es cl) sm nos3) : FrP I sm T w (s3, nos3) (setMap w3 sm es cl) := by
  obtain ⟨T3, i3, t3, ch3⟩ := hm
  have hz : W2.heap.size = wr.heap.size := by rw [hW2]; simp [World.setCell]
  have h5s := h5.size
  have hno : ¬ T3 sm := fun h => by
    rcases t3 sm h with h | h | h
    · exact hst h
    · omega
    · have := hb _ h; omega
  refine ⟨T3, hI.chg i3 ((Chg.refl (fun b => b = sm) w3).setMap rfl es cl) (fun k hk e => hno (e ▸ hk)), hs, ?_, ?_⟩
  · intro b h
    rcases t3 b h with h | h | h
    · rcases h3 b h with h | h
      · exact .inl h
      · exact .inr (by omega)
    · exact .inr (by omega)
    · exact .inr (by have := hb _ h; omega)
  · have c1 : Chg (fun b => T b ∨ b = sm) w wr := (hw1.mono (fun k _ h => .inl h)).trans h5 (fun k _ h => h)
    have c2 : Chg (fun b => T b ∨ b = sm) w W2 := by
      rw [hW2]
      exact c1.trans ((Chg.refl (fun b => b = w.heap.size) wr).setCell rfl v) (fun k hk e => by omega)
    refine (c2.trans ch3 ?_).setMap (.inr rfl) es cl
    intro k hk h
    rcases h3 k h with h | h
    · exact .inl h
    · omega
set_option maxRecDepth 100000 in
set_option maxHeartbeats 1000000 in
theorem from_any (ts : List Nd) (tv bv : Value) (w0 : World) (mf : FuncId) (fs cs : Array Value) (hcf : ∀ (args : Array Value) (w : World), (callFunc mf args).run Try.prog w = .ok (.enter mf args) w) (hd : Down ts) (hJ : GJ step ts J) (hI : IOk I) (hts : Nds w0 tv ts) (hn : ∀ k, k < ts.length → (nd ts k).args.length ≤ 1000) (hm : MadeOk step I J ts w0 mf fs cs) :
    ∀ (f k : Nat) (s : σ) (nos : List Int) (T : Nat → Prop) (w : World) (sm : Nat), k < f → k < ts.length → J s nos → I s T w → SeenIs w sm nos → ¬ T sm → w0.heap.size ≤ sm → (∀ b, T b → w0.heap.size ≤ b) → Below w0.heap.size w0 w →
    Calls Try.prog 66 #[bv, tv, .int .i64 (k : Int), .map (some sm), .func (.func mf) fs cs] w fun e w' => e = .returned (.int .i64 (gno (gvis step ts f k (s, nos)).2 k)) ∧ FrP I sm T w (gvis step ts f k (s, nos)) w' := by
  intro f
  induction f with
  | zero => intro k _ _ _ _ _ h; exact absurd h (by omega)
  | succ f ih =>
    intro k s nos T w sm hf hk hj hi hs hsT hsB hTB hb
    have HIH := Lib.hid ih
    have HD := Lib.hid hd
    have HJ := Lib.hid hJ
    have HI := Lib.hid hI
    have HT := Lib.hid hts
    have HM := Lib.hid hm
    have HN := Lib.hid (hn k hk)
    have HJ0 := Lib.hid hj
    have HI0 := Lib.hid hi
    have HS := Lib.hid hs
    have HST := Lib.hid hsT
    have HSB := Lib.hid hsB
    have HTB := Lib.hid hTB
    have HB := Lib.hid hb
    have hlen : nos.length = ts.length := hJ.len hj
    have hkn : k < nos.length := by omega
    obtain ⟨ta, tc, rfl, ht1, ht2⟩ := hts.shape
    by_cases h0 : 0 ≤ gno nos k
    · have hlook := hs.hit hkn h0
      have e : gvis step ts (f + 1) k (s, nos) = (s, nos) := by unfold gvis; rw [if_pos h0]
      rw [e]
      clear ih hd hJ hI hts hm hn hj hi hs hsT hsB hTB hb e h0 hlen
      go_enter Try.func66, Try.ntmps66
      go_wp2_with fail
      go_outline
      go_ret
      exact ⟨rfl, T, HI0.out, HS.out, fun b h => .inl h, Chg.refl _ _⟩
    · have hlook := hs.miss hkn (by omega)
      have hmis : gno nos k < 0 := by omega
      have HMIS := Lib.hid hmis
      have e : gvis step ts (f + 1) k (s, nos) = gput step ts k (gargs (gvis step ts f) (nd ts k).args (s, nos)) := by conv => lhs; unfold gvis; rw [if_neg h0]
      have HE := Lib.hid e
      have hda := hd k hk
      have HGA := Lib.hid (fun l hl => gvis_args (f := f) hd hJ (by omega) hk (c := (s, nos)) hj l hl)
      obtain ⟨b, q, c', av, e', hc', hbq, hav, c0, c1, c2, c3, c4⟩ := hts.at2 hb hk
      cases e'
      have hHI := hI.lt hi
      have hsl := hs.lt
      have hbw := hb.size
      clear ih hd hJ hI hts hm hn hj hi hs hsB hb e h0 hlen
      have HX : Hid (nd ts k = ts.getD k default) := rfl
      have HDA := Lib.hid hda
      have HLT := Lib.hid hHI
      clear hda hHI hmis hsT hTB
      generalize ts.getD k default = x at *
      obtain ⟨op, width, flags, args, imm⟩ := x
      simp only at hav c0 c1 c2 c3 c4
      have hn20 : args.length ≤ 1000 := by have := HN.out; rw [HX.out] at this; exact this
      have HAV := Lib.hid hav
      obtain ⟨aa, ac, rfl, ha1, ha2⟩ := hav.shape
      clear hav
      obtain ⟨i0, hi0, hz0, hz1, hz2⟩ := info_parts info_int
      go_enter Try.func66, Try.ntmps66
      go_wp2_with fail
      go_loopw [14, 33] (fun v0 i wr => ∃ (j : Nat) (v : Value), v = v0 ∧ j ≤ args.length ∧ i = .int .i64 j ∧ RowI wr (w.heap.size + 1) 3 .i64 v (gargs (gvis step ts f) (args.take j) (s, nos)).2 ∧ FrL I sm T (w.alloc (.cells #[.int .i64 op, .int .i64 width, .int .i64 flags, .slice aa args.length ac, .int .u32 imm] 47)) (gargs (gvis step ts f) (args.take j) (s, nos)).1 v wr) (fun _ i _ => args.length - (intOf i).toNat)
      case atStart => 
        refine ⟨0, _, rfl, Nat.zero_le _, rfl, RowI.nil _ _ _ _, T, ?_, ?_, fun b h => .inl h, (fun b h => by cases h), Chg.refl _ _⟩
        · exact HI.out.chg HI0.out (Chg.of_below ((Below.refl _ _).alloc (Nat.le_refl _) _) (T := fun _ => False)) (fun _ _ h => h)
        · exact HS.out.chg (Chg.of_below ((Below.refl _ _).alloc (Nat.le_refl _) _) (T := fun _ => False)) (fun h => h)
      case round =>
        obtain ⟨j, v, rfl, hj, rfl, hrow, T', h1, h2, h3, h4, h5⟩ := hrel
        have hlr := gargs_len (gvis step ts f) (args.take j) (s, nos)
        rw [List.length_take, Nat.min_eq_left hj] at hlr
        have H1 := Lib.hid h1
        have H2 := Lib.hid h2
        have H3 := Lib.hid h3
        have H4 := Lib.hid h4
        have H5 := Lib.hid h5
        have HROW := Lib.hid hrow
        have h5s := h5.size
        simp only [World.size_alloc] at h5s
        have HLR := Lib.hid hlr
        have HBR : Hid (Below w0.heap.size w0 wr) := HB.out.trans ((((Below.refl _ _).alloc (Nat.le_refl _) _).mono (by omega)).trans (h5.below (by simp; omega) (fun k hk => by rcases hk with hk | hk; exact HTB.out k hk; have := HSB.out; omega)))
        have HJA := Lib.hid (HGA.out (args.take j) (fun a ha => by have := HDA.out a (by rw [HX.out]; exact List.mem_of_mem_take ha); exact this))
        have hsB := HSB.out
        have HST' : Hid (¬ T' sm) := fun h => by
          rcases h3 sm h with h | h
          · exact HST.out h
          · simp at h; omega
        have HTB' : Hid (∀ b, T' b → w0.heap.size ≤ b) := fun b h => by
          rcases h3 b h with h | h
          · exact HTB.out b h
          · simp at h; omega
        clear hsB
        clear h1 h2 h3 h4 h5 hrow hlr
        by_cases hlt : j < args.length
        · have hG := gargs_take (gvis step ts f) args (s, nos) j hlt
          obtain ⟨ab, ao, rfl, hab, hcs⟩ := HAV.out.row (by omega)
          have d0 := below_cell HBR.out hab (hcs j hlt)
          have hak := HDA.out (args.getD j 0) (by rw [HX.out]; exact mem_getD hlt)
          clear hcs
          generalize args.getD j 0 = y at *
          obtain ⟨m, rfl⟩ := Int.eq_ofNat_of_zero_le hak.1
          rw [Int.toNat_natCast] at hG
          generalize gargs (gvis step ts f) (args.take j) (s, nos) = r at *
          obtain ⟨⟨s', nos'⟩, l'⟩ := r
          simp only at hG
          have HG := Lib.hid hG
          clear hG
          go_wp2_with fail
          refine (HIH.out m s' nos' T' _ sm (by omega) (by omega) HJA.out.1.j H1.out H2.out HST'.out HSB.out HTB'.out HBR.out).mono ?_
          rintro e w1 ⟨rfl, hp⟩
          have HR1 : Hid (w1.ownsRow (w.heap.size + 1) 3 1 v l'.length (l'.map (Value.int .i64))) := by
            obtain ⟨T2, _, _, _, ch⟩ := hp
            refine own_same (T := fun b => v.ownBlock = some b) HROW.out (ch.same fun k hk => ⟨own_lt HROW.out k hk, fun h => ?_⟩) (fun b h => h)
            rcases h with h | h
            · exact H4.out k hk h
            · have := own_ge HROW.out k hk; omega
          have hw1 : wr.heap.size ≤ w1.heap.size := by obtain ⟨T2, _, _, _, ch⟩ := hp; exact ch.size
          have HP := Lib.hid hp
          have hll : l'.length = j := HLR.out
          clear hp
          generalize gvis step ts f m (s', nos') = c2 at *
          generalize gno c2.2 m = gy at *
          go_wp2_with (at_builtin; refine wpList_append_own_at _ rfl _ _ 25 rfl (w.heap.size + 1) 3 i0 (.int .i64 0) 1 8 Try.underlying25 hi0 hz0 hz1 hz2 rfl (by decide) _ _ _ rfl (HR1.out.alloc _) ⟨w1.heap.size, 0, none⟩ 1 1 [.int .i64 gy] rfl rfl ?c1 ?c2 ?c3 ?c4 ?c5 ?_)
          case c1 =>
            intro i u h
            rcases i with _ | i
            · cases h; simp [go_sem, Addr.add]
            · cases h
          case c2 => simp [Value.oneCell']
          case c3 => unfold maxLen; omega
          case c4 => omega
          case c5 => simp; omega
          intro v' w2 hown' hgrow _ hat
          have HO := Lib.hid hown'
          have HGR := Lib.hid hgrow
          have HAT := Lib.hid hat
          clear hown' hgrow hat hll
          go_wp2_with fail
          go_roundw
          case rel =>
            refine ⟨j + 1, v', rfl, by omega, by go_num, RowI.app1 HO.out HLR.out (by rw [HG.out]), ?_⟩
            rw [HG.out]
            exact FrL.next (c := ((s', nos') : σ × List Int)) HI.out H1.out H3.out H4.out H5.out HP.out HGR.out (by simpa using HAT.out) (fun b hb => ⟨by have := own_ge HROW.out b hb; simp; omega, own_lt HROW.out b hb⟩) (by simp; omega)
          case measure => simp [intOf]; omega
        · obtain rfl : j = args.length := by omega
          obtain ⟨va, vc, hv⟩ := HROW.out.shape
          rw [HLR.out] at hv
          subst hv
          have hnT : ¬ (T w.heap.size ∨ w.heap.size = sm) := fun h => by
            rcases h with h | h
            · exact absurd (HLT.out _ h) (by omega)
            · omega
          have y0 := H5.out.cell (b := w.heap.size) (o := 0) hnT (v := .int .i64 op) (by simp [go_sem])
          have y1 := H5.out.cell (b := w.heap.size) (o := 1) hnT (v := .int .i64 width) (by simp [go_sem])
          have y2 := H5.out.cell (b := w.heap.size) (o := 2) hnT (v := .int .i64 flags) (by simp [go_sem])
          have y3 := H5.out.cell (b := w.heap.size) (o := 3) hnT (v := .slice aa args.length ac) (by simp [go_sem])
          have y4 := H5.out.cell (b := w.heap.size) (o := 4) hnT (v := .int .u32 imm) (by simp [go_sem])
          have z3 : wr.frozen? ⟨w.heap.size, 3, none⟩ = false := by rw [H5.out.frozen hnT (by simp)]; simp [go_sem]
          clear hnT
          have HE2 : Hid (gvis step ts (f + 1) k (s, nos) = gput step ts k (gargs (gvis step ts f) args (s, nos))) := by
            have e2 := HE.out
            rw [HX.out] at e2
            exact e2
          rw [List.take_length] at H1 H2 HLR HJA HROW
          generalize gargs (gvis step ts f) args (s, nos) = r at *
          obtain ⟨⟨s', nos'⟩, l'⟩ := r
          have HEG : Hid (gnd ts k nos' = ⟨op, width, flags, l', imm⟩) := by
            show _ = _
            have e3 := HJA.out.2.1
            simp only at e3
            rw [e3]
            unfold gnd gn
            rw [HX.out]
          have HU : Hid (gno nos' k < 0) := by
            have h8 := HJA.out.1.up k (Nat.le_refl _)
            have h9 : gno nos k < 0 := HMIS.out
            show gno nos' k < 0
            rw [h8]; exact h9
          have HTA : Hid (∀ a ∈ (nd ts k).args, 0 ≤ gno nos' a.toNat) := by
            show ∀ a ∈ (nd ts k).args, 0 ≤ gno nos' a.toNat
            rw [HX.out]; exact HJA.out.2.2
          have hbT : ¬ T' w.heap.size := fun h => by
            rcases H3.out _ h with h | h
            · exact absurd (HLT.out _ h) (by omega)
            · simp at h; omega
          have HST2 : Hid (Chg (fun b => b = w.heap.size) wr (wr.setCell ⟨w.heap.size, 3, none⟩ (.slice va args.length vc))) := (Chg.refl (fun b => b = w.heap.size) wr).setCell (b := w.heap.size) rfl _
          have HI2 : Hid (I s' T' (wr.setCell ⟨w.heap.size, 3, none⟩ (.slice va args.length vc))) := HI.out.chg H1.out HST2.out (fun j hj e => hbT (e ▸ hj))
          have HOW : Hid (∀ b, (Value.slice va args.length vc).ownBlock = some b → w.heap.size + 1 ≤ b ∧ b < wr.heap.size) := fun b hb => ⟨own_ge HROW.out b hb, own_lt HROW.out b hb⟩
          have HIN : Hid (IntsF (wr.setCell ⟨w.heap.size, 3, none⟩ (.slice va args.length vc)) (.slice va args.length vc) (gnd ts k nos').args) := by
            have h9 : RowI (wr.setCell ⟨w.heap.size, 3, none⟩ (.slice va args.length vc)) (w.heap.size + 1) 3 .i64 (.slice va args.length vc) l' :=
              own_same (T := fun b => (Value.slice va args.length vc).ownBlock = some b) HROW.out (HST2.out.same fun j hj => ⟨(HOW.out j hj).2, by have := (HOW.out j hj).1; omega⟩) (fun b h => h)
            have h8 : l'.length = args.length := HLR.out
            have h7 := h9.intsF (by omega)
            rw [HEG.out]; exact h7
          have HSE : Hid (SeenIs (wr.setCell ⟨w.heap.size, 3, none⟩ (.slice va args.length vc)) sm nos') := by
            have h8 : SeenIs wr sm nos' := H2.out
            exact h8.chg HST2.out (by omega)
          have HJS := Lib.hid (HJ.out.step HJA.out.1.j hk HU.out HTA.out)
          have hkn' : k < nos'.length := by rw [HJ.out.len HJA.out.1.j]; exact hk
          have HB2 : Hid (Below w0.heap.size w0 (wr.setCell ⟨w.heap.size, 3, none⟩ (.slice va args.length vc))) := below_at HBR.out (by omega) _ _
          have HCM := Lib.hid (HM.out s' nos' k T' (wr.setCell ⟨w.heap.size, 3, none⟩ (.slice va args.length vc)) (.slice va args.length vc) HJA.out.1.j hk HU.out HTA.out HI2.out HIN.out (fun b hb => ⟨H4.out b hb, by simp [World.setCell]; exact (HOW.out b hb).2, by have := (HOW.out b hb).1; omega⟩) HTB'.out HB2.out)
          clear hbT
          rw [HEG.out] at HCM
          go_wp2_with fail
          refine HCM.out.mono ?_
          rintro e w3 ⟨rfl, hpost⟩
          rw [← HEG.out] at hpost
          have HP := Lib.hid hpost
          have hsn : SeenIs w3 sm nos' := by
            obtain ⟨T3, _, _, ch⟩ := hpost
            exact HSE.out.chg ch HST'.out
          clear hpost
          rw [← HEG.out]
          obtain ⟨es, cl, hrun, hsn2⟩ := hsn.put hkn' HU.out HJS.out.2
          have HSN := Lib.hid hsn2
          clear hsn hsn2
          generalize hn : (step s' (gnd ts k nos')).2 = n at *
          have HNN := Lib.hid hn
          clear hn
          go_wp2_with fail
          go_ret
          have hfin : gvis step ts (f + 1) k (s, nos) = ((step s' (gnd ts k nos')).1, nos'.set k n) := by
            rw [HE2.out]
            unfold gput
            simp only
            have : gn ts k l' = gnd ts k nos' := by
              rw [HEG.out]; unfold gn; rw [HX.out]
            rw [this, HNN.out]
          rw [hfin]
          refine ⟨congrArg (fun z => Ending.returned (.int .i64 z)) (gno_set_self hkn').symm, ?_⟩
          exact FrL.done (W1 := w.alloc (.cells #[.int .i64 op, .int .i64 width, .int .i64 flags, .slice aa args.length ac, .int .u32 imm] 47)) (o := 3) HI.out H3.out H5.out HST'.out HLT.out hsl (Chg.of_below ((Below.refl _ _).alloc (Nat.le_refl _) _)) (by simp) rfl (fun b hb => by have := (HOW.out b hb).1; simp; omega) HP.out HSN.out
end
end Go.Proofs.Ythopdfikikdcbaa
