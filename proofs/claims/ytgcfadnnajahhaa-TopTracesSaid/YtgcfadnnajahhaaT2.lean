/- -/
import Derived.Deep.QuietTactic
import Derived.BigQuiet
import Derived.Deep.AppendLies
import Derived.Test.YtgcfadnnajahhaaRows
import Derived.WalkKit
import Derived.ProofKit
import Derived.OpenShut
import Derived.Below
import Derived.ChangeSame
import Derived.Lib.SmallJoins
import Derived.Deep.Slices
import Derived.SizedLaws
import Derived.DataReads
import Derived.ChangeSlices
import Derived.Test.YtgcfadnnajahhaaT1
set_option maxRecDepth 100000
namespace Go.Proofs.Ytgcfadnnajahhaa
open Go.RowKit Go.Maps
set_option linter.unusedVariables false
set_option linter.unusedSimpArgs false
def MrgP (l : List Pl) (w : World) (e : Ending) (w' : World) : Prop :=
  ∃ u s, e = .returned (.tuple #[u, .int .i64 0]) ∧ Pls w' u s ∧ s.Perm (mrg l) ∧ (s.Pairwise fun x y => ¬ y.lt x) ∧ Below w.heap.size w w'
def MLoop (l : List Pl) (w1 : World) (j : Nat) (o : Value) (m : List (Value × Value)) (wr : World) : Prop :=
  RowG plL wr (w1.heap.size + 1) 32 5 o (mrg (l.take j)) ∧ MapIs Try.prog 54 wr w1.heap.size m ∧ LastIs (mrg (l.take j)) m ∧ Below w1.heap.size w1 wr
theorem MLoop.stays {l : List Pl} {w1 wr w' : World} {j : Nat} {o : Value} {m : List (Value × Value)} (h : MLoop l w1 j o m wr) (hb : Below wr.heap.size wr w') : MLoop l w1 j o m w' :=
  ⟨ownsRow_at h.1 fun g hg hlt => hb.block g hlt, h.2.1.below hb, h.2.2.1, below_next h.2.2.2 h.2.2.2.size hb⟩
theorem mrg_len {l : List Pl} (h : ValidP l) (j : Nat) : (mrg (l.take j)).length ≤ 64 := by
  have h1 := (mrg_inv (valid_take h j)).len
  have h2 := h.len
  rw [List.length_take] at h1; omega
theorem PlAt.ints {w : World} {b o : Nat} {x : Pl} (h : PlAt w b o x) : w.cell? ⟨b, o, none⟩ = some (.int .i64 x.f) ∧ w.cell? ⟨b, o + 1, none⟩ = some (.int .i64 x.t) ∧ w.cell? ⟨b, o + 2, none⟩ = some (.int .i64 x.v) ∧ w.cell? ⟨b, o + 3, none⟩ = some (.int .i64 x.k) ∧ w.cell? ⟨b, o + 4, none⟩ = some (.int .i64 x.n) := h
theorem MLoop.on {l : List Pl} {w1 wq : World} {j k g cc : Nat} {m : List (Value × Value)} {out : List Pl} {t : Int} (h : MLoop l w1 j (.slice (some ⟨g, 0, none⟩) out.length cc) m wq) (hk : k < out.length) (hg : w1.heap.size + 1 ≤ g)
    (hn : mrg (l.take (j + 1)) = out.set k { out.getD k default with t := t }) (ho : mrg (l.take j) = out) : MLoop l w1 (j + 1) (.slice (some ⟨g, 0, none⟩) out.length cc) m (wq.setCell ⟨g, k * 5 + 1, none⟩ (.int .i64 t)) := by
  obtain ⟨h1, h2, h3, h4⟩ := h
  subst ho
  refine ⟨?_, h2.atBlock (Below.heap_setCell _ _ _ _ (by show w1.heap.size ≠ g; omega)) (by simp [World.setCell]), ?_, below_at h4 (by omega) _ _⟩
  · rw [hn]; exact h1.setT hk t rfl
  · rw [hn]; exact h3.on hk t
theorem MLoop.new {l : List Pl} {w1 Wm w6 : World} {j : Nat} {m' : List (Value × Value)} {out : List Pl} {x : Pl} {o : Obj} {v v6 : Value} (hm : MapIs Try.prog 54 Wm w1.heap.size m') (hl : LastIs (out ++ [x]) m') (hb : Below w1.heap.size w1 Wm) (hn : mrg (l.take (j + 1)) = out ++ [x])
    (ho : w6.ownsRow (w1.heap.size + 1) 32 5 v6 (out.length + 1) (out.flatMap plL ++ plL x)) (hg : (Wm.alloc o).grownBy w6 v.ownBlock) (hv : ∀ k, v.ownBlock = some k → w1.heap.size + 1 ≤ k) : MLoop l w1 (j + 1) v6 m' w6 := by
  have hb2 := (Below.refl Wm.heap.size Wm).alloc (Nat.le_refl _) o
  have hs : Wm.heap.size ≤ w6.heap.size := Nat.le_trans hb2.size hg.size
  refine ⟨by rw [hn]; exact RowG.snoc ho, hm.atBlock ?_ hs, by rw [hn]; exact hl, (hb.alloc hb.size o).grown hg (Nat.le_trans hb.size hb2.size) fun k hk => by have := hv k hk; omega⟩
  rw [hg.block _ (Nat.lt_of_lt_of_le hm.1 hb2.size) (fun e => by have := hv _ (by first | exact e | exact e.symm); omega)]
  exact hb2.block _ hm.1
def Upd (x : Pl) (out : List Pl) (M : Nat) (w : World) : Prop := ∃ m' c', (Instr.mapUpdate 52 (.map (some M)) (.agg #[.int .i64 x.v, .int .i64 x.k, .int .i64 x.n]) (.int .i64 (out.length : Int))).run Try.prog w = .ok () (setMap w M (ents m') c') ∧ MapIs Try.prog 54 (setMap w M (ents m') c') M m' ∧ LastIs (out ++ [x]) m'
theorem upd_old {x : Pl} {out : List Pl} {M k : Nat} {m : List (Value × Value)} {w : World} {q : Lit} (h : MapIs Try.prog 54 w M m) (hl : LastIs out m) (hk : (thV x, .int .i64 (k : Int)) ∈ m) (hq : keyOf Try.prog 54 (thV x) = some q) : Upd x out M w := by
  obtain ⟨i, hi⟩ := List.getElem?_of_mem hk
  exact ⟨_, _, update_old lawT Try.underlying52 h hq hi, h.old hi, hl.old h.2.2.2 hi⟩
theorem upd_new {x : Pl} {out : List Pl} {M : Nat} {m : List (Value × Value)} {w : World} {q : Lit} (h : MapIs Try.prog 54 w M m) (hl : LastIs out m) (hk : ∀ p ∈ m, p.1 ≠ thV x) (hx : ∀ y ∈ out, ¬ y.th x) (hq : keyOf Try.prog 54 (thV x) = some q) : Upd x out M w :=
  ⟨_, _, update_new lawT Try.underlying52 h hq hk, h.new hq hk, hl.new hx⟩
theorem Upd.drewN {x : Pl} {out : List Pl} {M : Nat} {w : World} (h : ∀ w', Below w.heap.size w w' → Upd x out M w') (n : Nat) : Upd x out M (w.drewN n) := h _ ⟨rfl, rfl, rfl, Nat.le_refl _, fun _ _ => rfl⟩
set_option maxHeartbeats 2000000 in
theorem mrg_any (l : List Pl) (u : Value) (w : World) (hu : Pls w u l) (hl : traE l = 0) : Calls Try.prog 9 #[u] w (MrgP l w) := by
  have CV := Lib.hid (pVal24_any l u w hu)
  rw [hl] at CV
  have HVL := Lib.hid (traE_valid hl)
  have hlen : l.length ≤ 64 := (traE_valid hl).len
  obtain ⟨sa, c, rfl, h1, h2, hr⟩ := hu.shapeR
  have HR0 := Lib.hid hr
  obtain ⟨ip, hi0, hz0, hz1, hz2⟩ := info_parts info_pl
  have HI0 := Lib.hid hi0
  clear hu hr hl hi0
  go_enter Try.func9, Try.ntmps9
  go_upto_region 5 with (go_at_call 7; with_reducible refine CV.out.mono ?_; rintro e w1 ⟨rfl, hb1⟩)
  obtain ⟨hmk⟩ : Nonempty (∀ w : World, (Instr.makeMap 52 none).run Try.prog w = .ok (.map (some w.heap.size)) (w.alloc (.map #[] 0))) := ⟨fun _ => by kernel_rfl⟩
  have hs1 := hb1.size
  have HB1 := Lib.hid hb1
  clear CV hb1
  go_wp2_with fail
  clear hmk
  go_loopw [5, 8, 9, 10, 11, 20] (fun o _ _ _ _ i wr => ∃ j : Nat, ∃ m, j ≤ l.length ∧ i = .int .i64 j ∧ MLoop l w1 j o m wr) (fun _ _ _ _ _ i _ => l.length - (intOf i).toNat)
  case atStart => exact ⟨0, [], Nat.zero_le _, rfl, RowG.nil _ _ _ _ _, MapIs.made, LastIs.nil, (Below.refl _ _).alloc (Nat.le_refl _) _⟩
  case round =>
    obtain ⟨j, m, hj, rfl, hML⟩ := hrel
    have HML := Lib.hid hML
    have hbs := hML.2.2.2.size
    have hMl := hML.2.1.1
    by_cases hjl : j < l.length
    · obtain ⟨bb, q, ea, hbl, x0, x1, x2, x3, x4⟩ := (HR0.out.stays (below_next HB1.out HB1.out.size hML.2.2.2)) j hjl
      subst ea
      have HWAY := Lib.hid (merge_way HVL.out hjl hML.2.2.1)
      have HOK := Lib.hid (HVL.out.ok _ (getD_mem hjl))
      have HLN := Lib.hid (mrg_len HVL.out j)
      generalize l.getD j default = x at *
      have hne2 : ¬ bb = wr.heap.size := by omega
      have i0 : (0 : Int) ≤ (j : Int) := by omega
      have i1 : (j : Int) < (l.length : Int) := by omega
      obtain ⟨xf, xt, xv, xk, xn⟩ := x
      simp only at x0 x1 x2 x3 x4
      obtain ⟨Wb, hWb⟩ : ∃ W, (wr.alloc (.cells #[.int .i64 xf, .int .i64 xt, .int .i64 xv, .int .i64 xk, .int .i64 xn] 32)).alloc (.cells #[.int .i64 xv, .int .i64 xk, .int .i64 xn] 54) = W := ⟨_, rfl⟩
      have BB : Hid (Below wr.heap.size wr Wb) := by rw [← hWb]; exact ((Below.refl _ _).alloc (Nat.le_refl _) _).alloc (by simp) _
      have HX : Hid (∀ i, i < 5 → Wb.cell? ⟨wr.heap.size, i, none⟩ = [Value.int .i64 xf, .int .i64 xt, .int .i64 xv, .int .i64 xk, .int .i64 xn][i]?) := fun i hi => by
        rw [← hWb]
        match i, hi with
        | 0, _ => simp [go_sem]
        | 1, _ => simp [go_sem]
        | 2, _ => simp [go_sem]
        | 3, _ => simp [go_sem]
        | 4, _ => simp [go_sem]
      have HT : Hid (∀ i, i < 3 → Wb.cell? ⟨wr.heap.size + 1, i, none⟩ = [Value.int .i64 xv, .int .i64 xk, .int .i64 xn][i]?) := fun i hi => by
        rw [← hWb]
        match i, hi with
        | 0, _ => simp [go_sem]
        | 1, _ => simp [go_sem]
        | 2, _ => simp [go_sem]
      have hsb : Wb.heap.size = wr.heap.size + 2 := by rw [← hWb]; simp
      have HSB := Lib.hid hsb
      have HMB := Lib.hid (hML.stays BB.out)
      have hMB := hML.2.1.below BB.out
      obtain ⟨kq, hkq⟩ := thV_key _ HOK.out
      have HKQ := Lib.hid hkq
      clear hML hsb
      have t0 := HT.out 0 (by decide)
      have t1 := HT.out 1 (by decide)
      have t2 := HT.out 2 (by decide)
      have y0 := HX.out 0 (by decide)
      have y1 := HX.out 1 (by decide)
      have y2 := HX.out 2 (by decide)
      have y3 := HX.out 3 (by decide)
      have y4 := HX.out 4 (by decide)
      simp only [List.getElem?_cons_zero, List.getElem?_cons_succ] at t0 t1 t2 y0 y1 y2 y3 y4
      generalize hOUT : mrg (l.take j) = out at *
      have HOUT := Lib.hid hOUT
      rcases HWAY.out with ⟨k, hk, hkl, ht, hmn⟩ | ⟨k, hk, hkl, ht, hmn⟩ | ⟨hk, hno, hmn⟩
      · have HMN := Lib.hid hmn
        have hlk : (Instr.lookup 52 (.map (some w1.heap.size)) (.agg #[.int .i64 xv, .int .i64 xk, .int .i64 xn]) true).run Try.prog Wb = .ok (.tuple #[.int .i64 (k : Int), .bool true]) Wb := lookup_hit lawT Try.underlying52 hMB hkq hk
        obtain ⟨g, cc, rfl, hg1, hg2, hgc, hgf⟩ := (by have := HMB.out.1; rw [hOUT] at this; exact this.blk hkl : _)
        simp only at ht
        rw [ht] at hgc
        have HKL := Lib.hid hkl
        have j0 : (0 : Int) ≤ (k : Int) := by omega
        have j1 : (k : Int) < (out.length : Int) := by omega
        clear hmn hk ht hMB hkq hOUT hkl
        go_upto_region 11 with fail
        clear hlk
        go_quiet (fail)
        have BQ : Hid (Below Wb.heap.size Wb (Wb.drewN nq)) := ⟨rfl, rfl, rfl, Nat.le_refl _, fun _ _ => rfl⟩
        have z1 : (Wb.drewN nq).cell? ⟨wr.heap.size, 1, none⟩ = some (.int .i64 xt) := y1
        have gc : (Wb.drewN nq).cell? ⟨g, k * 5 + 1, none⟩ = some (.int .i64 xf) := hgc
        have gf : (Wb.drewN nq).frozen? ⟨g, k * 5 + 1, none⟩ = false := hgf
        clear t0 t1 t2 y0 y1 y2 y3 y4 hgc hgf
        generalize Wb.drewN nq = wq at *
        have HF := Lib.hid (MLoop.on ((HMB.out).stays BQ.out) HKL.out hg1 HMN.out HOUT.out)
        go_wp2_with fail
        go_roundw
        case rel => exact ⟨j + 1, m, by omega, by go_num, HF.out⟩
        case measure => simp [intOf]; omega
      · have HMN := Lib.hid hmn
        have hlk : (Instr.lookup 52 (.map (some w1.heap.size)) (.agg #[.int .i64 xv, .int .i64 xk, .int .i64 xn]) true).run Try.prog Wb = .ok (.tuple #[.int .i64 (k : Int), .bool true]) Wb := lookup_hit lawT Try.underlying52 hMB hkq hk
        obtain ⟨g, cc, he, hg1, hg2, hgc, hgf⟩ := (by have := HMB.out.1; rw [hOUT] at this; exact this.blk hkl : _)
        have UPD : Hid (∀ w', Below Wb.heap.size Wb w' → Upd ⟨xf, xt, xv, xk, xn⟩ out w1.heap.size w') := fun w' hb => upd_old (hMB.below hb) (hOUT ▸ HMB.out.2.2.1) hk HKQ.out
        simp only at ht
        generalize (out.getD k default).t = tt at *
        have htf : (tt == xf) = false := by simpa using ht
        have j0 : (0 : Int) ≤ (k : Int) := by omega
        have j1 : (k : Int) < (out.length : Int) := by omega
        subst he
        clear hmn hk ht hMB hkq hOUT
        go_upto_region 11 with fail
        clear hlk
        go_quiet (fail)
        have BQ : Hid (Below Wb.heap.size Wb (Wb.drewN nq)) := ⟨rfl, rfl, rfl, Nat.le_refl _, fun _ _ => rfl⟩
        have HMQ := Lib.hid (HMB.out.stays BQ.out)
        have hMs := HMQ.out.2.1.1
        have hqs : (Wb.drewN nq).heap.size = wr.heap.size + 2 := HSB.out
        have s0 : (Wb.drewN nq).cell? ⟨wr.heap.size + 1, 0, none⟩ = some (.int .i64 xv) := t0
        have s1 : (Wb.drewN nq).cell? ⟨wr.heap.size + 1, 1, none⟩ = some (.int .i64 xk) := t1
        have s2 : (Wb.drewN nq).cell? ⟨wr.heap.size + 1, 2, none⟩ = some (.int .i64 xn) := t2
        have z0 : (Wb.drewN nq).cell? ⟨wr.heap.size, 0, none⟩ = some (.int .i64 xf) := y0
        have z1 : (Wb.drewN nq).cell? ⟨wr.heap.size, 1, none⟩ = some (.int .i64 xt) := y1
        have z2 : (Wb.drewN nq).cell? ⟨wr.heap.size, 2, none⟩ = some (.int .i64 xv) := y2
        have z3 : (Wb.drewN nq).cell? ⟨wr.heap.size, 3, none⟩ = some (.int .i64 xk) := y3
        have z4 : (Wb.drewN nq).cell? ⟨wr.heap.size, 4, none⟩ = some (.int .i64 xn) := y4
        clear t0 t1 t2 y0 y1 y2 y3 y4
        generalize Wb.drewN nq = wq at *
        obtain ⟨m', c', hup, hm', HL⟩ := UPD.out _ BQ.out
        clear UPD
        obtain ⟨Wm, hWm⟩ : ∃ W, setMap wq w1.heap.size (ents m') c' = W := ⟨_, rfl⟩
        rw [hWm] at hup hm'
        have hne3 : wr.heap.size ≠ w1.heap.size := by omega
        have e0 : Wm.cell? ⟨wr.heap.size, 0, none⟩ = some (.int .i64 xf) := by rw [← hWm, cell_setMap hne3]; exact z0
        have e1 : Wm.cell? ⟨wr.heap.size, 1, none⟩ = some (.int .i64 xt) := by rw [← hWm, cell_setMap hne3]; exact z1
        have e2 : Wm.cell? ⟨wr.heap.size, 2, none⟩ = some (.int .i64 xv) := by rw [← hWm, cell_setMap hne3]; exact z2
        have e3 : Wm.cell? ⟨wr.heap.size, 3, none⟩ = some (.int .i64 xk) := by rw [← hWm, cell_setMap hne3]; exact z3
        have e4 : Wm.cell? ⟨wr.heap.size, 4, none⟩ = some (.int .i64 xn) := by rw [← hWm, cell_setMap hne3]; exact z4
        have hms : Wm.heap.size = wr.heap.size + 2 := by rw [← hWm, size_setMap]; exact hqs
        have hne4 : ¬ wr.heap.size = Wm.heap.size := by omega
        have hle4 : w1.heap.size ≤ Wm.heap.size := by omega
        have HMM := Lib.hid hm'
        have HLL := Lib.hid HL
        have HML2 := HMQ.out
        unfold MLoop at HML2
        rw [HOUT.out] at HML2
        have BM : Hid (Below w1.heap.size w1 Wm) := by rw [← hWm]; exact below_setMap HML2.2.2.2 (Nat.le_refl _) _ _
        have HOW : Hid (∀ k, (Value.slice (some ⟨g, 0, none⟩) out.length cc).ownBlock = some k → w1.heap.size + 1 ≤ k) := fun k hk => (ownsRow_own HML2.1 k hk).1
        have HRB : Hid (∀ o, RowG plL (Wm.alloc o) (w1.heap.size + 1) 32 5 (.slice (some ⟨g, 0, none⟩) out.length cc) out) := fun o => ownsRow_at HML2.1 fun g hg hlt => by
          have hgo := HOW.out g hg
          rw [((Below.refl Wm.heap.size Wm).alloc (Nat.le_refl _) o).block g (by rw [← hWm, size_setMap]; exact hlt), ← hWm]
          exact heap_setMap (by omega)
        have HNW : Hid (∀ o, (Wm.alloc o).heap[Wm.heap.size]? = some o) := fun o => Array.getElem?_push_size
        have hlc := HLN.out
        have HMS := Lib.hid hms
        have HFIN : Hid (∀ o w6 v6, w6.ownsRow (w1.heap.size + 1) 32 5 v6 (out.length + 1) (out.flatMap plL ++ [.int .i64 xf, .int .i64 xt, .int .i64 xv, .int .i64 xk, .int .i64 xn]) → (Wm.alloc o).grownBy w6 (Value.slice (some ⟨g, 0, none⟩) out.length cc).ownBlock → MLoop l w1 (j + 1) v6 m' w6) := fun o w6 v6 ho hg => MLoop.new (x := ⟨xf, xt, xv, xk, xn⟩) HMM.out HLL.out BM.out HMN.out ho hg HOW.out
        clear hms hm' HL HML2 hWm 
        go_wp2_with (at_builtin; refine wpList_append_lies _ rfl _ _ _ rfl (w1.heap.size + 1) 32 ip (.agg #[.int .i64 0, .int .i64 0, .int .i64 0, .int .i64 0, .int .i64 0]) 5 40 Try.underlying22 HI0.out hz0 hz1 hz2 rfl (by decide) (.slice (some ⟨g, 0, none⟩) out.length cc) out.length (out.flatMap plL) rfl (HRB.out _) ⟨Wm.heap.size, 0, none⟩ 1 1 [.int .i64 xf, .int .i64 xt, .int .i64 xv, .int .i64 xk, .int .i64 xn] rfl rfl (World.news_of_block (cs := #[.int .i64 xf, .int .i64 xt, .int .i64 xv, .int .i64 xk, .int .i64 xn]) (t := 32) (fr := (0, 0)) (HNW.out _)) (by simp [Value.oneCell']) (by decide) (by unfold maxLen; omega) (by omega) (by simp; omega) (Wm.heap.size + 1) (by simp) (fun gc capc w6 ho6 hg6 hat6 hl6 => ?_); have HO6 := Lib.hid ho6; have HG6 := Lib.hid hg6; clear ho6 hg6 hat6 hl6)
        go_roundw
        case rel => exact ⟨j + 1, m', by omega, by go_num, HFIN.out _ _ _ HO6.out HG6.out⟩
        case measure => simp [intOf]; omega
      · have HMN := Lib.hid hmn
        have hlk : (Instr.lookup 52 (.map (some w1.heap.size)) (.agg #[.int .i64 xv, .int .i64 xk, .int .i64 xn]) true).run Try.prog Wb = .ok (.tuple #[.int .i64 0, .bool false]) Wb := lookup_miss lawT Try.underlying52 (z := .int .i64 0) (fun w => by kernel_rfl) hMB hkq hk
        have UPD : Hid (∀ w', Below Wb.heap.size Wb w' → Upd ⟨xf, xt, xv, xk, xn⟩ out w1.heap.size w') := fun w' hb => upd_new (hMB.below hb) (hOUT ▸ HMB.out.2.2.1) hk hno HKQ.out
        clear hmn hk hno hMB hkq hOUT
        go_upto_region 11 with fail
        clear hlk
        go_quiet (fail)
        have BQ : Hid (Below Wb.heap.size Wb (Wb.drewN nq)) := ⟨rfl, rfl, rfl, Nat.le_refl _, fun _ _ => rfl⟩
        have HMQ := Lib.hid (HMB.out.stays BQ.out)
        have hMs := HMQ.out.2.1.1
        have hqs : (Wb.drewN nq).heap.size = wr.heap.size + 2 := HSB.out
        have s0 : (Wb.drewN nq).cell? ⟨wr.heap.size + 1, 0, none⟩ = some (.int .i64 xv) := t0
        have s1 : (Wb.drewN nq).cell? ⟨wr.heap.size + 1, 1, none⟩ = some (.int .i64 xk) := t1
        have s2 : (Wb.drewN nq).cell? ⟨wr.heap.size + 1, 2, none⟩ = some (.int .i64 xn) := t2
        have z0 : (Wb.drewN nq).cell? ⟨wr.heap.size, 0, none⟩ = some (.int .i64 xf) := y0
        have z1 : (Wb.drewN nq).cell? ⟨wr.heap.size, 1, none⟩ = some (.int .i64 xt) := y1
        have z2 : (Wb.drewN nq).cell? ⟨wr.heap.size, 2, none⟩ = some (.int .i64 xv) := y2
        have z3 : (Wb.drewN nq).cell? ⟨wr.heap.size, 3, none⟩ = some (.int .i64 xk) := y3
        have z4 : (Wb.drewN nq).cell? ⟨wr.heap.size, 4, none⟩ = some (.int .i64 xn) := y4
        clear t0 t1 t2 y0 y1 y2 y3 y4
        generalize Wb.drewN nq = wq at *
        obtain ⟨m', c', hup, hm', HL⟩ := UPD.out _ BQ.out
        clear UPD
        obtain ⟨Wm, hWm⟩ : ∃ W, setMap wq w1.heap.size (ents m') c' = W := ⟨_, rfl⟩
        rw [hWm] at hup hm'
        have hne3 : wr.heap.size ≠ w1.heap.size := by omega
        have e0 : Wm.cell? ⟨wr.heap.size, 0, none⟩ = some (.int .i64 xf) := by rw [← hWm, cell_setMap hne3]; exact z0
        have e1 : Wm.cell? ⟨wr.heap.size, 1, none⟩ = some (.int .i64 xt) := by rw [← hWm, cell_setMap hne3]; exact z1
        have e2 : Wm.cell? ⟨wr.heap.size, 2, none⟩ = some (.int .i64 xv) := by rw [← hWm, cell_setMap hne3]; exact z2
        have e3 : Wm.cell? ⟨wr.heap.size, 3, none⟩ = some (.int .i64 xk) := by rw [← hWm, cell_setMap hne3]; exact z3
        have e4 : Wm.cell? ⟨wr.heap.size, 4, none⟩ = some (.int .i64 xn) := by rw [← hWm, cell_setMap hne3]; exact z4
        have hms : Wm.heap.size = wr.heap.size + 2 := by rw [← hWm, size_setMap]; exact hqs
        have hne4 : ¬ wr.heap.size = Wm.heap.size := by omega
        have hle4 : w1.heap.size ≤ Wm.heap.size := by omega
        have HMM := Lib.hid hm'
        have HLL := Lib.hid HL
        have HML2 := HMQ.out
        unfold MLoop at HML2
        rw [HOUT.out] at HML2
        have BM : Hid (Below w1.heap.size w1 Wm) := by rw [← hWm]; exact below_setMap HML2.2.2.2 (Nat.le_refl _) _ _
        obtain ⟨ov, oc, rfl⟩ := HML2.1.shape5
        have HOW : Hid (∀ k, (Value.slice ov out.length oc).ownBlock = some k → w1.heap.size + 1 ≤ k) := fun k hk => (ownsRow_own HML2.1 k hk).1
        have HRB : Hid (∀ o, RowG plL (Wm.alloc o) (w1.heap.size + 1) 32 5 (.slice ov out.length oc) out) := fun o => ownsRow_at HML2.1 fun g hg hlt => by
          have hgo := HOW.out g hg
          rw [((Below.refl Wm.heap.size Wm).alloc (Nat.le_refl _) o).block g (by rw [← hWm, size_setMap]; exact hlt), ← hWm]
          exact heap_setMap (by omega)
        have HNW : Hid (∀ o, (Wm.alloc o).heap[Wm.heap.size]? = some o) := fun o => Array.getElem?_push_size
        have hlc := HLN.out
        have HMS := Lib.hid hms
        have HFIN : Hid (∀ o w6 v6, w6.ownsRow (w1.heap.size + 1) 32 5 v6 (out.length + 1) (out.flatMap plL ++ [.int .i64 xf, .int .i64 xt, .int .i64 xv, .int .i64 xk, .int .i64 xn]) → (Wm.alloc o).grownBy w6 (Value.slice ov out.length oc).ownBlock → MLoop l w1 (j + 1) v6 m' w6) := fun o w6 v6 ho hg => MLoop.new (x := ⟨xf, xt, xv, xk, xn⟩) HMM.out HLL.out BM.out HMN.out ho hg HOW.out
        clear hms hm' HL HML2 hWm 
        go_wp2_with (at_builtin; refine wpList_append_lies _ rfl _ _ _ rfl (w1.heap.size + 1) 32 ip (.agg #[.int .i64 0, .int .i64 0, .int .i64 0, .int .i64 0, .int .i64 0]) 5 40 Try.underlying22 HI0.out hz0 hz1 hz2 rfl (by decide) (.slice ov out.length oc) out.length (out.flatMap plL) rfl (HRB.out _) ⟨Wm.heap.size, 0, none⟩ 1 1 [.int .i64 xf, .int .i64 xt, .int .i64 xv, .int .i64 xk, .int .i64 xn] rfl rfl (World.news_of_block (cs := #[.int .i64 xf, .int .i64 xt, .int .i64 xv, .int .i64 xk, .int .i64 xn]) (t := 32) (fr := (0, 0)) (HNW.out _)) (by simp [Value.oneCell']) (by decide) (by unfold maxLen; omega) (by omega) (by simp; omega) (Wm.heap.size + 1) (by simp) (fun gc capc w6 ho6 hg6 hat6 hl6 => ?_); have HO6 := Lib.hid ho6; have HG6 := Lib.hid hg6; clear ho6 hg6 hat6 hl6)
        go_roundw
        case rel => exact ⟨j + 1, m', by omega, by go_num, HFIN.out _ _ _ HO6.out HG6.out⟩
        case measure => simp [intOf]; omega
    · obtain rfl : j = l.length := by omega
      have hrow' := HML.out.1
      rw [List.take_length] at hrow'
      have CS := Lib.hid (sortP_any (mrg l) _ (w1.heap.size + 1) wr hrow' (by omega) (by have := mrg_len HVL.out l.length; rw [List.take_length] at this; omega))
      have HFB : Hid (∀ w', Below (w1.heap.size + 1) wr w' → Below w.heap.size w w') := fun w' h => (below_next HB1.out HB1.out.size HML.out.2.2.2).trans (h.mono (by omega))
      clear hrow' hML
      go_wp2_with (go_at_call 20; with_reducible refine CS.out.mono ?_; rintro e w7 ⟨rfl, s, hs7, hp7, ho7, hb7⟩; have HS7 := Lib.hid hs7; have HB7 := Lib.hid hb7; clear hs7 hb7)
      exact bodyPost_ret (by simp [results, Try.results9, go_sem]) rfl ⟨_, s, rfl, HS7.out, hp7, ho7, HFB.out _ HB7.out⟩
theorem enc_bad (l : List Pl) (u : Value) (w : World) (hu : Pls w u l) (hl : traE l ≠ 0) : Calls Try.prog 6 #[u] w fun e w' => e = .returned (.tuple #[.slice none 0 0, .int .i64 (traE l)]) ∧ Below w.heap.size w w' := by
  have CV := Lib.hid (pVal24_any l u w hu)
  obtain ⟨sa, c, rfl, h1, h2, hr⟩ := hu.shapeR
  clear hu hr
  generalize traE l = n at *
  have hz : (n != 0) = true := by simpa using hl
  go_enter Try.func6, Try.ntmps6
  go_wp2_with (go_at_call 7; with_reducible refine CV.out.mono ?_; rintro e w1 ⟨rfl, hb1⟩)
  exact bodyPost_ret (v := .tuple #[.slice none 0 0, .int .i64 n]) (by simp [results, Try.results6, go_sem]) rfl ⟨rfl, hb1⟩
theorem val_known (w : World) : Calls Try.prog 4 #[.slice (some ⟨w.heap.size, 0, none⟩) 1 1, .agg #[.int .u32 0, .int .u32 0, .int .u32 0, .int .u32 0, .int .u32 0, .int .u32 0, .int .u32 0, .int .u32 0, .int .u32 0, .int .u32 0, .int .u32 0, .int .u32 0, .int .u32 0, .int .u32 0, .int .u32 0, .int .u32 0, .int .u32 0, .int .u32 0, .int .u32 0, .int .u32 0, .int .u32 0, .int .u32 0, .int .u32 0, .int .u32 0, .int .u32 0, .int .u32 0, .int .u32 0, .int .u32 0, .int .u32 0, .int .u32 0, .int .u32 0, .int .u32 0, .int .i64 0, .int .u32 8, .slice none 0 0, .int .i64 0], .int .i64 3] (w.alloc (.cells #[.int .i64 0, .int .i64 9, .int .i64 3, .int .i64 2, .int .i64 77] 32)) fun e w' => e = .returned (.tuple #[.int .u32 77, .bool true, .int .i64 0]) ∧ Below w.heap.size w w' := by
  have hP : Pls (w.alloc (.cells #[.int .i64 0, .int .i64 9, .int .i64 3, .int .i64 2, .int .i64 77] 32)) (.slice (some ⟨w.heap.size, 0, none⟩) 1 1) [⟨0, 9, 3, 2, 77⟩] := by
    refine ⟨some ⟨w.heap.size, 0, none⟩, 1, rfl, Nat.le_refl _, by simp, (fun hh => by cases hh), fun i hi => ⟨w.heap.size, 0, rfl, by simp, ?_⟩⟩
    obtain rfl : i = 0 := by simp at hi; omega
    exact ⟨by simp [go_sem], by simp [go_sem], by simp [go_sem], by simp [go_sem], by simp [go_sem]⟩
  have h := val_any [⟨0, 9, 3, 2, 77⟩] (.slice (some ⟨w.heap.size, 0, none⟩) 1 1) (.slice none 0 0) ⟨List.replicate 32 0, 0, 8, [], 0⟩ 3 _ hP (by decide) (by decide) (Ints.nil _ _) (by decide) (by decide)
  exact h.mono fun e w' h => ⟨h.1, below_next ((Below.refl _ _).alloc (Nat.le_refl _) _) (by simp) h.2⟩
theorem valK_tuple (c : Mac) (o : Option (Int × Int)) : ∃ x b e, valK c o = .tuple #[.int .u32 x, .bool b, .int .i64 e] := by
  rcases o with _ | ⟨k, n⟩
  · exact ⟨_, _, _, rfl⟩
  · unfold valK
    simp only
    split
    · exact ⟨_, _, _, rfl⟩
    · split
      · exact ⟨_, _, _, rfl⟩
      · split <;> exact ⟨_, _, _, rfl⟩
theorem cut_at (p : Int) {k : Int} (h : wrap64 ((IntKind.u64.wrap p).tmod 32769) = k) : 0 ≤ k ∧ k ≤ 32768 := by
  have h0 : 0 ≤ IntKind.u64.wrap p := by simp only [IntKind.wrap, IntKind.bits, IntKind.signed]; simp; omega
  generalize IntKind.u64.wrap p = q at h h0
  rw [Int.tmod_eq_emod_of_nonneg h0] at h
  rw [IntWalk.wrap64_in _ (by omega)] at h
  omega
set_option maxHeartbeats 2000000 in
theorem tt_main (l : List Pl) (c : Mac) (mv u : Value) (p : Int) (w : World) (hu : Pls w u l) (hm : Ints .u8 w mv c.m) (hr : c.r.length = 32) (ha : 0 ≤ c.a ∧ c.a < 4294967296) (hp : -9223372036854775808 ≤ p ∧ p ≤ 9223372036854775807) (hl : traE l = 0) (hml : c.m.length ≤ 40000) :
    Calls Try.prog 3 #[u, .agg (macC c mv).toArray, .int .i64 p] w fun e w' => e = .returned (.bool true) ∧ Below w.heap.size w w' := by
  obtain ⟨hb0, k0⟩ := box_cells w (macC c mv) 27
  obtain ⟨W1, hW1⟩ : ∃ W, w.alloc (.cells (macC c mv).toArray 27) = W := ⟨_, rfl⟩
  rw [hW1] at hb0 k0
  have hs1 : W1.heap.size = w.heap.size + 1 := by rw [← hW1]; simp
  obtain ⟨ma, mc, rfl, hmc, hmc2, -, hmat⟩ := id hm
  have HB0 := Lib.hid hb0
  have HK : Hid (∀ W, Below W1.heap.size W1 W → CellsAt W w.heap.size (macC c (.slice ma c.m.length mc))) := fun W hb => k0.below (by rw [macC_len hr]; decide) hb
  have HU : Hid (∀ W, Below W1.heap.size W1 W → Pls W u l) := fun W hb => (hu.stays hb0).stays hb
  have HM : Hid (∀ W, Below W1.heap.size W1 W → Ints .u8 W (.slice ma c.m.length mc) c.m) := fun W hb => (hm.stays hb0).stays hb
  have HVL := Lib.hid (traE_valid hl)
  have HL := Lib.hid hl
  have HR := Lib.hid hr
  have HS1 := Lib.hid hs1
  have HFIN : Hid (∀ W, Below W1.heap.size W1 W → Below w.heap.size w W) := fun W hb => below_next hb0 hb0.size hb
  have hlen : l.length ≤ 64 := (traE_valid hl).len
  have h100 : decide ((100 : Int) < (l.length : Int)) = false := by simp; omega
  have h400 : decide ((40000 : Int) < (c.m.length : Int)) = false := by simp; omega
  have CK := Lib.hid (val_known W1)
  clear k0 hb0 hu hm hl hmat hr hs1
  go_enter Try.func3, Try.ntmps3
  go_upto_region 4 with (go_at_call 4; with_reducible refine CK.out.mono ?_; rintro e w2 ⟨rfl, hb2⟩)
  have HB2 := Lib.hid hb2
  have hmv : w2.cell? ⟨w.heap.size, 34, none⟩ = some (.slice ma c.m.length mc) := ((HK.out w2 hb2).tails HR.out).2.2.1.1
  clear hb2 hW1
  go_upto_region 6 with (go_at_call 5; with_reducible refine (long24_any l u w2 (HU.out w2 HB2.out)).mono ?_; rintro e w3 ⟨rfl, rfl⟩)
  go_upto_region 9 with (go_at_call 6; with_reducible refine (enc_ok l u w2 (HU.out w2 HB2.out) HL.out).mono ?_; rintro e w3 ⟨vb, rfl, hvb, hb3⟩; have HVB := Lib.hid hvb; have HB3 := Lib.hid (below_next HB2.out HB2.out.size hb3); clear hvb hb3)
  go_upto_region 10 with (go_at_call 8; with_reducible refine (dec_ok l vb w3 HL.out HVB.out).mono ?_; rintro e w4 ⟨uo, rfl, huo, hb4⟩; have HUO := Lib.hid huo; have HB4 := Lib.hid (below_next HB3.out HB3.out.size hb4); clear huo hb4)
  go_upto_region 11 with (go_at_call 9; refine (mrg_any l u w4 (HU.out w4 HB4.out) HL.out).mono ?_; rintro e w5 ⟨um, s, rfl, hum, hperm, hsort, hb5⟩; have HUM := Lib.hid hum; have HUO5 := Lib.hid (HUO.out.stays hb5); have HPERM := Lib.hid hperm; have HSORT := Lib.hid hsort; have HB5 := Lib.hid (below_next HB4.out HB4.out.size hb5); clear hum hperm hsort hb5)
  have HSV := Lib.hid (mrg_sorted HVL.out HPERM.out HSORT.out)
  have HSE := Lib.hid (traE_of HSV.out.1)
  have CS := Lib.hid (same24_eq l uo u w5 HUO5.out (HU.out w5 HB5.out))
  have CV : Hid (∀ W, Below w5.heap.size w5 W → Calls Try.prog 7 #[um] W fun e w' => e = .returned (.int .i64 0) ∧ Below W.heap.size W w') := fun W hb => by have := pVal24_any s um W (HUM.out.stays hb); rw [HSE.out] at this; exact this
  go_upto_region 13 with (first | (go_at_call 10; with_reducible refine CS.out.mono ?_; rintro e w6 ⟨rfl, hb6⟩) | (go_at_call 7; with_reducible refine (CV.out _ hb6).mono ?_; rintro e w7 ⟨rfl, hb7⟩))
  have HB67 := Lib.hid (below_next hb6 hb6.size hb7)
  have HUM7 := Lib.hid (HUM.out.stays HB67.out)
  have HB7 := Lib.hid (below_next HB5.out HB5.out.size HB67.out)
  clear hb6 hb7 CS CV
  obtain ⟨k, hk⟩ : ∃ k, wrap64 ((IntKind.u64.wrap p).tmod 32769) = k := ⟨_, rfl⟩
  obtain ⟨hk0, hk1⟩ := cut_at p hk
  have HKK := Lib.hid hk
  clear hk
  go_upto_region 14 with fail
  rw [HKK.out]
  go_upto_region 15 with (go_at_call 11; refine (cut_any l u 0 k w7 (HU.out w7 HB7.out) HL.out (by omega) hk0 hk1).mono ?_; rintro e w8 ⟨ulo, lo, rfl, hlo, hplo, hslo, hb8⟩; have HLO := Lib.hid hlo; have HLOS := Lib.hid (cut_sorted HVL.out (by omega) hk1 hplo hslo); have HB78 := Lib.hid hb8; have HB8 := Lib.hid (below_next HB7.out HB7.out.size hb8); clear hlo hplo hslo hb8)
  go_upto_region 16 with (go_at_call 11; refine (cut_any l u k 32768 w8 (HU.out w8 HB8.out) HL.out hk0 hk1 (by omega)).mono ?_; rintro e w9 ⟨uhi, hi, rfl, hhi, hphi, hshi, hb9⟩; have HHI := Lib.hid hhi; have HHIS := Lib.hid (cut_sorted HVL.out hk0 (by omega) hphi hshi); have HB89 := Lib.hid hb9; have HB9 := Lib.hid (below_next HB8.out HB8.out.size hb9); clear hhi hphi hshi hb9)
  go_upto_region 18 with fail
  have HLO9 := Lib.hid (HLO.out.stays HB89.out)
  have HUM9 := Lib.hid ((HUM7.out.stays HB78.out).stays HB89.out)
  have hl1 : lo.length ≤ 64 := HLOS.out.1.len
  have hl2 : hi.length ≤ 64 := HHIS.out.1.len
  have HR10 : Hid (RowG plL (w9.alloc (.cells #[] 32)) w9.heap.size 32 5 (.slice (some ⟨w9.heap.size, 0, none⟩) 0 0) []) := Lib.hid (rowP_empty w9 w9.heap.size (Nat.le_refl _) _)
  have HB10 : Hid (Below w9.heap.size w9 (w9.alloc (.cells #[] 32))) := Lib.hid ((Below.refl _ _).alloc (Nat.le_refl _) _)
  have HLO10 := Lib.hid (HLO9.out.stays HB10.out)
  have HH10 : Hid (∀ W, Below w9.heap.size (w9.alloc (.cells #[] 32)) W → Pls W uhi hi ∧ Below w9.heap.size w9 W) := Lib.hid fun W hb => ⟨HHI.out.stays (HB10.out.trans hb), HB10.out.trans hb⟩
  have q1 : ([] : List Pl).length + lo.length ≤ 100000 := by simp; omega
  have q2 : lo.length + hi.length ≤ 100000 := by omega
  have q3 : w9.heap.size ≤ (w9.alloc (.cells #[] 32)).heap.size := by simp
  have Q3 := Lib.hid q3
  clear q3
  go_upto_region 19 with (first | (at_builtin; refine appP_any rfl _ _ rfl w9.heap.size (.slice (some ⟨w9.heap.size, 0, none⟩) 0 0) [] rfl HR10.out ulo lo rfl HLO10.out q1 Q3.out (fun vx w11 hrx hbx => ?_); have HRX : Hid (RowG plL w11 w9.heap.size 32 5 vx lo) := Lib.hid hrx; have HHX := Lib.hid (HH10.out _ hbx); clear hrx hbx) | (at_builtin; refine appP_any rfl _ _ rfl w9.heap.size vx lo rfl HRX.out uhi hi rfl HHX.out.1 q2 HHX.out.2.size (fun vy w12 hry hby => ?_); have HRY := Lib.hid hry; have HBY := Lib.hid (HHX.out.2.trans hby); clear hry hby))
  have HUM12 := Lib.hid (HUM9.out.stays HBY.out)
  have HLO12 := Lib.hid (HLO9.out.stays HBY.out)
  have HHI12 := Lib.hid (HHI.out.stays HBY.out)
  have HB12 := Lib.hid (below_next HB9.out HB9.out.size HBY.out)
  have HWV : Hid ((lo ++ hi).length ≤ 64 → ValidP (lo ++ hi) ∧ ∀ v k n p, cov (lo ++ hi) v k n p ↔ cov l v k n p) := Lib.hid fun h => whole_valid HVL.out HLOS.out HHIS.out h
  obtain ⟨wh, hwh⟩ : ∃ wh, lo ++ hi = wh := ⟨_, rfl⟩
  have HWH := Lib.hid hwh
  rw [hwh] at HRY HWV
  obtain ⟨yv, yc, rfl⟩ := HRY.out.shape5
  obtain ⟨cs, hcs⟩ : ∃ cs, macC c (.slice ma c.m.length mc) = cs := ⟨_, rfl⟩
  have HCS := Lib.hid hcs
  have hsz : (Try.prog.info? 27).map (·.size) = some cs.length := by rw [← hcs, macC_len HR.out]; kernel_rfl
  rw [hcs]
  clear hwh hcs
  have hw1 : wh.length ≤ 128 := by rw [← HWH.out, List.length_append]; omega
  by_cases hwl : wh.length ≤ 64
  · have hwv := HWV.out hwl
    have HMG := Lib.hid (mrg_any wh _ w12 (RowG.pls HRY.out hwl) (traE_of hwv.1))
    have HAG : Hid (∀ s', s'.Perm (mrg wh) → (s'.Pairwise fun a b => ¬ b.lt a) → s' = s) := Lib.hid fun s' h1 h2 => again (c := 0) HVL.out (by rw [HWH.out]; exact hwv) HPERM.out HSORT.out (by rw [HWH.out]; exact h1) h2
    have HW2 : Hid (∀ W, Below w12.heap.size w12 W → Below W1.heap.size W1 W ∧ Pls W um s ∧ Pls W ulo lo ∧ Pls W uhi hi) := Lib.hid fun W hb => ⟨below_next HB12.out HB12.out.size hb, HUM12.out.stays hb, HLO12.out.stays hb, HHI12.out.stays hb⟩
    have hwl' : decide ((wh.length : Int) ≤ 64) = true := by simp; omega
    clear hwv
    go_upto_region 23 with (first | (go_at_call 9; refine HMG.out.mono ?_; rintro e w13 ⟨ua, s', rfl, hua, hpa, hsa, hb13⟩; rw [HAG.out s' hpa hsa] at hua; have HUA := Lib.hid hua; have HB13 := Lib.hid hb13; clear hua hpa hsa hb13) | (go_at_call 10; with_reducible refine (same24_eq _ ua um w13 HUA.out (HUM12.out.stays HB13.out)).mono ?_; rintro e w14 ⟨rfl, hb14⟩; have HB14 := Lib.hid (below_next HB13.out HB13.out.size hb14); clear hb14))
    obtain ⟨hbz, hum14, hlo14, hhi14⟩ := HW2.out w14 HB14.out
    have HBZ := Lib.hid hbz
    have HUM14 := Lib.hid hum14
    have HLO14 := Lib.hid hlo14
    have HHI14 := Lib.hid hhi14
    clear hbz hum14 hlo14 hhi14 hwl' HW2 HAG HMG HB14 HB13 HUA
    have HSE' := Lib.hid HSE.out
    have HLV := Lib.hid (traE_of HLOS.out.1)
    have HHV := Lib.hid (traE_of HHIS.out.1)
    have HRG : Hid (∀ W, Below w14.heap.size w14 W → W.rangeAt w.heap.size 0 cs ∧ W.cell? ⟨w.heap.size, 33, none⟩ = some (.int .u32 c.a)) := Lib.hid fun W hb => by
      have h := HK.out W (below_next HBZ.out HBZ.out.size hb)
      refine ⟨by rw [← HCS.out]; exact h.range, ?_⟩
      exact (h.tails HR.out).2.1.1
    have CL : Hid (∀ (i : Nat) W, i < 64 → Below w14.heap.size w14 W → Calls Try.prog 4 #[u, .agg cs.toArray, .int .i64 (i : Int)] W fun e w' => e = .returned (valK c (fndT l i c.a)) ∧ Below W.heap.size W w') := Lib.hid fun i W hi hb => by
      rw [← HCS.out]; exact val_any l u _ c i W (HU.out W (below_next HBZ.out HBZ.out.size hb)) HL.out (by simp; omega) (HM.out W (below_next HBZ.out HBZ.out.size hb)) HR.out ha
    have CM : Hid (∀ (i : Nat) W, i < 64 → Below w14.heap.size w14 W → Calls Try.prog 4 #[um, .agg cs.toArray, .int .i64 (i : Int)] W fun e w' => e = .returned (valK c (fndT l i c.a)) ∧ Below W.heap.size W w') := Lib.hid fun i W hi hb => by
      rw [← HCS.out, ← fnd_mrg HVL.out HSV.out i c.a]; exact val_any s um _ c i W (HUM14.out.stays hb) HSE.out (by simp; omega) (HM.out W (below_next HBZ.out HBZ.out.size hb)) HR.out ha
    have CO : Hid (c.a < k → ∀ (i : Nat) W, i < 64 → Below w14.heap.size w14 W → Calls Try.prog 4 #[ulo, .agg cs.toArray, .int .i64 (i : Int)] W fun e w' => e = .returned (valK c (fndT l i c.a)) ∧ Below W.heap.size W w') := Lib.hid fun hc i W hi hb => by
      rw [← HCS.out, ← fnd_low HVL.out HLOS.out ha.1 hc i]; exact val_any lo ulo _ c i W (HLO14.out.stays hb) HLV.out (by simp; omega) (HM.out W (below_next HBZ.out HBZ.out.size hb)) HR.out ha
    have CH : Hid (k ≤ c.a → ∀ (i : Nat) W, i < 64 → Below w14.heap.size w14 W → Calls Try.prog 4 #[uhi, .agg cs.toArray, .int .i64 (i : Int)] W fun e w' => e = .returned (valK c (fndT l i c.a)) ∧ Below W.heap.size W w') := Lib.hid fun hc i W hi64 hb => by
      rw [← HCS.out, ← fnd_high HVL.out HHIS.out hc i]; exact val_any hi uhi _ c i W (HHI14.out.stays hb) HHV.out (by simp; omega) (HM.out W (below_next HBZ.out HBZ.out.size hb)) HR.out ha
    go_wp2_with fail
    go_loopw [20] (fun v wr => ∃ i : Nat, i ≤ 64 ∧ v = .int .i64 i ∧ Below w14.heap.size w14 wr) (fun v _ => 64 - (intOf v).toNat)
    case atStart => exact ⟨0, by omega, rfl, Below.refl _ _⟩
    case round =>
      obtain ⟨i, hi64, rfl, hbr⟩ := hrel
      have HBR := Lib.hid hbr
      by_cases hil : i < 64
      · have i1 : (i : Int) < 64 := by omega
        have hwa : wrap64 c.a = c.a := IntWalk.wrap64_in _ (by omega)
        obtain ⟨x, b, e, hV⟩ := valK_tuple c (fndT l i c.a)
        have C1 := Lib.hid (CL.out i wr hil hbr)
        rw [hV] at C1
        have C2 : Hid (∀ W, Below w14.heap.size w14 W → Calls Try.prog 4 #[um, .agg cs.toArray, .int .i64 (i : Int)] W fun e' w' => e' = .returned (.tuple #[.int .u32 x, .bool b, .int .i64 e]) ∧ Below W.heap.size W w') := Lib.hid fun W hb => by rw [← hV]; exact CM.out i W hil hb
        have hrg := (HRG.out wr hbr).1
        go_upto_region 27 with (first | (refine wpList_load_mid rfl _ _ rfl w.heap.size 0 rfl cs _ hrg Try.underlying27 rfl hsz ?_) | (go_at_call 4; with_reducible refine C1.out.mono ?_; rintro e1 wa ⟨rfl, hba⟩; have HBA := Lib.hid (below_next HBR.out HBR.out.size hba); clear hba))
        clear hrg
        have hrg := (HRG.out wa HBA.out).1
        go_upto_region 28 with (first | (refine wpList_load_mid rfl _ _ rfl w.heap.size 0 rfl cs _ hrg Try.underlying27 rfl hsz ?_) | (go_at_call 4; with_reducible refine (C2.out _ HBA.out).mono ?_; rintro e1 wb ⟨rfl, hbb⟩; have HBB := Lib.hid (below_next HBA.out HBA.out.size hbb); clear hbb))
        clear hrg
        have hrg := (HRG.out wb HBB.out).1
        have hca := (HRG.out wb HBB.out).2
        by_cases hck : k ≤ c.a
        · have C3 := Lib.hid (CH.out hck i wb hil HBB.out)
          rw [hV] at C3
          have hck' : decide (k ≤ c.a) = true := by simpa using hck
          clear hV
          go_wp2_with (first | (refine wpList_load_mid rfl _ _ rfl w.heap.size 0 rfl cs _ hrg Try.underlying27 rfl hsz ?_) | (go_at_call 4; with_reducible refine C3.out.mono ?_; rintro e1 wc ⟨rfl, hbc⟩; have HBC := Lib.hid (below_next HBB.out HBB.out.size hbc); clear hbc))
          go_roundw
          case rel => exact ⟨i + 1, by omega, by go_num, HBC.out⟩
          case measure => simp [intOf]; omega
        · have C3 := Lib.hid (CO.out (by omega) i wb hil HBB.out)
          rw [hV] at C3
          have hck' : decide (k ≤ c.a) = false := by simpa using hck
          clear hV
          go_wp2_with (first | (refine wpList_load_mid rfl _ _ rfl w.heap.size 0 rfl cs _ hrg Try.underlying27 rfl hsz ?_) | (go_at_call 4; with_reducible refine C3.out.mono ?_; rintro e1 wc ⟨rfl, hbc⟩; have HBC := Lib.hid (below_next HBB.out HBB.out.size hbc); clear hbc))
          go_roundw
          case rel => exact ⟨i + 1, by omega, by go_num, HBC.out⟩
          case measure => simp [intOf]; omega
      · obtain rfl : i = 64 := by omega
        go_wp2_with fail
        go_ret
        exact ⟨rfl, HFIN.out _ (below_next HBZ.out HBZ.out.size HBR.out)⟩
  · have hwl' : decide ((wh.length : Int) ≤ 64) = false := by simp; omega
    obtain ⟨w14, hw14⟩ : ∃ w14, w12 = w14 := ⟨_, rfl⟩
    have HBZ := Lib.hid HB12.out
    have HUM14 := Lib.hid HUM12.out
    have HLO14 := Lib.hid HLO12.out
    have HHI14 := Lib.hid HHI12.out
    rw [hw14] at HBZ HUM14 HLO14 HHI14
    subst hw14
    go_upto_region 23 with fail
    clear hwl'
    generalize w12 = w14 at *
    have HSE' := Lib.hid HSE.out
    have HLV := Lib.hid (traE_of HLOS.out.1)
    have HHV := Lib.hid (traE_of HHIS.out.1)
    have HRG : Hid (∀ W, Below w14.heap.size w14 W → W.rangeAt w.heap.size 0 cs ∧ W.cell? ⟨w.heap.size, 33, none⟩ = some (.int .u32 c.a)) := Lib.hid fun W hb => by
      have h := HK.out W (below_next HBZ.out HBZ.out.size hb)
      refine ⟨by rw [← HCS.out]; exact h.range, ?_⟩
      exact (h.tails HR.out).2.1.1
    have CL : Hid (∀ (i : Nat) W, i < 64 → Below w14.heap.size w14 W → Calls Try.prog 4 #[u, .agg cs.toArray, .int .i64 (i : Int)] W fun e w' => e = .returned (valK c (fndT l i c.a)) ∧ Below W.heap.size W w') := Lib.hid fun i W hi hb => by
      rw [← HCS.out]; exact val_any l u _ c i W (HU.out W (below_next HBZ.out HBZ.out.size hb)) HL.out (by simp; omega) (HM.out W (below_next HBZ.out HBZ.out.size hb)) HR.out ha
    have CM : Hid (∀ (i : Nat) W, i < 64 → Below w14.heap.size w14 W → Calls Try.prog 4 #[um, .agg cs.toArray, .int .i64 (i : Int)] W fun e w' => e = .returned (valK c (fndT l i c.a)) ∧ Below W.heap.size W w') := Lib.hid fun i W hi hb => by
      rw [← HCS.out, ← fnd_mrg HVL.out HSV.out i c.a]; exact val_any s um _ c i W (HUM14.out.stays hb) HSE.out (by simp; omega) (HM.out W (below_next HBZ.out HBZ.out.size hb)) HR.out ha
    have CO : Hid (c.a < k → ∀ (i : Nat) W, i < 64 → Below w14.heap.size w14 W → Calls Try.prog 4 #[ulo, .agg cs.toArray, .int .i64 (i : Int)] W fun e w' => e = .returned (valK c (fndT l i c.a)) ∧ Below W.heap.size W w') := Lib.hid fun hc i W hi hb => by
      rw [← HCS.out, ← fnd_low HVL.out HLOS.out ha.1 hc i]; exact val_any lo ulo _ c i W (HLO14.out.stays hb) HLV.out (by simp; omega) (HM.out W (below_next HBZ.out HBZ.out.size hb)) HR.out ha
    have CH : Hid (k ≤ c.a → ∀ (i : Nat) W, i < 64 → Below w14.heap.size w14 W → Calls Try.prog 4 #[uhi, .agg cs.toArray, .int .i64 (i : Int)] W fun e w' => e = .returned (valK c (fndT l i c.a)) ∧ Below W.heap.size W w') := Lib.hid fun hc i W hi64 hb => by
      rw [← HCS.out, ← fnd_high HVL.out HHIS.out hc i]; exact val_any hi uhi _ c i W (HHI14.out.stays hb) HHV.out (by simp; omega) (HM.out W (below_next HBZ.out HBZ.out.size hb)) HR.out ha
    go_wp2_with fail
    go_loopw [20] (fun v wr => ∃ i : Nat, i ≤ 64 ∧ v = .int .i64 i ∧ Below w14.heap.size w14 wr) (fun v _ => 64 - (intOf v).toNat)
    case atStart => exact ⟨0, by omega, rfl, Below.refl _ _⟩
    case round =>
      obtain ⟨i, hi64, rfl, hbr⟩ := hrel
      have HBR := Lib.hid hbr
      by_cases hil : i < 64
      · have i1 : (i : Int) < 64 := by omega
        have hwa : wrap64 c.a = c.a := IntWalk.wrap64_in _ (by omega)
        obtain ⟨x, b, e, hV⟩ := valK_tuple c (fndT l i c.a)
        have C1 := Lib.hid (CL.out i wr hil hbr)
        rw [hV] at C1
        have C2 : Hid (∀ W, Below w14.heap.size w14 W → Calls Try.prog 4 #[um, .agg cs.toArray, .int .i64 (i : Int)] W fun e' w' => e' = .returned (.tuple #[.int .u32 x, .bool b, .int .i64 e]) ∧ Below W.heap.size W w') := Lib.hid fun W hb => by rw [← hV]; exact CM.out i W hil hb
        have hrg := (HRG.out wr hbr).1
        go_upto_region 27 with (first | (refine wpList_load_mid rfl _ _ rfl w.heap.size 0 rfl cs _ hrg Try.underlying27 rfl hsz ?_) | (go_at_call 4; with_reducible refine C1.out.mono ?_; rintro e1 wa ⟨rfl, hba⟩; have HBA := Lib.hid (below_next HBR.out HBR.out.size hba); clear hba))
        clear hrg
        have hrg := (HRG.out wa HBA.out).1
        go_upto_region 28 with (first | (refine wpList_load_mid rfl _ _ rfl w.heap.size 0 rfl cs _ hrg Try.underlying27 rfl hsz ?_) | (go_at_call 4; with_reducible refine (C2.out _ HBA.out).mono ?_; rintro e1 wb ⟨rfl, hbb⟩; have HBB := Lib.hid (below_next HBA.out HBA.out.size hbb); clear hbb))
        clear hrg
        have hrg := (HRG.out wb HBB.out).1
        have hca := (HRG.out wb HBB.out).2
        by_cases hck : k ≤ c.a
        · have C3 := Lib.hid (CH.out hck i wb hil HBB.out)
          rw [hV] at C3
          have hck' : decide (k ≤ c.a) = true := by simpa using hck
          clear hV
          go_wp2_with (first | (refine wpList_load_mid rfl _ _ rfl w.heap.size 0 rfl cs _ hrg Try.underlying27 rfl hsz ?_) | (go_at_call 4; with_reducible refine C3.out.mono ?_; rintro e1 wc ⟨rfl, hbc⟩; have HBC := Lib.hid (below_next HBB.out HBB.out.size hbc); clear hbc))
          go_roundw
          case rel => exact ⟨i + 1, by omega, by go_num, HBC.out⟩
          case measure => simp [intOf]; omega
        · have C3 := Lib.hid (CO.out (by omega) i wb hil HBB.out)
          rw [hV] at C3
          have hck' : decide (k ≤ c.a) = false := by simpa using hck
          clear hV
          go_wp2_with (first | (refine wpList_load_mid rfl _ _ rfl w.heap.size 0 rfl cs _ hrg Try.underlying27 rfl hsz ?_) | (go_at_call 4; with_reducible refine C3.out.mono ?_; rintro e1 wc ⟨rfl, hbc⟩; have HBC := Lib.hid (below_next HBB.out HBB.out.size hbc); clear hbc))
          go_roundw
          case rel => exact ⟨i + 1, by omega, by go_num, HBC.out⟩
          case measure => simp [intOf]; omega
      · obtain rfl : i = 64 := by omega
        go_wp2_with fail
        go_ret
        exact ⟨rfl, HFIN.out _ (below_next HBZ.out HBZ.out.size HBR.out)⟩
set_option maxHeartbeats 2000000 in
theorem tt_side (l : List Pl) (c : Mac) (mv u : Value) (p : Int) (w : World) (hu : Pls w u l) (hm : Ints .u8 w mv c.m) (hr : c.r.length = 32) (h : 100 < l.length ∨ 40000 < c.m.length ∨ traE l ≠ 0) :
    Calls Try.prog 3 #[u, .agg (macC c mv).toArray, .int .i64 p] w fun e w' => e = .returned (.bool true) ∧ Below w.heap.size w w' := by
  obtain ⟨hb0, k0⟩ := box_cells w (macC c mv) 27
  obtain ⟨W1, hW1⟩ : ∃ W, w.alloc (.cells (macC c mv).toArray 27) = W := ⟨_, rfl⟩
  rw [hW1] at hb0 k0
  obtain ⟨ma, mc, rfl, hmc, hmc2, -, hmat⟩ := id hm
  have HMV : Hid (∀ W, Below W1.heap.size W1 W → W.cell? ⟨w.heap.size, 34, none⟩ = some (.slice ma c.m.length mc)) := fun W hb => ((k0.below (by rw [macC_len hr]; decide) hb).tails hr).2.2.1.1
  have HU : Hid (∀ W, Below W1.heap.size W1 W → Pls W u l) := fun W hb => (hu.stays hb0).stays hb
  have HFIN : Hid (∀ W, Below W1.heap.size W1 W → Below w.heap.size w W) := fun W hb => below_next hb0 hb0.size hb
  have CK := Lib.hid (val_known W1)
  have hml : (c.m.length : Int) ≤ 140737488351232 := by omega
  clear k0 hb0 hu hm hmat
  by_cases h1 : 100 < l.length
  · have h100 : decide ((100 : Int) < (l.length : Int)) = true := by simp; omega
    clear h
    go_enter Try.func3, Try.ntmps3
    go_upto_region 4 with (go_at_call 4; with_reducible refine CK.out.mono ?_; rintro e w2 ⟨rfl, hb2⟩)
    have HB2 := Lib.hid hb2
    clear hb2 hW1
    go_wp2_with (go_at_call 5; with_reducible refine (long24_any l u w2 (HU.out w2 HB2.out)).mono ?_; rintro e w3 ⟨rfl, rfl⟩)
    go_ret
    exact ⟨rfl, HFIN.out _ HB2.out⟩
  · have h100 : decide ((100 : Int) < (l.length : Int)) = false := by simp; omega
    by_cases h2 : 40000 < c.m.length
    · have h400 : decide ((40000 : Int) < (c.m.length : Int)) = true := by simp; omega
      clear h
      go_enter Try.func3, Try.ntmps3
      go_upto_region 4 with (go_at_call 4; with_reducible refine CK.out.mono ?_; rintro e w2 ⟨rfl, hb2⟩)
      have HB2 := Lib.hid hb2
      have hmv := HMV.out w2 hb2
      clear hb2 hW1
      go_wp2_with (go_at_call 5; with_reducible refine (long24_any l u w2 (HU.out w2 HB2.out)).mono ?_; rintro e w3 ⟨rfl, rfl⟩)
      go_ret
      exact ⟨rfl, HFIN.out _ HB2.out⟩
    · have h400 : decide ((40000 : Int) < (c.m.length : Int)) = false := by simp; omega
      have HL : Hid (traE l ≠ 0) := Lib.hid (h.elim (fun e => absurd e h1) fun e => e.elim (fun e => absurd e h2) id)
      have HV : Hid (∀ W, Below W1.heap.size W1 W → Calls Try.prog 7 #[u] W fun e w' => e = .returned (.int .i64 (traE l)) ∧ Below W.heap.size W w') := Lib.hid fun W hb => pVal24_any l u W (HU.out W hb)
      have HE : Hid (∀ W, Below W1.heap.size W1 W → Calls Try.prog 6 #[u] W fun e w' => e = .returned (.tuple #[.slice none 0 0, .int .i64 (traE l)]) ∧ Below W.heap.size W w') := Lib.hid fun W hb => enc_bad l u W (HU.out W hb) HL.out
      generalize traE l = n at *
      have hz : (n != 0) = true := by simpa using HL.out
      clear h
      go_enter Try.func3, Try.ntmps3
      go_upto_region 4 with (go_at_call 4; with_reducible refine CK.out.mono ?_; rintro e w2 ⟨rfl, hb2⟩)
      have HB2 := Lib.hid hb2
      have hmv := HMV.out w2 hb2
      clear hb2 hW1
      go_upto_region 6 with (go_at_call 5; with_reducible refine (long24_any l u w2 (HU.out w2 HB2.out)).mono ?_; rintro e w3 ⟨rfl, rfl⟩)
      go_upto_region 7 with (go_at_call 6; with_reducible refine (HE.out w2 HB2.out).mono ?_; rintro e w3 ⟨rfl, hb3⟩; have HB3 := Lib.hid (below_next HB2.out HB2.out.size hb3); clear hb3)
      go_wp2_with (go_at_call 7; with_reducible refine (HV.out w3 HB3.out).mono ?_; rintro e w4 ⟨rfl, hb4⟩; have HB4 := Lib.hid (below_next HB3.out HB3.out.size hb4); clear hb4)
      go_ret
      exact ⟨rfl, HFIN.out _ HB4.out⟩
theorem wTopTraces (l : List Pl) (c : Mac) (mv u : Value) (p : Int) (w : World) (hu : Pls w u l) (hm : Ints .u8 w mv c.m) (hr : c.r.length = 32) (ha : 0 ≤ c.a ∧ c.a < 4294967296) (hp : -9223372036854775808 ≤ p ∧ p ≤ 9223372036854775807) :
    Calls Try.prog 3 #[u, .agg (macC c mv).toArray, .int .i64 p] w fun e w' => e = .returned (.bool true) ∧ Below w.heap.size w w' := by
  by_cases h : 100 < l.length ∨ 40000 < c.m.length ∨ traE l ≠ 0
  · exact tt_side l c mv u p w hu hm hr h
  · exact tt_main l c mv u p w hu hm hr ha hp (Classical.byContradiction fun e => h (.inr (.inr e))) (by omega)
end Go.Proofs.Ytgcfadnnajahhaa
namespace Go.Proofs.Ytgcfadnnajahhaa
open Go.RowKit Go.WideShapes Go.ChangeShapes
section
variable {H : Type} {enc : TypeId × Value → H} {P : Program}
theorem trodAll_stays (hl : laidOutB P = true) {W W' : World} (hb : Below W.heap.size W W') (sp : Nat → Bool) : ∀ (ts : List TypeId) (vs : List Value) (ds : List (DataW H)) (ps : List MemPlace),
    (∀ t ∈ ts, P.readableRec t = true ∧ t < P.types.size) → DataW.TrodAll enc P W 0 (fun _ => true) true ts vs ds ps → (∀ x ∈ ps, x.block < W.heap.size) → (∀ p ∈ ps, sp p.block = true) → DataW.TrodAll enc P W' 0 sp true ts vs ds ps
  | [], vs, ds, ps, _, h, _, _ => by
    obtain ⟨rfl, rfl, rfl⟩ := trodAll_nil h
    exact trodAll_mk0
  | t :: ts, vs, ds, ps, ht, h, hlt, hsp => by
    obtain ⟨v, vs', d, ds', p, q, rfl, rfl, rfl, h1, h2⟩ := trodAll_cons h
    have h3 := ht t (List.mem_cons_self ..)
    exact trodAll_cons_mk (WideElems.Trod_stays hl h3.1 h3.2 h1 (fun x hx => hb.same (hlt x (List.mem_append.2 (.inl hx)))) (fun x hx => hsp x (List.mem_append.2 (.inl hx))))
      (trodAll_stays hl hb sp ts vs' ds' q (fun t' h' => ht t' (List.mem_cons_of_mem _ h')) h2 (fun x hx => hlt x (List.mem_append.2 (.inr hx))) (fun x hx => hsp x (List.mem_append.2 (.inr hx))))
theorem post_below {f : Func} {s : ChangeSpec} {apart fresh handsOn again : Bool} {W W' : World} {args : Array Value} {v : Value} {ds gs : List (DataW H)} {before pa pv : List MemPlace}
    (hW : DataW.Whole enc P f.params.toList s.vars apart W args.toList ds gs before)
    (hres : ∀ (b : Nat) (sp : Nat → Bool) (hd : Bool), DataW.TrodAll enc P W' b sp hd f.resultTypes.toList (v.resultList f.resultTypes.size) (s.fn H (ds ++ gs)).results [])
    (hargs : ∀ sp : Nat → Bool, (∀ p ∈ before, sp p.block = true) → DataW.TrodAll enc P W' 0 sp true f.params.toList args.toList (s.fn H (ds ++ gs)).args pa)
    (hvars : ∀ sp : Nat → Bool, (∀ p ∈ before, sp p.block = true) → DataW.TrodVars enc P W' sp s.vars (s.fn H (ds ++ gs)).vars pv)
    (hps : before = pa ++ pv) (hb : Below W.heap.size W W')
    (hok : ∀ (j : Nat) (t : TypeId) (r : Value), f.resultTypes[j]? = some t → (v.resultList f.resultTypes.size)[j]? = some r → Value.okWide P W' .any 0 t r) :
    s.post enc P f apart fresh handsOn again W args v W' := by
  have hlt : ∀ p ∈ before, p.block < W.heap.size := fun p hp => hW.lt p hp
  have hold : ∀ p ∈ before, (fun b => decide (b < W.heap.size)) p.block = true := fun p hp => by simpa using hlt p hp
  refine ⟨ds, gs, before, [], pa, pv, hW, hres _ _ _, hargs _ hold, hvars _ hold, World.keptBut_mono (fun p hp => ⟨hp, ?_⟩) (hb.frame (· ∈ before)), fun _ => ?_⟩
  · rw [hps, List.mem_append] at hp
    exact Or.inr hp
  · obtain ⟨_, _, _, _, _, hz, hn⟩ := hW
    refine ⟨hok, _, _, ([] ++ pa) ++ pv, ⟨[] ++ pa, pv, trodAll_append (hargs _ (fun _ _ => rfl)) (hres _ _ _), hvars _ (fun _ _ => rfl), rfl, ?_, ?_⟩, ?_⟩
    · intro b off hp
      have hin : MemPlace.cell b off ∈ before := by rw [hps]; simpa using hp
      rw [hb.frozen (hlt _ hin)]
      exact hz b off hin
    · intro ha
      have := hn ha
      rw [hps] at this
      simpa using this
    · intro p hp _
      rw [hps]
      simpa using hp
theorem post_law {f : Func} {s : ChangeSpec} {apart fresh handsOn again : Bool} {W W' : World} {args : Array Value} {ds gs : List (DataW H)} {before : List MemPlace} {tb : TypeId}
    (hl : laidOutB P = true) (hts : ∀ t ∈ f.params.toList, P.readableRec t = true ∧ t < P.types.size) (hres : f.resultTypes = #[tb]) (htb : P.underlying tb = some .bool) (hv : s.vars = [])
    (hW : DataW.Whole enc P f.params.toList s.vars apart W args.toList ds gs before) (hfn : s.fn H (ds ++ gs) = { results := [.lit (.bool true)], args := ds }) (hb : Below W.heap.size W W') :
    s.post enc P f apart fresh handsOn again W args (.bool true) W' := by
  have hW2 := hW
  obtain ⟨p, q, hA, hV, rfl, _, _⟩ := hW2
  rw [hv] at hV
  obtain ⟨rfl, rfl⟩ := trodVars_none hV
  refine post_below (pa := p) (pv := []) hW (fun b sp hd => ?_) (fun sp hsp => ?_) (fun sp _ => ?_) rfl hb (ok_one hres rfl (okWide_bool_mk htb _))
  · rw [hfn, hres]
    exact trodAll_mk1 (shut_bool htb _)
  · rw [hfn]
    exact trodAll_stays hl hb sp _ _ _ _ hts hA (fun x hx => hW.lt x (List.mem_append.2 (.inl hx))) (fun x hx => hsp x (List.mem_append.2 (.inl hx)))
  · rw [hfn, hv]
    trivial
end
end Go.Proofs.Ytgcfadnnajahhaa
namespace Go.Proofs.Ytgcfadnnajahhaa
open Go.RowKit Go.WideShapes Go.ChangeShapes Go.Deep
set_option linter.unusedVariables false
set_option linter.unusedSimpArgs false
section
variable {H : Type} {enc : TypeId × Value → H} {P : Program} {W : World} {base : Nat} {held : Bool}
def FitsK (k : IntKind) (x : Int) : Prop := (Lit.int k x).wf = true
theorem weights_len {t e : TypeId} {elems spare : List (DataW H)} (ht : P.underlying t = some (.slice e)) (hb : 1 ≤ P.bytesOf e) (hw : ∀ n ∈ (DataW.slice elems spare).weights P t, n ≤ reachBytes) : elems.length + spare.length ≤ 140737488351232 := by
  have h := hw ((elems.length + spare.length) * P.bytesOf e) (by simp [DataW.weights, ht])
  have h2 : elems.length + spare.length ≤ (elems.length + spare.length) * P.bytesOf e := Nat.le_mul_of_pos_right _ hb
  unfold reachBytes at h
  omega
theorem readI {t e : TypeId} {k : IntKind} {fuel : Nat} {cs : List Value} {d : DataW H} {ps : List MemPlace} (ht : P.underlying t = some (.slice e)) (he : P.underlying e = some (.int k)) (hc : P.cellsOf e = 1) (hby : 1 ≤ P.bytesOf e)
    (h : DataW.trod enc P W base (fun _ => true) held fuel t cs = some (d, ps)) (hw : ∀ n ∈ d.weights P t, n ≤ reachBytes) : ∃ v xs, cs = [v] ∧ Ints k W v xs ∧ ∀ x ∈ xs, FitsK k x := by
  rcases open_ints ht he hc h with ⟨rfl, hx⟩ | ⟨a, len, cap, zs, rfl, hb, hl, hm, hz, hx, hcell, hwf⟩
  · exact ⟨_, [], rfl, ⟨none, 0, rfl, Nat.le_refl _, ⟨by simp, by omega⟩, fun _ => rfl, fun i hi => absurd hi (by simp)⟩, fun x hx => by cases hx⟩
  · simp only [if_true] at hz
    simp only [Prod.mk.injEq] at hx
    have hcap : cap ≤ 140737488351232 := by
      rw [hx.1] at hw
      have := weights_len ht hby hw
      simp [lits] at this
      omega
    have hlen : (zs.take len).length = len := by rw [List.length_take]; omega
    refine ⟨_, zs.take len, rfl, ⟨some a, cap, by rw [hlen], by omega, ⟨by omega, by unfold maxLen at hm; omega⟩, (fun hh => by cases hh), fun i hi => ?_⟩, fun x hx => hwf x (List.mem_of_mem_take hx)⟩
    rw [hlen] at hi
    have hc0 := hcell i (by omega)
    have hs := World.cell?_spot hc0
    obtain ⟨b, o, s⟩ := a
    have hsp : s = none := by
      by_cases e0 : i = 0
      · subst e0; exact World.cell?_spot (hcell 0 (by omega))
      · exact World.cell?_spot (hcell 0 (by omega))
    subst hsp
    have e1 : (⟨b, o, none⟩ : Addr).add i = ⟨b, o + i, none⟩ := by
      unfold Addr.add
      by_cases e0 : i = 0
      · rw [if_pos e0, e0]; rfl
      · rw [if_neg e0]
    rw [e1] at hc0
    refine ⟨b, o, rfl, cell_lt hc0, ?_⟩
    show W.cell? ⟨b, o + i * 1, none⟩ = _
    rw [Nat.mul_one, hc0, List.getD_eq_getElem?_getD, List.getD_eq_getElem?_getD, List.getElem?_take, if_pos hi]
theorem add_add (b o i j : Nat) : ((⟨b, o, none⟩ : Addr).add i).add j = ⟨b, o + i + j, none⟩ := by
  have e : ∀ (o i : Nat), (⟨b, o, none⟩ : Addr).add i = ⟨b, o + i, none⟩ := by
    intro o i
    unfold Addr.add
    by_cases e0 : i = 0
    · rw [if_pos e0, e0]; rfl
    · rw [if_neg e0]
  rw [e, e]
theorem weights_mem {fs : Array Field} {t : TypeId} {parts : List (DataW H)} (ht : P.underlying t = some (.struct fs)) {i : Nat} {f : Field} {d : DataW H} (hf : fs[i]? = some f) (hd : parts[i]? = some d) {n : Nat} (hn : n ∈ d.weights P f.type) : n ∈ (DataW.agg parts).weights P t := by
  have h1 : (fs.toList.map (·.type))[i]? = some f.type := by rw [List.getElem?_map]; simp [hf]
  have := DataW.weights_mem_each h1 hd n hn
  simpa [DataW.weights, ht] using this
theorem weightsAll_mem {e : TypeId} : ∀ {l : List (DataW H)} {d : DataW H}, d ∈ l → ∀ n ∈ d.weights P e, n ∈ DataW.weightsAll P e l
  | x :: l, d, h, n, hn => by
    simp only [DataW.weightsAll, List.mem_append]
    rcases List.mem_cons.1 h with rfl | h
    · exact Or.inl hn
    · exact Or.inr (weightsAll_mem h n hn)
structure NodeTy (P : Program) (e ei : TypeId) (f0 f1 f2 f3 f4 : Field) : Prop where
  st : P.underlying e = some (.struct #[f0, f1, f2, f3, f4])
  o : f0.offset = 0 ∧ f1.offset = 1 ∧ f2.offset = 2 ∧ f3.offset = 3 ∧ f4.offset = 4
  u0 : P.underlying f0.type = some (.int .i64)
  u1 : P.underlying f1.type = some (.int .i64)
  u2 : P.underlying f2.type = some (.int .i64)
  u3 : P.underlying f3.type = some (.slice ei)
  u4 : P.underlying f4.type = some (.int .u32)
  ui : P.underlying ei = some (.int .i64)
  c : P.cellsOf f0.type = 1 ∧ P.cellsOf f1.type = 1 ∧ P.cellsOf f2.type = 1 ∧ P.cellsOf f3.type = 1 ∧ P.cellsOf f4.type = 1 ∧ P.cellsOf ei = 1 ∧ P.cellsOf e = 5
  b : 1 ≤ P.bytesOf ei
theorem fits_i64 {x : Int} (h : FitsK .i64 x) : -9223372036854775808 ≤ x ∧ x ≤ 9223372036854775807 := by simpa [FitsK, Lit.wf, IntKind.min, IntKind.max, IntKind.signed, IntKind.bits] using h
end
end Go.Proofs.Ytgcfadnnajahhaa
namespace Go.Proofs.Ytgcfadnnajahhaa
open Go.RowKit Go.WideShapes Go.ChangeShapes Go.Deep
set_option linter.unusedVariables false
set_option linter.unusedSimpArgs false
section
variable {H : Type} {enc : TypeId × Value → H} {P : Program} {W : World} {base : Nat} {held : Bool}
theorem readSlc {α : Type} [Inhabited α] {t e : TypeId} {z : Nat} {R : Nat → Nat → α → Prop} {F : α → Prop} (ht : P.underlying t = some (.slice e)) (hz : P.cellsOf e = z) (hz0 : 1 ≤ z) (hby : 1 ≤ P.bytesOf e) {fuel : Nat} {cs : List Value} {d : DataW H} {ps : List MemPlace}
    (h1 : ∀ (fuel b o : Nat) (cs : List Value) (d : DataW H) (ps : List MemPlace), (∀ i, i < z → W.cell? ⟨b, o + i, none⟩ = cs[i]?) → cs.length = z → DataW.trod enc P W base (fun _ => true) held fuel e cs = some (d, ps) → (∀ n ∈ d.weights P e, n ≤ reachBytes) → ∃ x : α, R b o x ∧ F x)
    (h : DataW.trod enc P W base (fun _ => true) held fuel t cs = some (d, ps)) (hw : ∀ n ∈ d.weights P t, n ≤ reachBytes) :
    ∃ (v : Value) (l : List α), cs = [v] ∧ Slc W v l.length z (fun i b o => R b o (l.getD i default)) ∧ ∀ x ∈ l, F x := by
  rcases open_slice ht h with ⟨rfl, hx⟩ | ⟨a, len, cap, m, n, D, Pl, rfl, hb, hl, hm, hmm, hx, hel⟩
  · exact ⟨_, [], rfl, ⟨none, 0, rfl, Nat.le_refl _, ⟨by simp, by omega⟩, fun _ => rfl, fun i hi => absurd hi (by simp)⟩, fun x hx => by cases hx⟩
  · simp only [if_true] at hmm
    subst hmm
    simp only [Prod.mk.injEq] at hx
    obtain ⟨hd, _⟩ := hx
    have hcap : m ≤ 140737488351232 := by
      rw [hd] at hw
      have := weights_len ht hby hw
      simp at this
      omega
    by_cases hl0 : len = 0
    · subst hl0
      exact ⟨_, [], rfl, ⟨some a, m, rfl, by omega, ⟨by simp, by omega⟩, (fun hh => by cases hh), fun i hi => absurd hi (by simp)⟩, fun x hx => by cases hx⟩
    have hsp : a.spot = none := by
      obtain ⟨cs', h1, _⟩ := hel 0 (by omega)
      rw [hz] at h1
      obtain ⟨_, hl5, hg⟩ := World.cells?_some h1
      have h0 := hg 0 (by omega)
      have e0 : (a.add (0 * z)).add 0 = a := by simp [Addr.add]
      rw [e0, List.getElem?_eq_getElem (by omega)] at h0
      exact World.cell?_spot h0
    obtain ⟨b, o, s⟩ := a
    simp only at hsp
    subst hsp
    obtain ⟨V, hV⟩ := choose_lt (α := α) (n := len) (p := fun i x => b < W.heap.size ∧ R b (o + i * z) x ∧ F x) (fun i hi => by
      obtain ⟨cs', g1, g2⟩ := hel i (by omega)
      rw [hz] at g1
      obtain ⟨_, hl5, hg⟩ := World.cells?_some g1
      have hg' : ∀ j, j < z → W.cell? ⟨b, o + i * z + j, none⟩ = cs'[j]? := fun j hj => by rw [← add_add b o (i * z) j]; exact hg j hj
      obtain ⟨x, q1, q2⟩ := h1 _ b (o + i * z) cs' _ _ hg' hl5 g2 (fun k hk => by
        refine hw k ?_
        rw [hd]
        simp only [DataW.weights, ht, List.mem_cons, List.mem_append]
        exact Or.inr (Or.inl (weightsAll_mem (List.mem_map.2 ⟨i, List.mem_range.2 hi, rfl⟩) k hk)))
      have h0 := hg' 0 (by omega)
      rw [List.getElem?_eq_getElem (by omega)] at h0
      exact ⟨x, cell_lt h0, q1, q2⟩)
    have hlen : ((List.range len).map V).length = len := by simp
    have hget : ∀ i, i < len → ((List.range len).map V).getD i default = V i := fun i hi => by
      rw [List.getD_eq_getElem?_getD, List.getElem?_map, List.getElem?_range hi]; rfl
    refine ⟨_, (List.range len).map V, rfl, ⟨some ⟨b, o, none⟩, m, by rw [hlen], by omega, ⟨by omega, by omega⟩, (fun hh => by cases hh), fun i hi => ?_⟩, fun x hx => ?_⟩
    · rw [hlen] at hi
      refine ⟨b, o, rfl, (hV i hi).1, ?_⟩
      show R b (o + i * z) _
      rw [hget i hi]
      exact (hV i hi).2.1
    · obtain ⟨i, hi, rfl⟩ := List.mem_map.1 hx
      exact (hV i (List.mem_range.1 hi)).2.2
end
end Go.Proofs.Ytgcfadnnajahhaa
namespace Go.Proofs.Ytgcfadnnajahhaa
open Go.RowKit Go.WideShapes Go.ChangeShapes Go.Deep
set_option linter.unusedVariables false
set_option linter.unusedSimpArgs false
section
variable {H : Type} {enc : TypeId × Value → H} {P : Program} {W : World} {base : Nat} {held : Bool}
structure PlTy (P : Program) (e : TypeId) (f0 f1 f2 f3 f4 : Field) : Prop where
  st : P.underlying e = some (.struct #[f0, f1, f2, f3, f4])
  o : f0.offset = 0 ∧ f1.offset = 1 ∧ f2.offset = 2 ∧ f3.offset = 3 ∧ f4.offset = 4
  u0 : P.underlying f0.type = some (.int .i64)
  u1 : P.underlying f1.type = some (.int .i64)
  u2 : P.underlying f2.type = some (.int .i64)
  u3 : P.underlying f3.type = some (.int .i64)
  u4 : P.underlying f4.type = some (.int .i64)
  c : P.cellsOf f0.type = 1 ∧ P.cellsOf f1.type = 1 ∧ P.cellsOf f2.type = 1 ∧ P.cellsOf f3.type = 1 ∧ P.cellsOf f4.type = 1 ∧ P.cellsOf e = 5
def FitsPl (x : Pl) : Prop := FitsK .i64 x.f ∧ FitsK .i64 x.t ∧ FitsK .i64 x.v ∧ FitsK .i64 x.k ∧ FitsK .i64 x.n
theorem readP1 {e : TypeId} {f0 f1 f2 f3 f4 : Field} (T : PlTy P e f0 f1 f2 f3 f4) (fuel b o : Nat) (cs : List Value) (d : DataW H) (ps : List MemPlace)
    (hcs : ∀ i, i < 5 → W.cell? ⟨b, o + i, none⟩ = cs[i]?) (hl : cs.length = 5) (h : DataW.trod enc P W base (fun _ => true) held fuel e cs = some (d, ps)) (_ : ∀ n ∈ d.weights P e, n ≤ reachBytes) :
    ∃ x : Pl, PlAt W b o x ∧ FitsPl x := by
  obtain ⟨xs, n, _, hx, _, hn, hf⟩ := DataW.trod_struct T.st h
  obtain ⟨o0, o1, o2, o3, o4⟩ := T.o
  obtain ⟨k0, k1, k2, k3, k4, ke⟩ := T.c
  match cs, hl with
  | [v0, v1, v2, v3, v4], _ =>
  match xs, hn with
  | [y0, y1, y2, y3, y4], _ =>
  have g0 := hf 0 f0 rfl
  have g1 := hf 1 f1 rfl
  have g2 := hf 2 f2 rfl
  have g3 := hf 3 f3 rfl
  have g4 := hf 4 f4 rfl
  rw [o0, k0] at g0
  rw [o1, k1] at g1
  rw [o2, k2] at g2
  rw [o3, k3] at g3
  rw [o4, k4] at g4
  obtain ⟨n0, a0, _, w0⟩ := DataW.trod_int T.u0 (show DataW.trod enc P W base (fun _ => true) held n f0.type [v0] = some y0 from g0)
  obtain ⟨n1, a1, _, w1⟩ := DataW.trod_int T.u1 (show DataW.trod enc P W base (fun _ => true) held n f1.type [v1] = some y1 from g1)
  obtain ⟨n2, a2, _, w2⟩ := DataW.trod_int T.u2 (show DataW.trod enc P W base (fun _ => true) held n f2.type [v2] = some y2 from g2)
  obtain ⟨n3, a3, _, w3⟩ := DataW.trod_int T.u3 (show DataW.trod enc P W base (fun _ => true) held n f3.type [v3] = some y3 from g3)
  obtain ⟨n4, a4, _, w4⟩ := DataW.trod_int T.u4 (show DataW.trod enc P W base (fun _ => true) held n f4.type [v4] = some y4 from g4)
  cases a0; cases a1; cases a2; cases a3; cases a4
  exact ⟨⟨n0, n1, n2, n3, n4⟩, ⟨hcs 0 (by omega), hcs 1 (by omega), hcs 2 (by omega), hcs 3 (by omega), hcs 4 (by omega)⟩, w0, w1, w2, w3, w4⟩
theorem readP {t e : TypeId} {f0 f1 f2 f3 f4 : Field} (ht : P.underlying t = some (.slice e)) (T : PlTy P e f0 f1 f2 f3 f4) (hby : 1 ≤ P.bytesOf e) {fuel : Nat} {cs : List Value} {d : DataW H} {ps : List MemPlace}
    (h : DataW.trod enc P W base (fun _ => true) held fuel t cs = some (d, ps)) (hw : ∀ n ∈ d.weights P t, n ≤ reachBytes) :
    ∃ v ts, cs = [v] ∧ Pls W v ts ∧ ∀ x ∈ ts, FitsPl x :=
  readSlc ht T.c.2.2.2.2.2 (by omega) hby (fun fuel b o cs d ps h1 h2 h3 h4 => readP1 T fuel b o cs d ps h1 h2 h3 h4) h hw
end
end Go.Proofs.Ytgcfadnnajahhaa
namespace Go.Proofs.Ytgcfadnnajahhaa
open Go.RowKit Go.WideShapes Go.ChangeShapes Go.Deep
set_option linter.unusedVariables false
set_option linter.unusedSimpArgs false
theorem fits_bytes {l : List Int} (h : ∀ x ∈ l, FitsK .u8 x) : Byt l := fun k => by
  rcases Nat.lt_or_ge k l.length with hk | hk
  · rw [List.getD_eq_getElem?_getD, List.getElem?_eq_getElem hk]
    have : 0 ≤ l[k] ∧ l[k] ≤ 255 := by simpa [FitsK, Lit.wf, IntKind.min, IntKind.max, IntKind.signed, IntKind.bits] using h _ (List.getElem_mem hk)
    show 0 ≤ l[k] ∧ l[k] < 256
    omega
  · rw [List.getD_eq_getElem?_getD, List.getElem?_eq_none hk]; decide
section
variable {H : Type} {enc : TypeId × Value → H} {P : Program} {W : World} {base : Nat} {held : Bool}
theorem one_get {α : Type} {l : List α} {k : Nat} {v : α} (h : (l.drop k).take 1 = [v]) : l[k]? = some v := by
  have := congrArg (fun l : List α => l[0]?) h
  simpa [List.getElem?_take, List.getElem?_drop] using this
structure MacTy (P : Program) (e er eb : TypeId) (f0 f1 f2 f3 f4 : Field) : Prop where
  st : P.underlying e = some (.struct #[f0, f1, f2, f3, f4])
  o : f0.offset = 0 ∧ f1.offset = 32 ∧ f2.offset = 33 ∧ f3.offset = 34 ∧ f4.offset = 35
  u0 : P.underlying f0.type = some (.array 32 er)
  ur : P.underlying er = some (.int .u32)
  u1 : P.underlying f1.type = some (.int .i64)
  u2 : P.underlying f2.type = some (.int .u32)
  u3 : P.underlying f3.type = some (.slice eb)
  ub : P.underlying eb = some (.int .u8)
  u4 : P.underlying f4.type = some (.int .i64)
  c : P.cellsOf f0.type = 32 ∧ P.cellsOf f1.type = 1 ∧ P.cellsOf f2.type = 1 ∧ P.cellsOf f3.type = 1 ∧ P.cellsOf f4.type = 1 ∧ P.cellsOf e = 36
  ce : P.cellsOf er = 1 ∧ P.cellsOf eb = 1
  b : 1 ≤ P.bytesOf eb
theorem fits_u32' {x : Int} (h : (Lit.int .u32 x).wf = true) : 0 ≤ x ∧ x < 4294967296 := by
  have := bounds_u32 h
  omega
theorem readM {e er eb : TypeId} {f0 f1 f2 f3 f4 : Field} (T : MacTy P e er eb f0 f1 f2 f3 f4) {r : Reach} {b0 : Nat} {v : Value} {d : DataW H} {p : List MemPlace} (hv : Value.okWide P W r b0 e v) (h : DataW.Trod enc P W base (fun _ => true) held e v d p) (hw : ∀ n ∈ d.weights P e, n ≤ reachBytes) :
    ∃ (c : Mac) (mv : Value), v = .agg (macC c mv).toArray ∧ c.r.length = 32 ∧ (∀ k, 0 ≤ c.r.getD k 0 ∧ c.r.getD k 0 < 4294967296) ∧ (-9223372036854775808 ≤ c.f ∧ c.f ≤ 9223372036854775807) ∧ (0 ≤ c.a ∧ c.a < 4294967296) ∧ (-9223372036854775808 ≤ c.e ∧ c.e ≤ 9223372036854775807) ∧ Ints .u8 W mv c.m ∧ Byt c.m := by
  obtain ⟨cs, rfl, hsz⟩ := okWide_struct T.st hv
  obtain ⟨fuel, hf⟩ := h
  obtain ⟨l⟩ := cs
  have hf1 : DataW.trod enc P W base (fun _ => true) held fuel e l = some (d, p) := hf
  obtain ⟨o0, o1, o2, o3, o4⟩ := T.o
  obtain ⟨k0, k1, k2, k3, k4, ke⟩ := T.c
  obtain ⟨kr, kb⟩ := T.ce
  have hl : l.length = 36 := by rw [← ke]; simpa using hsz
  obtain ⟨xs, n, _, hx, _, hn, hg⟩ := DataW.trod_struct T.st hf1
  match xs, hn with
  | [y0, y1, y2, y3, y4], _ =>
  have g0 := hg 0 f0 rfl
  have g1 := hg 1 f1 rfl
  have g2 := hg 2 f2 rfl
  have g3 := hg 3 f3 rfl
  have g4 := hg 4 f4 rfl
  rw [o0, k0] at g0
  rw [o1, k1] at g1
  rw [o2, k2] at g2
  rw [o3, k3] at g3
  rw [o4, k4] at g4
  obtain ⟨ys, m, _, _, _, hy, hr⟩ := DataW.trod_array T.u0 (show DataW.trod enc P W base (fun _ => true) held n f0.type ((l.drop 0).take 32) = some y0 from g0)
  obtain ⟨n1, a1, _, w1⟩ := DataW.trod_int T.u1 (show DataW.trod enc P W base (fun _ => true) held n f1.type ((l.drop 32).take 1) = some y1 from g1)
  obtain ⟨n2, a2, _, w2⟩ := DataW.trod_int T.u2 (show DataW.trod enc P W base (fun _ => true) held n f2.type ((l.drop 33).take 1) = some y2 from g2)
  obtain ⟨n4, a4, _, w4⟩ := DataW.trod_int T.u4 (show DataW.trod enc P W base (fun _ => true) held n f4.type ((l.drop 35).take 1) = some y4 from g4)
  obtain ⟨d3, p3⟩ := y3
  simp only [Prod.mk.injEq] at hx
  have hw3 : ∀ n ∈ d3.weights P f3.type, n ≤ reachBytes := fun n hn => hw n (by rw [hx.1]; exact weights_mem T.st (i := 3) (f := f3) rfl rfl hn)
  obtain ⟨mv, ms, a3, hi3, hwf3⟩ := readI T.u3 T.ub kb T.b (show DataW.trod enc P W base (fun _ => true) held n f3.type ((l.drop 34).take 1) = some (d3, p3) from g3) hw3
  obtain ⟨V, hV⟩ := choose_lt (α := Int) (n := 32) (p := fun i x => l[i]? = some (.int .u32 x) ∧ (Lit.int .u32 x).wf = true) (fun i hi => by
    have hri := hr i hi
    rw [kr] at hri
    obtain ⟨y, hy⟩ : ∃ y, ys[i]? = some y := ⟨_, List.getElem?_eq_getElem (by omega)⟩
    rw [hy] at hri
    obtain ⟨z, az, _, wz⟩ := DataW.trod_int T.ur hri
    have := one_get az
    rw [List.getElem?_take, if_pos (by omega)] at this
    simp only [Nat.mul_one] at this
    exact ⟨z, by simpa using this, wz⟩)
  have hml : ((List.range 32).map V).length = 32 := by simp
  refine ⟨⟨(List.range 32).map V, n1, n2, ms, n4⟩, mv, ?_, hml, fun k => ?_, fits_i64 w1, fits_u32' w2, fits_i64 w4, hi3, fits_bytes hwf3⟩
  · refine congrArg (fun l : List Value => Value.agg l.toArray) (List.ext_getElem? fun i => ?_)
    show l[i]? = (((List.range 32).map V).map (Value.int .u32) ++ [.int .i64 n1, .int .u32 n2, mv, .int .i64 n4])[i]?
    by_cases hi : i < 32
    · rw [(hV i hi).1, List.getElem?_append_left (by simpa using hi), List.getElem?_map, List.getElem?_map, List.getElem?_range hi]
      rfl
    · rw [List.getElem?_append_right (by simpa using hi)]
      simp only [List.length_map, List.length_range]
      by_cases h1 : i = 32
      · subst h1; exact one_get a1
      by_cases h2 : i = 33
      · subst h2; exact one_get a2
      by_cases h3 : i = 34
      · subst h3; exact one_get a3
      by_cases h4 : i = 35
      · subst h4; exact one_get a4
      rw [List.getElem?_eq_none (by omega), List.getElem?_eq_none (by simp; omega)]
  · show 0 ≤ ((List.range 32).map V).getD k 0 ∧ _
    by_cases hk : k < 32
    · rw [List.getD_eq_getElem?_getD, List.getElem?_map, List.getElem?_range hk]
      exact fits_u32' (hV k hk).2
    · rw [List.getD_eq_getElem?_getD, List.getElem?_eq_none (by simp; omega)]
      exact ⟨by decide, by decide⟩
end
end Go.Proofs.Ytgcfadnnajahhaa
