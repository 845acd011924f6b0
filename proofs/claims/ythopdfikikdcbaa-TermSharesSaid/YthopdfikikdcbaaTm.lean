/- Walk of the values of the nodes of a term. -/
import Derived.Test.YthopdfikikdcbaaTl
import Derived.Deep.RegionHeld3
namespace Go.Proofs.Ythopdfikikdcbaa
open Go.RowKit Wd
set_option linter.unusedVariables false
set_option linter.unusedSimpArgs false
/-- From W0 to w nothing has been written but the cell j of block B, and w is told of w0 by Below. -/
def Keep (w0 W0 : World) (B j : Nat) (w : World) : Prop :=
  (W0.heap.size ≤ w.heap.size ∧ (∀ b o, b < W0.heap.size → ¬ (b = B ∧ o = j) → w.cell? ⟨b, o, none⟩ = W0.cell? ⟨b, o, none⟩) ∧ (∀ b o, b < W0.heap.size → w.frozen? ⟨b, o, none⟩ = W0.frozen? ⟨b, o, none⟩) ∧ ∃ v, w.cell? ⟨B, j, none⟩ = some v) ∧ Below w0.heap.size w0 w
theorem Keep.refl {w0 W0 : World} {B j : Nat} {v : Value} (h : W0.cell? ⟨B, j, none⟩ = some v) (hb : Below w0.heap.size w0 W0) : Keep w0 W0 B j W0 := ⟨⟨Nat.le_refl _, fun _ _ _ _ => rfl, fun _ _ _ => rfl, v, h⟩, hb⟩
theorem Keep.drew {w0 W0 : World} {B j : Nat} {w : World} (h : Keep w0 W0 B j w) : Keep w0 W0 B j w.drew := ⟨h.1, h.2.drew⟩
theorem Keep.drewN {w0 W0 : World} {B j : Nat} {w : World} (h : Keep w0 W0 B j w) (n : Nat) : Keep w0 W0 B j (w.drewN n) := ⟨h.1, below_drewN h.2 n⟩
theorem Keep.below {w0 W0 : World} {B j : Nat} {w w' : World} (h : Keep w0 W0 B j w) (hb : Below w.heap.size w w') : Keep w0 W0 B j w' := by
  obtain ⟨⟨h1, h2, h3, v, h4⟩, h5⟩ := h
  refine ⟨⟨Nat.le_trans h1 hb.size, fun b o hlt hne => ?_, fun b o hlt => ?_, v, ?_⟩, below_hop h5 hb⟩
  · rw [← h2 b o hlt hne]; exact hb.cell (p := ⟨b, o, none⟩) (Nat.lt_of_lt_of_le hlt h1)
  · rw [← h3 b o hlt]; exact hb.frozen (p := ⟨b, o, none⟩) (Nat.lt_of_lt_of_le hlt h1)
  · rw [← h4]; exact hb.cell (p := ⟨B, j, none⟩) (cell_lt h4)
theorem Keep.dr {w0 W0 : World} {B j : Nat} {w w' : World} (h : Keep w0 W0 B j w) (hd : Dr w w') : Keep w0 W0 B j w' := by
  obtain ⟨n, rfl⟩ := hd
  exact h.drewN n
theorem Keep.store {w0 W0 : World} {B j : Nat} {w : World} (h : Keep w0 W0 B j w) (hB : w0.heap.size ≤ B) (u : Value) : Keep w0 W0 B j (w.setCell ⟨B, j, none⟩ u) := by
  obtain ⟨⟨h1, h2, h3, v, h4⟩, h5⟩ := h
  refine ⟨⟨by simpa using h1, fun b o hlt hne => ?_, fun b o hlt => ?_, u, World.cell?_setCell_same _ _ _ h4⟩, below_at h5 hB _ _⟩
  · rw [← h2 b o hlt hne, World.cell?_setCell_other _ _ _ _ (by intro e; cases e; exact hne ⟨rfl, rfl⟩)]
  · rw [← h3 b o hlt, World.frozen?_setCell]
theorem Keep.cell {w0 W0 : World} {B j : Nat} {w : World} (h : Keep w0 W0 B j w) {b o : Nat} {v : Value} (hc : W0.cell? ⟨b, o, none⟩ = some v) (hne : ¬ (b = B ∧ o = j)) : w.cell? ⟨b, o, none⟩ = some v := by
  rw [← hc]; exact h.1.2.1 b o (cell_lt hc) hne
theorem Keep.free {w0 W0 : World} {B j : Nat} {w : World} (h : Keep w0 W0 B j w) (hB : B < W0.heap.size) (hf : W0.frozen? ⟨B, j, none⟩ = false) : w.frozen? ⟨B, j, none⟩ = false := by
  rw [← hf]; exact h.1.2.2.1 B j hB
/-- What the cell o of block b holds. -/
def cellNow (b o : Nat) (w : World) : Value := (w.cell? ⟨b, o, none⟩).getD undef
theorem Keep.now {w0 W0 : World} {B j : Nat} {w : World} (h : Keep w0 W0 B j w) : w.cell? ⟨B, j, none⟩ = some (cellNow B j w) := by
  obtain ⟨⟨_, _, _, v, h4⟩, _⟩ := h
  unfold cellNow
  rw [h4]; rfl
theorem cell_of_store {w : World} {B j : Nat} {u v : Value} (h : (w.setCell ⟨B, j, none⟩ u).cell? ⟨B, j, none⟩ = some v) : ∃ x, w.cell? ⟨B, j, none⟩ = some x := by
  simp only [World.cell?, World.setCell, Array.getElem?_modify, if_true] at h ⊢
  cases hb : w.heap[B]? with
  | none => rw [hb] at h; simp at h
  | some ob =>
    rw [hb] at h
    cases ob <;> simp at h ⊢
    rename_i c e f
    rw [Array.getElem?_setIfInBounds] at h
    by_cases hj : j < c.size
    · exact ⟨c[j], by rw [Array.getElem?_eq_getElem hj]⟩
    · simp [hj] at h
theorem OInts.keepset {k : IntKind} {w0 W0 w : World} {B j : Nat} {L : List Int} {x : Int} (h : OInts k W0 B L) (hk : Keep w0 W0 B j (w.setCell ⟨B, j, none⟩ (.int k x))) (hj : j < L.length) : OInts k (w.setCell ⟨B, j, none⟩ (.int k x)) B (L.set j x) := by
  refine ⟨Nat.lt_of_lt_of_le h.1 hk.1.1, fun i hi => ?_⟩
  rw [List.length_set] at hi
  refine ⟨?_, by rw [hk.1.2.2.1 B i h.1]; exact h.free hi⟩
  by_cases e : j = i
  · subst e
    obtain ⟨y, hy⟩ := cell_of_store hk.now
    rw [World.cell?_setCell_same _ _ _ hy, getD_set_self hi]
  · rw [getD_set_ne e]
    exact hk.cell (h.cell hi) (by rintro ⟨_, hh⟩; exact e hh.symm)
theorem cell_alloc {w : World} {ob : Obj} {b o : Nat} {v : Value} (h : w.cell? ⟨b, o, none⟩ = some v) : (w.alloc ob).cell? ⟨b, o, none⟩ = some v := below_cell ((Below.refl _ _).alloc (Nat.le_refl _) _) (cell_lt h) h
theorem cell_store {w : World} {B j b o : Nat} {u v : Value} (h : w.cell? ⟨b, o, none⟩ = some v) (hne : ¬ (b = B ∧ o = j)) : (w.setCell ⟨B, j, none⟩ u).cell? ⟨b, o, none⟩ = some v := by
  rw [World.cell?_setCell_other _ _ _ _ (by intro e; cases e; exact hne ⟨rfl, rfl⟩)]; exact h
theorem OInts.keep {k : IntKind} {w0 W0 w : World} {B j : Nat} {L : List Int} (h : OInts k W0 B L) (hk : Keep w0 W0 B j w) (hc : w.cell? ⟨B, j, none⟩ = W0.cell? ⟨B, j, none⟩) : OInts k w B L := by
  refine ⟨Nat.lt_of_lt_of_le h.1 hk.1.1, fun i hi => ⟨?_, by rw [hk.1.2.2.1 B i h.1]; exact h.free hi⟩⟩
  by_cases e : j = i
  · subst e; rw [hc]; exact h.cell hi
  · exact hk.cell (h.cell hi) (by rintro ⟨_, hh⟩; exact e hh.symm)
theorem Since.drew {w0 w : World} (h : Since w0 w) : Since w0 w.drew := Below.drew h
theorem Since.dr {w0 w w' : World} (h : Since w0 w) (hd : Dr w w') : Since w0 w' := below_hop h (hd.below _)
theorem Since.next {w0 w w' : World} (h : Since w0 w) (hb : Below w.heap.size w w') : Since w0 w' := below_hop h hb
theorem Since.cell {w0 w : World} (h : Since w0 w) {b o : Nat} {v : Value} (hc : w0.cell? ⟨b, o, none⟩ = some v) : w.cell? ⟨b, o, none⟩ = some v := below_cell h (cell_lt hc) hc
theorem Since.free {w0 w : World} (h : Since w0 w) {b o : Nat} (hb : b < w0.heap.size) (hf : w0.frozen? ⟨b, o, none⟩ = false) : w.frozen? ⟨b, o, none⟩ = false := by rw [← hf]; exact Below.frozen (p := ⟨b, o, none⟩) h hb
theorem info_u32 : (Try.prog.info? 34).map (fun i => (i.zero, i.size, i.bytes)) = some (some (.int .u32 0), 1, 4) := by kernel_rfl
/-- The values of the first nodes, and zeros. -/
def vL (ts : List Nd) (env : List Int) (j : Nat) : List Int := valsF ts env (ts.take j) ++ List.replicate (ts.length - j) 0
theorem vL_len {ts : List Nd} {env : List Int} {j : Nat} (h : j ≤ ts.length) : (vL ts env j).length = ts.length := by
  unfold vL; rw [List.length_append, valsF_take_len h, List.length_replicate]; omega
theorem vL_get {ts : List Nd} {env : List Int} {j a : Nat} (h : j ≤ ts.length) (ha : a < j) : (vL ts env j).getD a 0 = (valsF ts env (ts.take j)).getD a 0 := by
  unfold vL; rw [getD_append_lt (by rw [valsF_take_len h]; exact ha)]
theorem vL_at {ts : List Nd} {env : List Int} {j : Nat} (h : j < ts.length) : (vL ts env j).getD j 0 = 0 := by
  unfold vL
  rw [List.getD_eq_getElem?_getD, List.getElem?_append_right (by rw [valsF_take_len (by omega)]; omega), valsF_take_len (by omega), Nat.sub_self, List.getElem?_replicate]
  split <;> rfl
theorem vL_set {ts : List Nd} {env : List Int} {j : Nat} (h : j < ts.length) : (vL ts env j).set j (vNode ts env (valsF ts env (ts.take j)) (ts.getD j default)) = vL ts env (j + 1) := by
  unfold vL
  rw [vals_snoc ts env j h, List.set_append_right _ _ (by rw [valsF_take_len (by omega)]; omega), valsF_take_len (by omega), Nat.sub_self]
  have e : ts.length - j = (ts.length - (j + 1)) + 1 := by omega
  rw [e, List.replicate_succ, List.set_cons_zero, List.append_assoc]
  rfl

set_option maxRecDepth 100000 in
set_option maxHeartbeats 16000000 in
theorem values_any (ts : List Nd) (env : List Int) (tv ev : Value) (w : World) (hts : Nds w tv ts) (hev : Ints .u32 w ev env) (hz : valE ts = 0) (hi : ∀ x ∈ ts, 0 ≤ x.imm ∧ x.imm ≤ 4294967295) (he : EnvOk ts env) : Calls Try.prog 50 #[tv, ev] w fun e w' => ∃ v, e = .returned v ∧ Ints .u32 w' v (vals ts env) ∧ Below w.heap.size w w' := by
  have HT := Lib.hid hts
  have HI := Lib.hid hi
  have HE := Lib.hid hev
  have HZ := Lib.hid hz
  have HEO := Lib.hid he
  have hlen : 1 ≤ ts.length ∧ ts.length ≤ 300 := ⟨(valid_facts hz).1, (valid_facts hz).2.1⟩
  obtain ⟨hl1, hl2⟩ := hlen
  have hl4 := he.1
  obtain ⟨ta, tc, rfl, ht1, ht2⟩ := hts.shape
  obtain ⟨ea, ec, rfl, he1, he2⟩ := hev.shape
  clear hi hts hev hz he
  obtain ⟨i0, hi0, hz0, hz1, hz2⟩ := info_parts info_u32
  go_enter Try.func50, Try.ntmps50
  go_wp2_with (at_make; refine wpList_make_full _ rfl _ _ 33 rfl (w.heap.size) 34 i0 (.int .u32 0) 1 Try.underlying33 hi0 hz0 hz1 .i64 .i64 _ _ ts.length rfl rfl rfl rfl ?d1 ?d2 ?d3 ?_)
  case d1 => rw [hz2]; omega
  case d2 => unfold maxLen; omega
  case d3 => exact Nat.le_refl _
  intro w2 hown hgr
  have hO : OInts .u32 w2 w.heap.size (vL ts env 0) := (OInts.made hown : OInts .u32 w2 w.heap.size (List.replicate ts.length 0))
  have hb2 := below_made hgr
  have hbs2 := hO.1
  have HB2 := Lib.hid (And.intro hO hb2)
  clear hown hgr hO hb2
  obtain ⟨bo, hbo⟩ : ∃ bo, bo = w2.heap.size := ⟨_, rfl⟩
  have HBO := Lib.hid hbo
  go_wp2_with fail
  go_loopw [16] (fun i wr => ∃ j : Nat, j ≤ ts.length ∧ i = .int .i64 j ∧ OInts .u32 wr w.heap.size (vL ts env j) ∧ wr.cell? ⟨w2.heap.size, 0, none⟩ = some (.slice (some ⟨w.heap.size, 0, none⟩) ts.length ts.length) ∧ Below w.heap.size w wr) (fun i _ => ts.length - (intOf i).toNat)
  case atStart => exact ⟨0, Nat.zero_le _, rfl, HB2.out.1.alloc _, by simp [go_sem], HB2.out.2.alloc (by omega) _⟩
  case round =>
    obtain ⟨j, hj, rfl, ho, hbox, hb⟩ := hrel
    have hBs := ho.1
    have hbos := cell_lt hbox
    have HO := Lib.hid ho
    have HB := Lib.hid hb
    have hbs := hb.size
    by_cases hlt : j < ts.length
    · obtain ⟨b, q, c', av, e', _, hbq, hav, c0, c1, c2, c3, c4⟩ := HT.out.at2 hb hlt
      cases e'
      have HN := Lib.hid (nodeOk HZ.out hlt)
      have hAV := hav.stays hb
      have HAV := Lib.hid hAV
      have HAVW := Lib.hid hav
      have HW := Lib.hid (vals_words HZ.out HI.out HEO.out j hj)
      have HG := Lib.hid (fun a => @vL_get ts env j a hj)
      have HL := Lib.hid (@vL_len ts env j hj)
      have HS := Lib.hid (@vL_set ts env j hlt)
      have HD0 := Lib.hid (set_at (@vL_at ts env j hlt) (by rw [HL.out]; exact hlt))
      have hI := HI.out _ (mem_getD hlt)
      have hfree := ho.free (i := j) (by rw [vL_len hj]; exact hlt)
      have hcellj := ho.cell (i := j) (by rw [vL_len hj]; exact hlt)
      clear hb hav
      generalize (vL ts env j).getD j 0 = old at hcellj
      generalize vL ts env j = L at *
      generalize valsF ts env (ts.take j) = acc at *
      generalize ts.getD j default = x at *
      obtain ⟨op, width, flags, args, imm⟩ := x
      simp only at c0 c1 c2 c3 c4 hAV hI
      obtain ⟨aa, ac, rfl, ha1, _⟩ := hAV.shape
      clear ho hAV
      have hK0 : Keep w (wr.alloc (.cells #[.int .i64 op, .int .i64 width, .int .i64 flags, .slice aa args.length ac, .int .u32 imm] 47)) w.heap.size j (wr.alloc (.cells #[.int .i64 op, .int .i64 width, .int .i64 flags, .slice aa args.length ac, .int .u32 imm] 47)) := by
        exact Keep.refl (v := .int .u32 old) (below_cell ((Below.refl _ _).alloc (Nat.le_refl _) _) hBs hcellj) (HB.out.alloc (by omega) _)
      by_cases o0 : op = 0
      · subst o0
        have HVN : Hid (vNode ts env acc ⟨0, width, flags, args, imm⟩ = imm) := by
          show _ = _
          simp only [vNode]
          rfl
        clear hK0
        go_wp2_with fail
        go_roundw
        case rel => exact ⟨j + 1, by omega, by go_num, by rw [← HS.out, HVN.out]; exact (HO.out.set (by rw [HL.out]; exact hlt) imm).alloc _, cell_alloc (cell_store hbox (by omega)), (below_at HB.out (Nat.le_refl _) _ _).alloc (by simp; omega) _⟩
        case measure => simp [intOf]; omega
      by_cases o33 : op = 33
      · subst o33
        obtain ⟨k, rfl⟩ := Int.eq_ofNat_of_zero_le hI.1
        have hk4 : k < 4 := by have := HN.out.imm; unfold immOk at this; rw [if_neg (by simp), if_pos rfl] at this; simp at this; omega
        obtain ⟨eb, eo, ec2, ee, _, heb, ecell⟩ := (HE.out.stays HB.out).at (show k < env.length by rw [hl4]; exact hk4)
        cases ee
        have HVN : Hid (vNode ts env acc ⟨33, width, flags, args, (k : Int)⟩ = env.getD k 0) := by
          show _ = _
          simp only [vNode]
          rfl
        generalize env.getD k 0 = y at *
        have HL4 := Lib.hid hl4
        clear hl4 hK0 o0 hI
        go_wp2_with fail
        go_region
        all_goals go_wp2_with fail
        go_roundw
        case rel => exact ⟨j + 1, by omega, by go_num, by rw [← HS.out, HVN.out]; exact ((HO.out.set (by rw [HL.out]; exact hlt) y).alloc _), cell_alloc (cell_store hbox (by omega)), ((below_at HB.out (Nat.le_refl _) _ _).alloc (by simp; omega) _).drew⟩
        case measure => simp [intOf]; omega
      by_cases o14 : op = 14
      · subst o14
        have hlen : args.length = 2 := by have := HN.out.len; simp only at this; have h14 : arV 14 = 2 := rfl; omega
        have HR := Lib.hid HN.out.rng
        simp only at HR
        have hn0 : 0 < args.length := by omega
        have hn1 : 1 < args.length := by omega
        have HN2 := Lib.hid hlen
        clear hlen
        have hr0 := HR.out 0 hn0
        obtain ⟨m0, hm0⟩ := Int.eq_ofNat_of_zero_le hr0.1
        have hj0 : m0 < j := by omega
        have hmt0 : m0 < ts.length := by omega
        have y0 := HO.out.cell (i := m0) (by rw [HL.out]; omega)
        rw [HG.out m0 hj0] at y0
        have b0 := HW.out m0 hj0
        have p0 := @pw_le32 (ts.getD m0 default).width (nodeOk HZ.out hmt0).wid.2
        have u0 : 0 ≤ acc.getD m0 0 := b0.1
        have v0 : acc.getD m0 0 ≤ 4294967295 := by omega
        have hr1 := HR.out 1 hn1
        obtain ⟨m1, hm1⟩ := Int.eq_ofNat_of_zero_le hr1.1
        have hj1 : m1 < j := by omega
        have hmt1 : m1 < ts.length := by omega
        have y1 := HO.out.cell (i := m1) (by rw [HL.out]; omega)
        rw [HG.out m1 hj1] at y1
        have b1 := HW.out m1 hj1
        have p1 := @pw_le32 (ts.getD m1 default).width (nodeOk HZ.out hmt1).wid.2
        have u1 : 0 ≤ acc.getD m1 0 := b1.1
        have v1 : acc.getD m1 0 ≤ 4294967295 := by omega
        have HVN : Hid (vNode ts env acc ⟨14, width, flags, args, imm⟩ = if coX imm (wdt ts args 0) (acc.getD m0 0) (acc.getD m1 0) = true then 1 else 0) := by
          show _ = _
          simp only [vNode, vArg, if_true, if_false, hm0, hm1, Int.toNat_natCast] <;> rfl
        generalize acc.getD m0 0 = a0 at *
        generalize acc.getD m1 0 = a1 at *
        have HM := Lib.hid (And.intro hm0 hm1)
        clear hr0 b0 p0 hm0 hr1 b1 p1 hm1
        clear o0 o33
        cases hco : coX imm (wdt ts args 0) a0 a1
        · rw [hco] at HVN
          go_wp2_with fail
          have hal : Below wr.heap.size wr (wr.alloc (.cells #[.int .i64 14, .int .i64 width, .int .i64 flags, .slice aa args.length ac, .int .u32 imm] 47)) := (Below.refl _ _).alloc (Nat.le_refl _) _
          have kj := below_cell hal hBs hcellj
          have k5 := below_cell hal hbos hbox
          have ky0 := below_cell hal hBs y0
          have ky1 := below_cell hal hBs y1
          have k8 : (wr.alloc (.cells #[.int .i64 14, .int .i64 width, .int .i64 flags, .slice aa args.length ac, .int .u32 imm] 47)).frozen? ⟨w.heap.size, j, none⟩ = false := by rw [← hfree]; exact hal.frozen (p := ⟨w.heap.size, j, none⟩) hBs
          have k9 : (wr.alloc (.cells #[.int .i64 14, .int .i64 width, .int .i64 flags, .slice aa args.length ac, .int .u32 imm] 47)).heap.size = wr.heap.size + 1 := by simp
          have x0 : (wr.alloc (.cells #[.int .i64 14, .int .i64 width, .int .i64 flags, .slice aa args.length ac, .int .u32 imm] 47)).cell? ⟨wr.heap.size, 0, none⟩ = some (.int .i64 14) := by simp [go_sem]
          have x1 : (wr.alloc (.cells #[.int .i64 14, .int .i64 width, .int .i64 flags, .slice aa args.length ac, .int .u32 imm] 47)).cell? ⟨wr.heap.size, 1, none⟩ = some (.int .i64 width) := by simp [go_sem]
          have x3 : (wr.alloc (.cells #[.int .i64 14, .int .i64 width, .int .i64 flags, .slice aa args.length ac, .int .u32 imm] 47)).cell? ⟨wr.heap.size, 3, none⟩ = some (.slice aa args.length ac) := by simp [go_sem]
          have x4 : (wr.alloc (.cells #[.int .i64 14, .int .i64 width, .int .i64 flags, .slice aa args.length ac, .int .u32 imm] 47)).cell? ⟨wr.heap.size, 4, none⟩ = some (.int .u32 imm) := by simp [go_sem]
          have kO := HO.out.alloc (.cells #[.int .i64 14, .int .i64 width, .int .i64 flags, .slice aa args.length ac, .int .u32 imm] 47)
          generalize wr.alloc (.cells #[.int .i64 14, .int .i64 width, .int .i64 flags, .slice aa args.length ac, .int .u32 imm] 47) = W0 at *
          have HKO := Lib.hid kO
          have HB0 := Lib.hid hK0.2
          have h00 := Since.refl W0
          have r5 : ∀ wk, Since W0 wk → wk.cell? ⟨w2.heap.size, 0, none⟩ = some (.slice (some ⟨w.heap.size, 0, none⟩) ts.length ts.length) := fun wk h => h.cell k5
          have ry0 : ∀ wk, Since W0 wk → wk.cell? ⟨w.heap.size, m0, none⟩ = some (.int .u32 a0) := fun wk h => h.cell ky0
          have ry1 : ∀ wk, Since W0 wk → wk.cell? ⟨w.heap.size, m1, none⟩ = some (.int .u32 a1) := fun wk h => h.cell ky1
          have r8 : ∀ wk, Since W0 wk → wk.frozen? ⟨w.heap.size, j, none⟩ = false := fun wk h => h.free (by omega) k8
          have r0 : ∀ wk, Since W0 wk → wk.cell? ⟨wr.heap.size, 0, none⟩ = some (.int .i64 14) := fun wk h => h.cell x0
          have r1 : ∀ wk, Since W0 wk → wk.cell? ⟨wr.heap.size, 1, none⟩ = some (.int .i64 width) := fun wk h => h.cell x1
          have r3 : ∀ wk, Since W0 wk → wk.cell? ⟨wr.heap.size, 3, none⟩ = some (.slice aa args.length ac) := fun wk h => h.cell x3
          have r4 : ∀ wk, Since W0 wk → wk.cell? ⟨wr.heap.size, 4, none⟩ = some (.int .u32 imm) := fun wk h => h.cell x4
          have rj : ∀ wk, Since W0 wk → wk.cell? ⟨w.heap.size, j, none⟩ = some (.int .u32 old) := fun wk h => h.cell kj
          have rA : ∀ wk, Since W0 wk → Ints .i64 wk (.slice aa args.length ac) args := fun wk h => HAVW.out.stays (below_hop HB0.out h)
          obtain ⟨nb, nq, nc, nav, ne, _, hnb, _, _, _, _⟩ := HT.out.at2 (Below.refl _ _) hmt0
          cases ne
          have rN : ∀ wk, Since W0 wk → wk.cell? ⟨b, q + m0 * 5 + 1, none⟩ = some (.int .i64 (wdt ts args 0)) := fun wk h => by
            obtain ⟨nb', nq', nc', nav', ne', _, _, _, _, hn1, _⟩ := HT.out.at2 (below_hop HB0.out h) hmt0
            cases ne'
            rw [hn1]
            unfold wdt
            rw [HM.out.1, Int.toNat_natCast]
          obtain ⟨ab, ao, ae, _, _⟩ := HAVW.out.row hn0
          cases ae
          have rM : ∀ wk, Since W0 wk → wk.cell? ⟨ab, ao, none⟩ = some (.int .i64 m0) := fun wk h => by
            obtain ⟨ab', ao', ae', _, hc⟩ := (HAVW.out.stays (below_hop HB0.out h)).row hn0
            cases ae'
            have := hc 0 hn0
            rw [HM.out.1, Nat.add_zero] at this
            exact this
          clear k5 k8 x0 x1 x3 x4 kO hal hbox c0 c1 c2 c3 c4 hcellj hfree ky0 y0 ky1 y1
          have hjl : (j : Int) < ts.length := by omega
          have wI : IntKind.i64.wrap imm = imm := IntWalk.i64_in _ (by omega)
          go_region_held3 (fun wk => Since W0 wk) (first | assumption | exact Since.drew (by assumption) | exact Since.dr (by assumption) (by assumption) | exact Since.next (by assumption) (by assumption)) (first | (go_at_call 81; (with_reducible refine (varg_0 args m0 ts.length ts.length a0 _ _ _ _ _ (r5 _ (by assumption)) (r3 _ (by assumption)) (rA _ (by assumption)) hn0 HM.out.1 hmt0 ht2 (ry0 _ (by assumption))).mono ?_); rintro e w' ⟨rfl, hd⟩) | (go_at_call 81; (with_reducible refine (varg_1 args m1 ts.length ts.length a1 _ _ _ _ _ (r5 _ (by assumption)) (r3 _ (by assumption)) (rA _ (by assumption)) hn1 HM.out.2 hmt1 ht2 (ry1 _ (by assumption))).mono ?_); rintro e w' ⟨rfl, hd⟩) | (go_at_call 82; (with_reducible refine (pCompare imm (wdt ts args 0) a0 a1 u0 v0 u1 v1 _).mono ?_); rintro e w' ⟨rfl, hb⟩))
          clear wI
          go_wp2_with fail
          go_roundw
          case rel => exact ⟨j + 1, by omega, by go_num, by rw [← HS.out, HVN.out, if_neg (by decide), HD0.out]; exact HKO.out.below (show Since W0 _ by assumption), r5 _ (by assumption), below_hop HB0.out (show Since W0 _ by assumption)⟩
          case measure => simp [intOf]; omega
        · rw [hco] at HVN
          go_wp2_with fail
          have hal : Below wr.heap.size wr (wr.alloc (.cells #[.int .i64 14, .int .i64 width, .int .i64 flags, .slice aa args.length ac, .int .u32 imm] 47)) := (Below.refl _ _).alloc (Nat.le_refl _) _
          have kj := below_cell hal hBs hcellj
          have k5 := below_cell hal hbos hbox
          have ky0 := below_cell hal hBs y0
          have ky1 := below_cell hal hBs y1
          have k8 : (wr.alloc (.cells #[.int .i64 14, .int .i64 width, .int .i64 flags, .slice aa args.length ac, .int .u32 imm] 47)).frozen? ⟨w.heap.size, j, none⟩ = false := by rw [← hfree]; exact hal.frozen (p := ⟨w.heap.size, j, none⟩) hBs
          have k9 : (wr.alloc (.cells #[.int .i64 14, .int .i64 width, .int .i64 flags, .slice aa args.length ac, .int .u32 imm] 47)).heap.size = wr.heap.size + 1 := by simp
          have x0 : (wr.alloc (.cells #[.int .i64 14, .int .i64 width, .int .i64 flags, .slice aa args.length ac, .int .u32 imm] 47)).cell? ⟨wr.heap.size, 0, none⟩ = some (.int .i64 14) := by simp [go_sem]
          have x1 : (wr.alloc (.cells #[.int .i64 14, .int .i64 width, .int .i64 flags, .slice aa args.length ac, .int .u32 imm] 47)).cell? ⟨wr.heap.size, 1, none⟩ = some (.int .i64 width) := by simp [go_sem]
          have x3 : (wr.alloc (.cells #[.int .i64 14, .int .i64 width, .int .i64 flags, .slice aa args.length ac, .int .u32 imm] 47)).cell? ⟨wr.heap.size, 3, none⟩ = some (.slice aa args.length ac) := by simp [go_sem]
          have x4 : (wr.alloc (.cells #[.int .i64 14, .int .i64 width, .int .i64 flags, .slice aa args.length ac, .int .u32 imm] 47)).cell? ⟨wr.heap.size, 4, none⟩ = some (.int .u32 imm) := by simp [go_sem]
          have kO := HO.out.alloc (.cells #[.int .i64 14, .int .i64 width, .int .i64 flags, .slice aa args.length ac, .int .u32 imm] 47)
          generalize wr.alloc (.cells #[.int .i64 14, .int .i64 width, .int .i64 flags, .slice aa args.length ac, .int .u32 imm] 47) = W0 at *
          have HKO := Lib.hid kO
          have HB0 := Lib.hid hK0.2
          have h00 := Since.refl W0
          have r5 : ∀ wk, Since W0 wk → wk.cell? ⟨w2.heap.size, 0, none⟩ = some (.slice (some ⟨w.heap.size, 0, none⟩) ts.length ts.length) := fun wk h => h.cell k5
          have ry0 : ∀ wk, Since W0 wk → wk.cell? ⟨w.heap.size, m0, none⟩ = some (.int .u32 a0) := fun wk h => h.cell ky0
          have ry1 : ∀ wk, Since W0 wk → wk.cell? ⟨w.heap.size, m1, none⟩ = some (.int .u32 a1) := fun wk h => h.cell ky1
          have r8 : ∀ wk, Since W0 wk → wk.frozen? ⟨w.heap.size, j, none⟩ = false := fun wk h => h.free (by omega) k8
          have r0 : ∀ wk, Since W0 wk → wk.cell? ⟨wr.heap.size, 0, none⟩ = some (.int .i64 14) := fun wk h => h.cell x0
          have r1 : ∀ wk, Since W0 wk → wk.cell? ⟨wr.heap.size, 1, none⟩ = some (.int .i64 width) := fun wk h => h.cell x1
          have r3 : ∀ wk, Since W0 wk → wk.cell? ⟨wr.heap.size, 3, none⟩ = some (.slice aa args.length ac) := fun wk h => h.cell x3
          have r4 : ∀ wk, Since W0 wk → wk.cell? ⟨wr.heap.size, 4, none⟩ = some (.int .u32 imm) := fun wk h => h.cell x4
          have rj : ∀ wk, Since W0 wk → wk.cell? ⟨w.heap.size, j, none⟩ = some (.int .u32 old) := fun wk h => h.cell kj
          have rA : ∀ wk, Since W0 wk → Ints .i64 wk (.slice aa args.length ac) args := fun wk h => HAVW.out.stays (below_hop HB0.out h)
          obtain ⟨nb, nq, nc, nav, ne, _, hnb, _, _, _, _⟩ := HT.out.at2 (Below.refl _ _) hmt0
          cases ne
          have rN : ∀ wk, Since W0 wk → wk.cell? ⟨b, q + m0 * 5 + 1, none⟩ = some (.int .i64 (wdt ts args 0)) := fun wk h => by
            obtain ⟨nb', nq', nc', nav', ne', _, _, _, _, hn1, _⟩ := HT.out.at2 (below_hop HB0.out h) hmt0
            cases ne'
            rw [hn1]
            unfold wdt
            rw [HM.out.1, Int.toNat_natCast]
          obtain ⟨ab, ao, ae, _, _⟩ := HAVW.out.row hn0
          cases ae
          have rM : ∀ wk, Since W0 wk → wk.cell? ⟨ab, ao, none⟩ = some (.int .i64 m0) := fun wk h => by
            obtain ⟨ab', ao', ae', _, hc⟩ := (HAVW.out.stays (below_hop HB0.out h)).row hn0
            cases ae'
            have := hc 0 hn0
            rw [HM.out.1, Nat.add_zero] at this
            exact this
          clear k5 k8 x0 x1 x3 x4 kO hal hbox c0 c1 c2 c3 c4 hcellj hfree ky0 y0 ky1 y1
          have hjl : (j : Int) < ts.length := by omega
          have wI : IntKind.i64.wrap imm = imm := IntWalk.i64_in _ (by omega)
          go_region_held3 (fun wk => Since W0 wk) (first | assumption | exact Since.drew (by assumption) | exact Since.dr (by assumption) (by assumption) | exact Since.next (by assumption) (by assumption)) (first | (go_at_call 81; (with_reducible refine (varg_0 args m0 ts.length ts.length a0 _ _ _ _ _ (r5 _ (by assumption)) (r3 _ (by assumption)) (rA _ (by assumption)) hn0 HM.out.1 hmt0 ht2 (ry0 _ (by assumption))).mono ?_); rintro e w' ⟨rfl, hd⟩) | (go_at_call 81; (with_reducible refine (varg_1 args m1 ts.length ts.length a1 _ _ _ _ _ (r5 _ (by assumption)) (r3 _ (by assumption)) (rA _ (by assumption)) hn1 HM.out.2 hmt1 ht2 (ry1 _ (by assumption))).mono ?_); rintro e w' ⟨rfl, hd⟩) | (go_at_call 82; (with_reducible refine (pCompare imm (wdt ts args 0) a0 a1 u0 v0 u1 v1 _).mono ?_); rintro e w' ⟨rfl, hb⟩))
          clear wI
          go_wp2_with fail
          go_roundw
          case rel => exact ⟨j + 1, by omega, by go_num, by rw [← HS.out, HVN.out]; exact (HKO.out.below (show Since W0 _ by assumption)).set (by rw [HL.out]; exact hlt) 1, cell_store (r5 _ (by assumption)) (by omega), below_at (below_hop HB0.out (show Since W0 _ by assumption)) (Nat.le_refl _) _ _⟩
          case measure => simp [intOf]; omega
      by_cases o15 : op = 15
      · subst o15
        have hlen : args.length = 3 := by have := HN.out.len; simp only at this; have h15 : arV 15 = 3 := rfl; omega
        have hsel := typed_sel HN.out.typ rfl
        simp only at hsel
        have HR := Lib.hid HN.out.rng
        simp only at HR
        have hn0 : 0 < args.length := by omega
        have hn1 : 1 < args.length := by omega
        have hn2 : 2 < args.length := by omega
        have HN2 := Lib.hid hlen
        clear hlen
        have hr0 := HR.out 0 hn0
        obtain ⟨m0, hm0⟩ := Int.eq_ofNat_of_zero_le hr0.1
        have hj0 : m0 < j := by omega
        have hmt0 : m0 < ts.length := by omega
        have y0 := HO.out.cell (i := m0) (by rw [HL.out]; omega)
        rw [HG.out m0 hj0] at y0
        have b0 := HW.out m0 hj0
        have p0 := @pw_le32 (ts.getD m0 default).width (nodeOk HZ.out hmt0).wid.2
        have u0 : 0 ≤ acc.getD m0 0 := b0.1
        have v0 : acc.getD m0 0 ≤ 4294967295 := by omega
        have hr1 := HR.out 1 hn1
        obtain ⟨m1, hm1⟩ := Int.eq_ofNat_of_zero_le hr1.1
        have hj1 : m1 < j := by omega
        have hmt1 : m1 < ts.length := by omega
        have y1 := HO.out.cell (i := m1) (by rw [HL.out]; omega)
        rw [HG.out m1 hj1] at y1
        have b1 := HW.out m1 hj1
        have p1 := @pw_le32 (ts.getD m1 default).width (nodeOk HZ.out hmt1).wid.2
        have u1 : 0 ≤ acc.getD m1 0 := b1.1
        have v1 : acc.getD m1 0 ≤ 4294967295 := by omega
        have hr2 := HR.out 2 hn2
        obtain ⟨m2, hm2⟩ := Int.eq_ofNat_of_zero_le hr2.1
        have hj2 : m2 < j := by omega
        have hmt2 : m2 < ts.length := by omega
        have y2 := HO.out.cell (i := m2) (by rw [HL.out]; omega)
        rw [HG.out m2 hj2] at y2
        have b2 := HW.out m2 hj2
        have p2 := @pw_le32 (ts.getD m2 default).width (nodeOk HZ.out hmt2).wid.2
        have u2 : 0 ≤ acc.getD m2 0 := b2.1
        have v2 : acc.getD m2 0 ≤ 4294967295 := by omega
        unfold wdt at hsel
        rw [hm0, Int.toNat_natCast] at hsel
        rw [hsel.1] at b0
        have HVN : Hid (vNode ts env acc ⟨15, width, flags, args, imm⟩ = acc.getD (args.getD (2 - acc.getD m0 0).toNat 0).toNat 0) := by
          show _ = _
          simp only [vNode, vArg, if_true, if_false, hm0, Int.toNat_natCast] <;> rfl
        have hp1 : pw 1 = 2 := rfl
        rw [hp1] at b0
        have h01 : acc.getD m0 0 = 0 ∨ acc.getD m0 0 = 1 := by omega
        clear hsel hp1 o0 o33 o14
        rcases h01 with h01 | h01
        · rw [h01] at y0 HVN
          have HVN2 : Hid (vNode ts env acc ⟨15, width, flags, args, imm⟩ = acc.getD m2 0) := by
            show _ = _
            rw [HVN.out, show ((2 : Int) - 0).toNat = 2 by decide, hm2]; rfl
          clear HVN h01
          have HVN := HVN2
          clear HVN2
          generalize acc.getD m0 0 = a0 at *
          generalize acc.getD m1 0 = a1 at *
          generalize acc.getD m2 0 = a2 at *
          have HM := Lib.hid (And.intro hm0 (And.intro hm1 hm2))
          clear hr0 b0 p0 hm0 hr1 b1 p1 hm1 hr2 b2 p2 hm2
          go_wp2_with fail
          have hal : Below wr.heap.size wr (wr.alloc (.cells #[.int .i64 15, .int .i64 width, .int .i64 flags, .slice aa args.length ac, .int .u32 imm] 47)) := (Below.refl _ _).alloc (Nat.le_refl _) _
          have k5 := below_cell hal hbos hbox
          have ky0 := below_cell hal hBs y0
          have ky1 := below_cell hal hBs y1
          have ky2 := below_cell hal hBs y2
          have k8 : (wr.alloc (.cells #[.int .i64 15, .int .i64 width, .int .i64 flags, .slice aa args.length ac, .int .u32 imm] 47)).frozen? ⟨w.heap.size, j, none⟩ = false := by rw [← hfree]; exact hal.frozen (p := ⟨w.heap.size, j, none⟩) hBs
          have k9 : (wr.alloc (.cells #[.int .i64 15, .int .i64 width, .int .i64 flags, .slice aa args.length ac, .int .u32 imm] 47)).heap.size = wr.heap.size + 1 := by simp
          have x0 : (wr.alloc (.cells #[.int .i64 15, .int .i64 width, .int .i64 flags, .slice aa args.length ac, .int .u32 imm] 47)).cell? ⟨wr.heap.size, 0, none⟩ = some (.int .i64 15) := by simp [go_sem]
          have x1 : (wr.alloc (.cells #[.int .i64 15, .int .i64 width, .int .i64 flags, .slice aa args.length ac, .int .u32 imm] 47)).cell? ⟨wr.heap.size, 1, none⟩ = some (.int .i64 width) := by simp [go_sem]
          have x3 : (wr.alloc (.cells #[.int .i64 15, .int .i64 width, .int .i64 flags, .slice aa args.length ac, .int .u32 imm] 47)).cell? ⟨wr.heap.size, 3, none⟩ = some (.slice aa args.length ac) := by simp [go_sem]
          have x4 : (wr.alloc (.cells #[.int .i64 15, .int .i64 width, .int .i64 flags, .slice aa args.length ac, .int .u32 imm] 47)).cell? ⟨wr.heap.size, 4, none⟩ = some (.int .u32 imm) := by simp [go_sem]
          have kO := HO.out.alloc (.cells #[.int .i64 15, .int .i64 width, .int .i64 flags, .slice aa args.length ac, .int .u32 imm] 47)
          generalize wr.alloc (.cells #[.int .i64 15, .int .i64 width, .int .i64 flags, .slice aa args.length ac, .int .u32 imm] 47) = W0 at *
          have HKO := Lib.hid kO
          have r5 : ∀ wk, Keep w W0 w.heap.size j wk → wk.cell? ⟨w2.heap.size, 0, none⟩ = some (.slice (some ⟨w.heap.size, 0, none⟩) ts.length ts.length) := fun wk h => h.cell k5 (by omega)
          have ry0 : ∀ wk, Keep w W0 w.heap.size j wk → wk.cell? ⟨w.heap.size, m0, none⟩ = some (.int .u32 0) := fun wk h => h.cell ky0 (by omega)
          have ry1 : ∀ wk, Keep w W0 w.heap.size j wk → wk.cell? ⟨w.heap.size, m1, none⟩ = some (.int .u32 a1) := fun wk h => h.cell ky1 (by omega)
          have ry2 : ∀ wk, Keep w W0 w.heap.size j wk → wk.cell? ⟨w.heap.size, m2, none⟩ = some (.int .u32 a2) := fun wk h => h.cell ky2 (by omega)
          have r8 : ∀ wk, Keep w W0 w.heap.size j wk → wk.frozen? ⟨w.heap.size, j, none⟩ = false := fun wk h => h.free (by omega) k8
          have r0 : ∀ wk, Keep w W0 w.heap.size j wk → wk.cell? ⟨wr.heap.size, 0, none⟩ = some (.int .i64 15) := fun wk h => h.cell x0 (by omega)
          have r1 : ∀ wk, Keep w W0 w.heap.size j wk → wk.cell? ⟨wr.heap.size, 1, none⟩ = some (.int .i64 width) := fun wk h => h.cell x1 (by omega)
          have r3 : ∀ wk, Keep w W0 w.heap.size j wk → wk.cell? ⟨wr.heap.size, 3, none⟩ = some (.slice aa args.length ac) := fun wk h => h.cell x3 (by omega)
          have r4 : ∀ wk, Keep w W0 w.heap.size j wk → wk.cell? ⟨wr.heap.size, 4, none⟩ = some (.int .u32 imm) := fun wk h => h.cell x4 (by omega)
          have rj : ∀ wk, Keep w W0 w.heap.size j wk → wk.cell? ⟨w.heap.size, j, none⟩ = some (cellNow w.heap.size j wk) := fun wk h => h.now
          have rA : ∀ wk, Keep w W0 w.heap.size j wk → Ints .i64 wk (.slice aa args.length ac) args := fun wk h => HAVW.out.stays h.2
          clear k5 k8 x0 x1 x3 x4 kO hal hbox c0 c1 c2 c3 c4 hcellj hfree ky0 y0 ky1 y1 ky2 y2
          have hjl : (j : Int) < ts.length := by omega
          have wI0 : IntKind.i64.wrap 0 = 0 := by decide
          have wI1 : IntKind.i64.wrap 1 = 1 := by decide
          have wI2 : IntKind.i64.wrap 2 = 2 := by decide
          go_region_held3 (fun wk => Keep w W0 w.heap.size j wk) (first | assumption | exact Keep.drew (by assumption) | exact Keep.dr (by assumption) (by assumption) | exact Keep.below (by assumption) (by assumption) | exact Keep.store (by assumption) (Nat.le_refl _) _) (first | (go_at_call 81; (with_reducible refine (varg_0 args m0 ts.length ts.length 0 _ _ _ _ _ (r5 _ (by assumption)) (r3 _ (by assumption)) (rA _ (by assumption)) hn0 HM.out.1 hmt0 ht2 (ry0 _ (by assumption))).mono ?_); rintro e w' ⟨rfl, hd⟩) | (go_at_call 81; (with_reducible refine (varg_2 args m2 ts.length ts.length a2 _ _ _ _ _ (r5 _ (by assumption)) (r3 _ (by assumption)) (rA _ (by assumption)) hn2 HM.out.2.2 hmt2 ht2 (ry2 _ (by assumption))).mono ?_); rintro e w' ⟨rfl, hd⟩))
          clear wI0 wI1 wI2
          go_wp2_with fail
          go_roundw
          case rel => exact ⟨j + 1, by omega, by go_num, by rw [← HS.out, HVN.out]; exact HKO.out.keepset (by assumption) (by rw [HL.out]; exact hlt), r5 _ (by assumption), (show Keep w W0 w.heap.size j _ by assumption).2⟩
          case measure => simp [intOf]; omega
        · rw [h01] at y0 HVN
          have HVN2 : Hid (vNode ts env acc ⟨15, width, flags, args, imm⟩ = acc.getD m1 0) := by
            show _ = _
            rw [HVN.out, show ((2 : Int) - 1).toNat = 1 by decide, hm1]; rfl
          clear HVN h01
          have HVN := HVN2
          clear HVN2
          generalize acc.getD m0 0 = a0 at *
          generalize acc.getD m1 0 = a1 at *
          generalize acc.getD m2 0 = a2 at *
          have HM := Lib.hid (And.intro hm0 (And.intro hm1 hm2))
          clear hr0 b0 p0 hm0 hr1 b1 p1 hm1 hr2 b2 p2 hm2
          go_wp2_with fail
          have hal : Below wr.heap.size wr (wr.alloc (.cells #[.int .i64 15, .int .i64 width, .int .i64 flags, .slice aa args.length ac, .int .u32 imm] 47)) := (Below.refl _ _).alloc (Nat.le_refl _) _
          have k5 := below_cell hal hbos hbox
          have ky0 := below_cell hal hBs y0
          have ky1 := below_cell hal hBs y1
          have ky2 := below_cell hal hBs y2
          have k8 : (wr.alloc (.cells #[.int .i64 15, .int .i64 width, .int .i64 flags, .slice aa args.length ac, .int .u32 imm] 47)).frozen? ⟨w.heap.size, j, none⟩ = false := by rw [← hfree]; exact hal.frozen (p := ⟨w.heap.size, j, none⟩) hBs
          have k9 : (wr.alloc (.cells #[.int .i64 15, .int .i64 width, .int .i64 flags, .slice aa args.length ac, .int .u32 imm] 47)).heap.size = wr.heap.size + 1 := by simp
          have x0 : (wr.alloc (.cells #[.int .i64 15, .int .i64 width, .int .i64 flags, .slice aa args.length ac, .int .u32 imm] 47)).cell? ⟨wr.heap.size, 0, none⟩ = some (.int .i64 15) := by simp [go_sem]
          have x1 : (wr.alloc (.cells #[.int .i64 15, .int .i64 width, .int .i64 flags, .slice aa args.length ac, .int .u32 imm] 47)).cell? ⟨wr.heap.size, 1, none⟩ = some (.int .i64 width) := by simp [go_sem]
          have x3 : (wr.alloc (.cells #[.int .i64 15, .int .i64 width, .int .i64 flags, .slice aa args.length ac, .int .u32 imm] 47)).cell? ⟨wr.heap.size, 3, none⟩ = some (.slice aa args.length ac) := by simp [go_sem]
          have x4 : (wr.alloc (.cells #[.int .i64 15, .int .i64 width, .int .i64 flags, .slice aa args.length ac, .int .u32 imm] 47)).cell? ⟨wr.heap.size, 4, none⟩ = some (.int .u32 imm) := by simp [go_sem]
          have kO := HO.out.alloc (.cells #[.int .i64 15, .int .i64 width, .int .i64 flags, .slice aa args.length ac, .int .u32 imm] 47)
          generalize wr.alloc (.cells #[.int .i64 15, .int .i64 width, .int .i64 flags, .slice aa args.length ac, .int .u32 imm] 47) = W0 at *
          have HKO := Lib.hid kO
          have r5 : ∀ wk, Keep w W0 w.heap.size j wk → wk.cell? ⟨w2.heap.size, 0, none⟩ = some (.slice (some ⟨w.heap.size, 0, none⟩) ts.length ts.length) := fun wk h => h.cell k5 (by omega)
          have ry0 : ∀ wk, Keep w W0 w.heap.size j wk → wk.cell? ⟨w.heap.size, m0, none⟩ = some (.int .u32 1) := fun wk h => h.cell ky0 (by omega)
          have ry1 : ∀ wk, Keep w W0 w.heap.size j wk → wk.cell? ⟨w.heap.size, m1, none⟩ = some (.int .u32 a1) := fun wk h => h.cell ky1 (by omega)
          have ry2 : ∀ wk, Keep w W0 w.heap.size j wk → wk.cell? ⟨w.heap.size, m2, none⟩ = some (.int .u32 a2) := fun wk h => h.cell ky2 (by omega)
          have r8 : ∀ wk, Keep w W0 w.heap.size j wk → wk.frozen? ⟨w.heap.size, j, none⟩ = false := fun wk h => h.free (by omega) k8
          have r0 : ∀ wk, Keep w W0 w.heap.size j wk → wk.cell? ⟨wr.heap.size, 0, none⟩ = some (.int .i64 15) := fun wk h => h.cell x0 (by omega)
          have r1 : ∀ wk, Keep w W0 w.heap.size j wk → wk.cell? ⟨wr.heap.size, 1, none⟩ = some (.int .i64 width) := fun wk h => h.cell x1 (by omega)
          have r3 : ∀ wk, Keep w W0 w.heap.size j wk → wk.cell? ⟨wr.heap.size, 3, none⟩ = some (.slice aa args.length ac) := fun wk h => h.cell x3 (by omega)
          have r4 : ∀ wk, Keep w W0 w.heap.size j wk → wk.cell? ⟨wr.heap.size, 4, none⟩ = some (.int .u32 imm) := fun wk h => h.cell x4 (by omega)
          have rj : ∀ wk, Keep w W0 w.heap.size j wk → wk.cell? ⟨w.heap.size, j, none⟩ = some (cellNow w.heap.size j wk) := fun wk h => h.now
          have rA : ∀ wk, Keep w W0 w.heap.size j wk → Ints .i64 wk (.slice aa args.length ac) args := fun wk h => HAVW.out.stays h.2
          clear k5 k8 x0 x1 x3 x4 kO hal hbox c0 c1 c2 c3 c4 hcellj hfree ky0 y0 ky1 y1 ky2 y2
          have hjl : (j : Int) < ts.length := by omega
          have wI0 : IntKind.i64.wrap 0 = 0 := by decide
          have wI1 : IntKind.i64.wrap 1 = 1 := by decide
          have wI2 : IntKind.i64.wrap 2 = 2 := by decide
          go_region_held3 (fun wk => Keep w W0 w.heap.size j wk) (first | assumption | exact Keep.drew (by assumption) | exact Keep.dr (by assumption) (by assumption) | exact Keep.below (by assumption) (by assumption) | exact Keep.store (by assumption) (Nat.le_refl _) _) (first | (go_at_call 81; (with_reducible refine (varg_0 args m0 ts.length ts.length 1 _ _ _ _ _ (r5 _ (by assumption)) (r3 _ (by assumption)) (rA _ (by assumption)) hn0 HM.out.1 hmt0 ht2 (ry0 _ (by assumption))).mono ?_); rintro e w' ⟨rfl, hd⟩) | (go_at_call 81; (with_reducible refine (varg_1 args m1 ts.length ts.length a1 _ _ _ _ _ (r5 _ (by assumption)) (r3 _ (by assumption)) (rA _ (by assumption)) hn1 HM.out.2.1 hmt1 ht2 (ry1 _ (by assumption))).mono ?_); rintro e w' ⟨rfl, hd⟩))
          clear wI0 wI1 wI2
          go_wp2_with fail
          go_roundw
          case rel => exact ⟨j + 1, by omega, by go_num, by rw [← HS.out, HVN.out]; exact HKO.out.keepset (by assumption) (by rw [HL.out]; exact hlt), r5 _ (by assumption), (show Keep w W0 w.heap.size j _ by assumption).2⟩
          case measure => simp [intOf]; omega
      by_cases o16 : 16 ≤ op
      · have hlen : args.length = 1 := by have := HN.out.len; have := HN.out.ar; simp only at *; rcases arV_cases op with h | h | h | h | h <;> omega
        have HR := Lib.hid HN.out.rng
        simp only at HR
        have hn0 : 0 < args.length := by omega
        have HN2 := Lib.hid hlen
        clear hlen
        have hr0 := HR.out 0 hn0
        obtain ⟨m0, hm0⟩ := Int.eq_ofNat_of_zero_le hr0.1
        have hj0 : m0 < j := by omega
        have hmt0 : m0 < ts.length := by omega
        have y0 := HO.out.cell (i := m0) (by rw [HL.out]; omega)
        rw [HG.out m0 hj0] at y0
        have b0 := HW.out m0 hj0
        have p0 := @pw_le32 (ts.getD m0 default).width (nodeOk HZ.out hmt0).wid.2
        have u0 : 0 ≤ acc.getD m0 0 := b0.1
        have v0 : acc.getD m0 0 ≤ 4294967295 := by omega
        have HVN : Hid (vNode ts env acc ⟨op, width, flags, args, imm⟩ = exX op (wdt ts args 0) width (acc.getD m0 0)) := by
          show _ = _
          simp only [vNode, vArg]
          rw [if_neg (by omega), if_neg (by omega), if_neg (by omega), if_neg (by omega), if_pos o16, hm0]; rfl
        generalize acc.getD m0 0 = a0 at *
        have HM := Lib.hid (And.intro hm0 True.intro)
        clear hr0 b0 p0 hm0
        have z0 : (op == 0) = false := by simpa using o0
        have z33 : (op == 33) = false := by simpa using o33
        have z14 : (op == 14) = false := by simpa using o14
        have z15 : (op == 15) = false := by simpa using o15
        have z16 : decide (16 ≤ op) = true := by simpa using o16
        clear o0 o33 o14 o15 o16
        go_wp2_with fail
        have hal : Below wr.heap.size wr (wr.alloc (.cells #[.int .i64 op, .int .i64 width, .int .i64 flags, .slice aa args.length ac, .int .u32 imm] 47)) := (Below.refl _ _).alloc (Nat.le_refl _) _
        have k5 := below_cell hal hbos hbox
        have ky0 := below_cell hal hBs y0
        have k8 : (wr.alloc (.cells #[.int .i64 op, .int .i64 width, .int .i64 flags, .slice aa args.length ac, .int .u32 imm] 47)).frozen? ⟨w.heap.size, j, none⟩ = false := by rw [← hfree]; exact hal.frozen (p := ⟨w.heap.size, j, none⟩) hBs
        have k9 : (wr.alloc (.cells #[.int .i64 op, .int .i64 width, .int .i64 flags, .slice aa args.length ac, .int .u32 imm] 47)).heap.size = wr.heap.size + 1 := by simp
        have x0 : (wr.alloc (.cells #[.int .i64 op, .int .i64 width, .int .i64 flags, .slice aa args.length ac, .int .u32 imm] 47)).cell? ⟨wr.heap.size, 0, none⟩ = some (.int .i64 op) := by simp [go_sem]
        have x1 : (wr.alloc (.cells #[.int .i64 op, .int .i64 width, .int .i64 flags, .slice aa args.length ac, .int .u32 imm] 47)).cell? ⟨wr.heap.size, 1, none⟩ = some (.int .i64 width) := by simp [go_sem]
        have x3 : (wr.alloc (.cells #[.int .i64 op, .int .i64 width, .int .i64 flags, .slice aa args.length ac, .int .u32 imm] 47)).cell? ⟨wr.heap.size, 3, none⟩ = some (.slice aa args.length ac) := by simp [go_sem]
        have x4 : (wr.alloc (.cells #[.int .i64 op, .int .i64 width, .int .i64 flags, .slice aa args.length ac, .int .u32 imm] 47)).cell? ⟨wr.heap.size, 4, none⟩ = some (.int .u32 imm) := by simp [go_sem]
        have kO := HO.out.alloc (.cells #[.int .i64 op, .int .i64 width, .int .i64 flags, .slice aa args.length ac, .int .u32 imm] 47)
        generalize wr.alloc (.cells #[.int .i64 op, .int .i64 width, .int .i64 flags, .slice aa args.length ac, .int .u32 imm] 47) = W0 at *
        have HKO := Lib.hid kO
        have r5 : ∀ wk, Keep w W0 w.heap.size j wk → wk.cell? ⟨w2.heap.size, 0, none⟩ = some (.slice (some ⟨w.heap.size, 0, none⟩) ts.length ts.length) := fun wk h => h.cell k5 (by omega)
        have ry0 : ∀ wk, Keep w W0 w.heap.size j wk → wk.cell? ⟨w.heap.size, m0, none⟩ = some (.int .u32 a0) := fun wk h => h.cell ky0 (by omega)
        have r8 : ∀ wk, Keep w W0 w.heap.size j wk → wk.frozen? ⟨w.heap.size, j, none⟩ = false := fun wk h => h.free (by omega) k8
        have r0 : ∀ wk, Keep w W0 w.heap.size j wk → wk.cell? ⟨wr.heap.size, 0, none⟩ = some (.int .i64 op) := fun wk h => h.cell x0 (by omega)
        have r1 : ∀ wk, Keep w W0 w.heap.size j wk → wk.cell? ⟨wr.heap.size, 1, none⟩ = some (.int .i64 width) := fun wk h => h.cell x1 (by omega)
        have r3 : ∀ wk, Keep w W0 w.heap.size j wk → wk.cell? ⟨wr.heap.size, 3, none⟩ = some (.slice aa args.length ac) := fun wk h => h.cell x3 (by omega)
        have r4 : ∀ wk, Keep w W0 w.heap.size j wk → wk.cell? ⟨wr.heap.size, 4, none⟩ = some (.int .u32 imm) := fun wk h => h.cell x4 (by omega)
        have rj : ∀ wk, Keep w W0 w.heap.size j wk → wk.cell? ⟨w.heap.size, j, none⟩ = some (cellNow w.heap.size j wk) := fun wk h => h.now
        have rA : ∀ wk, Keep w W0 w.heap.size j wk → Ints .i64 wk (.slice aa args.length ac) args := fun wk h => HAVW.out.stays h.2
        obtain ⟨nb, nq, nc, nav, ne, _, hnb, _, _, _, _⟩ := HT.out.at2 (Below.refl _ _) hmt0
        cases ne
        have rN : ∀ wk, Keep w W0 w.heap.size j wk → wk.cell? ⟨b, q + m0 * 5 + 1, none⟩ = some (.int .i64 (wdt ts args 0)) := fun wk h => by
          obtain ⟨nb', nq', nc', nav', ne', _, _, _, _, hn1, _⟩ := HT.out.at2 h.2 hmt0
          cases ne'
          rw [hn1]
          unfold wdt
          rw [HM.out.1, Int.toNat_natCast]
        obtain ⟨ab, ao, ae, _, _⟩ := HAVW.out.row hn0
        cases ae
        have rM : ∀ wk, Keep w W0 w.heap.size j wk → wk.cell? ⟨ab, ao, none⟩ = some (.int .i64 m0) := fun wk h => by
          obtain ⟨ab', ao', ae', _, hc⟩ := (HAVW.out.stays h.2).row hn0
          cases ae'
          have := hc 0 hn0
          rw [HM.out.1, Nat.add_zero] at this
          exact this
        clear k5 k8 x0 x1 x3 x4 kO hal hbox c0 c1 c2 c3 c4 hcellj hfree ky0 y0
        have hjl : (j : Int) < ts.length := by omega
        go_region_held3 (fun wk => Keep w W0 w.heap.size j wk) (first | assumption | exact Keep.drew (by assumption) | exact Keep.dr (by assumption) (by assumption) | exact Keep.below (by assumption) (by assumption) | exact Keep.store (by assumption) (Nat.le_refl _) _) (first | (go_at_call 81; (with_reducible refine (varg_0 args m0 ts.length ts.length a0 _ _ _ _ _ (r5 _ (by assumption)) (r3 _ (by assumption)) (rA _ (by assumption)) hn0 HM.out.1 hmt0 ht2 (ry0 _ (by assumption))).mono ?_); rintro e w' ⟨rfl, hd⟩) | (go_at_call 83; (with_reducible refine (pExtend op (wdt ts args 0) width a0 u0 v0 _).mono ?_); rintro e w' ⟨rfl, hb⟩))
        go_wp2_with fail
        go_roundw
        case rel => exact ⟨j + 1, by omega, by go_num, by rw [← HS.out, HVN.out]; exact HKO.out.keepset (by assumption) (by rw [HL.out]; exact hlt), r5 _ (by assumption), (show Keep w W0 w.heap.size j _ by assumption).2⟩
        case measure => simp [intOf]; omega
      have hlen : args.length = 2 := by have := HN.out.len; have := HN.out.ar; simp only at *; rcases arV_cases op with h | h | h | h | h <;> omega
      have HR := Lib.hid HN.out.rng
      simp only at HR
      have hn0 : 0 < args.length := by omega
      have hn1 : 1 < args.length := by omega
      have HN2 := Lib.hid hlen
      clear hlen
      have hr0 := HR.out 0 hn0
      obtain ⟨m0, hm0⟩ := Int.eq_ofNat_of_zero_le hr0.1
      have hj0 : m0 < j := by omega
      have hmt0 : m0 < ts.length := by omega
      have y0 := HO.out.cell (i := m0) (by rw [HL.out]; omega)
      rw [HG.out m0 hj0] at y0
      have b0 := HW.out m0 hj0
      have p0 := @pw_le32 (ts.getD m0 default).width (nodeOk HZ.out hmt0).wid.2
      have u0 : 0 ≤ acc.getD m0 0 := b0.1
      have v0 : acc.getD m0 0 ≤ 4294967295 := by omega
      have hr1 := HR.out 1 hn1
      obtain ⟨m1, hm1⟩ := Int.eq_ofNat_of_zero_le hr1.1
      have hj1 : m1 < j := by omega
      have hmt1 : m1 < ts.length := by omega
      have y1 := HO.out.cell (i := m1) (by rw [HL.out]; omega)
      rw [HG.out m1 hj1] at y1
      have b1 := HW.out m1 hj1
      have p1 := @pw_le32 (ts.getD m1 default).width (nodeOk HZ.out hmt1).wid.2
      have u1 : 0 ≤ acc.getD m1 0 := b1.1
      have v1 : acc.getD m1 0 ≤ 4294967295 := by omega
      have HVN : Hid (vNode ts env acc ⟨op, width, flags, args, imm⟩ = toX op width (acc.getD m0 0) (acc.getD m1 0)) := by
        show _ = _
        simp only [vNode, vArg]
        rw [if_neg (by omega), if_neg (by omega), if_neg (by omega), if_neg (by omega), if_neg (by omega), hm0, hm1]; rfl
      generalize acc.getD m0 0 = a0 at *
      generalize acc.getD m1 0 = a1 at *
      have HM := Lib.hid (And.intro hm0 hm1)
      clear hr0 b0 p0 hm0 hr1 b1 p1 hm1
      have z0 : (op == 0) = false := by simpa using o0
      have z33 : (op == 33) = false := by simpa using o33
      have z14 : (op == 14) = false := by simpa using o14
      have z15 : (op == 15) = false := by simpa using o15
      have z16 : decide (16 ≤ op) = false := by simpa using o16
      clear o0 o33 o14 o15 o16
      go_wp2_with fail
      have hal : Below wr.heap.size wr (wr.alloc (.cells #[.int .i64 op, .int .i64 width, .int .i64 flags, .slice aa args.length ac, .int .u32 imm] 47)) := (Below.refl _ _).alloc (Nat.le_refl _) _
      have k5 := below_cell hal hbos hbox
      have ky0 := below_cell hal hBs y0
      have ky1 := below_cell hal hBs y1
      have k8 : (wr.alloc (.cells #[.int .i64 op, .int .i64 width, .int .i64 flags, .slice aa args.length ac, .int .u32 imm] 47)).frozen? ⟨w.heap.size, j, none⟩ = false := by rw [← hfree]; exact hal.frozen (p := ⟨w.heap.size, j, none⟩) hBs
      have k9 : (wr.alloc (.cells #[.int .i64 op, .int .i64 width, .int .i64 flags, .slice aa args.length ac, .int .u32 imm] 47)).heap.size = wr.heap.size + 1 := by simp
      have x0 : (wr.alloc (.cells #[.int .i64 op, .int .i64 width, .int .i64 flags, .slice aa args.length ac, .int .u32 imm] 47)).cell? ⟨wr.heap.size, 0, none⟩ = some (.int .i64 op) := by simp [go_sem]
      have x1 : (wr.alloc (.cells #[.int .i64 op, .int .i64 width, .int .i64 flags, .slice aa args.length ac, .int .u32 imm] 47)).cell? ⟨wr.heap.size, 1, none⟩ = some (.int .i64 width) := by simp [go_sem]
      have x3 : (wr.alloc (.cells #[.int .i64 op, .int .i64 width, .int .i64 flags, .slice aa args.length ac, .int .u32 imm] 47)).cell? ⟨wr.heap.size, 3, none⟩ = some (.slice aa args.length ac) := by simp [go_sem]
      have x4 : (wr.alloc (.cells #[.int .i64 op, .int .i64 width, .int .i64 flags, .slice aa args.length ac, .int .u32 imm] 47)).cell? ⟨wr.heap.size, 4, none⟩ = some (.int .u32 imm) := by simp [go_sem]
      have kO := HO.out.alloc (.cells #[.int .i64 op, .int .i64 width, .int .i64 flags, .slice aa args.length ac, .int .u32 imm] 47)
      generalize wr.alloc (.cells #[.int .i64 op, .int .i64 width, .int .i64 flags, .slice aa args.length ac, .int .u32 imm] 47) = W0 at *
      have HKO := Lib.hid kO
      have r5 : ∀ wk, Keep w W0 w.heap.size j wk → wk.cell? ⟨w2.heap.size, 0, none⟩ = some (.slice (some ⟨w.heap.size, 0, none⟩) ts.length ts.length) := fun wk h => h.cell k5 (by omega)
      have ry0 : ∀ wk, Keep w W0 w.heap.size j wk → wk.cell? ⟨w.heap.size, m0, none⟩ = some (.int .u32 a0) := fun wk h => h.cell ky0 (by omega)
      have ry1 : ∀ wk, Keep w W0 w.heap.size j wk → wk.cell? ⟨w.heap.size, m1, none⟩ = some (.int .u32 a1) := fun wk h => h.cell ky1 (by omega)
      have r8 : ∀ wk, Keep w W0 w.heap.size j wk → wk.frozen? ⟨w.heap.size, j, none⟩ = false := fun wk h => h.free (by omega) k8
      have r0 : ∀ wk, Keep w W0 w.heap.size j wk → wk.cell? ⟨wr.heap.size, 0, none⟩ = some (.int .i64 op) := fun wk h => h.cell x0 (by omega)
      have r1 : ∀ wk, Keep w W0 w.heap.size j wk → wk.cell? ⟨wr.heap.size, 1, none⟩ = some (.int .i64 width) := fun wk h => h.cell x1 (by omega)
      have r3 : ∀ wk, Keep w W0 w.heap.size j wk → wk.cell? ⟨wr.heap.size, 3, none⟩ = some (.slice aa args.length ac) := fun wk h => h.cell x3 (by omega)
      have r4 : ∀ wk, Keep w W0 w.heap.size j wk → wk.cell? ⟨wr.heap.size, 4, none⟩ = some (.int .u32 imm) := fun wk h => h.cell x4 (by omega)
      have rj : ∀ wk, Keep w W0 w.heap.size j wk → wk.cell? ⟨w.heap.size, j, none⟩ = some (cellNow w.heap.size j wk) := fun wk h => h.now
      have rA : ∀ wk, Keep w W0 w.heap.size j wk → Ints .i64 wk (.slice aa args.length ac) args := fun wk h => HAVW.out.stays h.2
      clear k5 k8 x0 x1 x3 x4 kO hal hbox c0 c1 c2 c3 c4 hcellj hfree ky0 y0 ky1 y1
      have hjl : (j : Int) < ts.length := by omega
      go_region_held3 (fun wk => Keep w W0 w.heap.size j wk) (first | assumption | exact Keep.drew (by assumption) | exact Keep.dr (by assumption) (by assumption) | exact Keep.below (by assumption) (by assumption) | exact Keep.store (by assumption) (Nat.le_refl _) _) (first | (go_at_call 81; (with_reducible refine (varg_0 args m0 ts.length ts.length a0 _ _ _ _ _ (r5 _ (by assumption)) (r3 _ (by assumption)) (rA _ (by assumption)) hn0 HM.out.1 hmt0 ht2 (ry0 _ (by assumption))).mono ?_); rintro e w' ⟨rfl, hd⟩) | (go_at_call 81; (with_reducible refine (varg_1 args m1 ts.length ts.length a1 _ _ _ _ _ (r5 _ (by assumption)) (r3 _ (by assumption)) (rA _ (by assumption)) hn1 HM.out.2 hmt1 ht2 (ry1 _ (by assumption))).mono ?_); rintro e w' ⟨rfl, hd⟩) | (go_at_call 84; (with_reducible refine (pTotal op width a0 a1 _ u0 v0 u1 v1).mono ?_); rintro e w' ⟨rfl, hb⟩))
      go_wp2_with fail
      go_roundw
      case rel => exact ⟨j + 1, by omega, by go_num, by rw [← HS.out, HVN.out]; exact HKO.out.keepset (by assumption) (by rw [HL.out]; exact hlt), r5 _ (by assumption), (show Keep w W0 w.heap.size j _ by assumption).2⟩
      case measure => simp [intOf]; omega
    · obtain rfl : j = ts.length := by omega
      have hvl : vL ts env ts.length = vals ts env := by unfold vL vals; rw [List.take_length, Nat.sub_self]; simp
      rw [hvl] at ho
      have hvn : (vals ts env).length = ts.length := valsF_len ts env ts
      have HO2 := Lib.hid (And.intro ho hvn)
      clear ho hvl hvn hb
      go_wp2_with fail
      go_ret
      refine ⟨_, rfl, ?_, HB.out⟩
      have h := HO2.out.1.ints (by rw [HO2.out.2]; omega)
      rw [HO2.out.2] at h
      exact h

end Go.Proofs.Ythopdfikikdcbaa
