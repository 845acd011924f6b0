/- Walk of the values of the nodes of a term. -/
import Derived.Deep.RegionHeld3
import Derived.Laws.AppendOwnNone
import Derived.Test.YthopdfikikdcbaaZj1
import Derived.Test.YthopdfikikdcbaaZj6
namespace Go.Proofs.Ythopdfikikdcbaa
open Go.RowKit Wd
set_option linter.unusedVariables false
set_option linter.unusedSimpArgs false
/-- From W0 to w nothing has been written but the cell j of block B, and w is told of w0 by Below. -/
def Keep (w0 W0 : World) (B j : Nat) (w : World) : Prop :=
  (W0.heap.size ≤ w.heap.size ∧ (∀ b o, b < W0.heap.size → ¬ (b = B ∧ o = j) → w.cell? ⟨b, o, none⟩ = W0.cell? ⟨b, o, none⟩) ∧ (∀ b o, b < W0.heap.size → w.frozen? ⟨b, o, none⟩ = W0.frozen? ⟨b, o, none⟩) ∧ ∃ v, w.cell? ⟨B, j, none⟩ = some v) ∧ Below w0.heap.size w0 w
theorem Keep.refl {w0 W0 : World} {B j : Nat} {v : Value} (h : W0.cell? ⟨B, j, none⟩ = some v) (hb : Below w0.heap.size w0 W0) : Keep w0 W0 B j W0 := ⟨⟨Nat.le_refl _, fun _ _ _ _ => rfl, fun _ _ _ => rfl, v, h⟩, hb⟩
theorem Keep.drew {w0 W0 : World} {B j : Nat} {w : World} (h : Keep w0 W0 B j w) : Keep w0 W0 B j w.drew := ⟨h.1, h.2.drew⟩
theorem Keep.drewN {w0 W0 : World} {B j : Nat} {w : World} (h : Keep w0 W0 B j w) (n : Nat) : Keep w0 W0 B j (w.drewN n) := ⟨h.1, below_drewN h.2 n⟩
theorem Keep.below {w0 W0 : World} {B j : Nat} {w w' : World} (h : Keep w0 W0 B j w) (hb : Below w.heap.size w w') : Keep w0 W0 B j w' := by
  obtain ⟨⟨h1, h2, h3, v, h4⟩, h5⟩ := h
  refine ⟨⟨Nat.le_trans h1 hb.size, fun b o hlt hne => ?_, fun b o hlt => ?_, v, ?_⟩, below_hop h5 hb⟩
  · rw [← h2 b o hlt hne]; exact hb.cell (p := ⟨b, o, none⟩) (Nat.lt_of_lt_of_le hlt h1)
  · rw [← h3 b o hlt]; exact hb.frozen (p := ⟨b, o, none⟩) (Nat.lt_of_lt_of_le hlt h1)
  · rw [← h4]; exact hb.cell (p := ⟨B, j, none⟩) (cell_lt h4)
theorem Keep.dr {w0 W0 : World} {B j : Nat} {w w' : World} (h : Keep w0 W0 B j w) (hd : Dr w w') : Keep w0 W0 B j w' := by
  obtain ⟨n, rfl⟩ := hd
  exact h.drewN n
theorem Keep.store {w0 W0 : World} {B j : Nat} {w : World} (h : Keep w0 W0 B j w) (hB : w0.heap.size ≤ B) (u : Value) : Keep w0 W0 B j (w.setCell ⟨B, j, none⟩ u) := by
  obtain ⟨⟨h1, h2, h3, v, h4⟩, h5⟩ := h
  refine ⟨⟨by simpa using h1, fun b o hlt hne => ?_, fun b o hlt => ?_, u, World.cell?_setCell_same _ _ _ h4⟩, below_at h5 hB _ _⟩
  · rw [← h2 b o hlt hne, World.cell?_setCell_other _ _ _ _ (by intro e; cases e; exact hne ⟨rfl, rfl⟩)]
  · rw [← h3 b o hlt, World.frozen?_setCell]
theorem Keep.cell {w0 W0 : World} {B j : Nat} {w : World} (h : Keep w0 W0 B j w) {b o : Nat} {v : Value} (hc : W0.cell? ⟨b, o, none⟩ = some v) (hne : ¬ (b = B ∧ o = j)) : w.cell? ⟨b, o, none⟩ = some v := by
  rw [← hc]; exact h.1.2.1 b o (cell_lt hc) hne
theorem Keep.free {w0 W0 : World} {B j : Nat} {w : World} (h : Keep w0 W0 B j w) (hB : B < W0.heap.size) (hf : W0.frozen? ⟨B, j, none⟩ = false) : w.frozen? ⟨B, j, none⟩ = false := by
  rw [← hf]; exact h.1.2.2.1 B j hB
/-- What the cell o of block b holds. -/
def cellNow (b o : Nat) (w : World) : Value := (w.cell? ⟨b, o, none⟩).getD undef
theorem Keep.now {w0 W0 : World} {B j : Nat} {w : World} (h : Keep w0 W0 B j w) : w.cell? ⟨B, j, none⟩ = some (cellNow B j w) := by
  obtain ⟨⟨_, _, _, v, h4⟩, _⟩ := h
  unfold cellNow
  rw [h4]; rfl
theorem cell_of_store {w : World} {B j : Nat} {u v : Value} (h : (w.setCell ⟨B, j, none⟩ u).cell? ⟨B, j, none⟩ = some v) : ∃ x, w.cell? ⟨B, j, none⟩ = some x := by
  simp only [World.cell?, World.setCell, Array.getElem?_modify, if_true] at h ⊢
  cases hb : w.heap[B]? with
  | none => rw [hb] at h; simp at h
  | some ob =>
    rw [hb] at h
    cases ob <;> simp at h ⊢
    rename_i c e f
    rw [Array.getElem?_setIfInBounds] at h
    by_cases hj : j < c.size
    · exact ⟨c[j], by rw [Array.getElem?_eq_getElem hj]⟩
    · simp [hj] at h
theorem OInts.keepset {k : IntKind} {w0 W0 w : World} {B j : Nat} {L : List Int} {x : Int} (h : OInts k W0 B L) (hk : Keep w0 W0 B j (w.setCell ⟨B, j, none⟩ (.int k x))) (hj : j < L.length) : OInts k (w.setCell ⟨B, j, none⟩ (.int k x)) B (L.set j x) := by
  refine ⟨Nat.lt_of_lt_of_le h.1 hk.1.1, fun i hi => ?_⟩
  rw [List.length_set] at hi
  refine ⟨?_, by rw [hk.1.2.2.1 B i h.1]; exact h.free hi⟩
  by_cases e : j = i
  · subst e
    obtain ⟨y, hy⟩ := cell_of_store hk.now
    rw [World.cell?_setCell_same _ _ _ hy, getD_set_self hi]
  · rw [getD_set_ne e]
    exact hk.cell (h.cell hi) (by rintro ⟨_, hh⟩; exact e hh.symm)
theorem cell_alloc {w : World} {ob : Obj} {b o : Nat} {v : Value} (h : w.cell? ⟨b, o, none⟩ = some v) : (w.alloc ob).cell? ⟨b, o, none⟩ = some v := below_cell ((Below.refl _ _).alloc (Nat.le_refl _) _) (cell_lt h) h
theorem cell_store {w : World} {B j b o : Nat} {u v : Value} (h : w.cell? ⟨b, o, none⟩ = some v) (hne : ¬ (b = B ∧ o = j)) : (w.setCell ⟨B, j, none⟩ u).cell? ⟨b, o, none⟩ = some v := by
  rw [World.cell?_setCell_other _ _ _ _ (by intro e; cases e; exact hne ⟨rfl, rfl⟩)]; exact h
theorem OInts.keep {k : IntKind} {w0 W0 w : World} {B j : Nat} {L : List Int} (h : OInts k W0 B L) (hk : Keep w0 W0 B j w) (hc : w.cell? ⟨B, j, none⟩ = W0.cell? ⟨B, j, none⟩) : OInts k w B L := by
  refine ⟨Nat.lt_of_lt_of_le h.1 hk.1.1, fun i hi => ⟨?_, by rw [hk.1.2.2.1 B i h.1]; exact h.free hi⟩⟩
  by_cases e : j = i
  · subst e; rw [hc]; exact h.cell hi
  · exact hk.cell (h.cell hi) (by rintro ⟨_, hh⟩; exact e hh.symm)
theorem Since.drew {w0 w : World} (h : Since w0 w) : Since w0 w.drew := Below.drew h
theorem Since.dr {w0 w w' : World} (h : Since w0 w) (hd : Dr w w') : Since w0 w' := below_hop h (hd.below _)
theorem Since.next {w0 w w' : World} (h : Since w0 w) (hb : Below w.heap.size w w') : Since w0 w' := below_hop h hb
theorem Since.cell {w0 w : World} (h : Since w0 w) {b o : Nat} {v : Value} (hc : w0.cell? ⟨b, o, none⟩ = some v) : w.cell? ⟨b, o, none⟩ = some v := below_cell h (cell_lt hc) hc
theorem Since.free {w0 w : World} (h : Since w0 w) {b o : Nat} (hb : b < w0.heap.size) (hf : w0.frozen? ⟨b, o, none⟩ = false) : w.frozen? ⟨b, o, none⟩ = false := by rw [← hf]; exact Below.frozen (p := ⟨b, o, none⟩) h hb
theorem info_u32 : (Try.prog.info? 34).map (fun i => (i.zero, i.size, i.bytes)) = some (some (.int .u32 0), 1, 4) := by kernel_rfl
/-- The values of the first nodes, and zeros. -/
def vL (ts : List Nd) (env : List Int) (j : Nat) : List Int := valsF ts env (ts.take j) ++ List.replicate (ts.length - j) 0
theorem vL_len {ts : List Nd} {env : List Int} {j : Nat} (h : j ≤ ts.length) : (vL ts env j).length = ts.length := by
  unfold vL; rw [List.length_append, valsF_take_len h, List.length_replicate]; omega
theorem vL_get {ts : List Nd} {env : List Int} {j a : Nat} (h : j ≤ ts.length) (ha : a < j) : (vL ts env j).getD a 0 = (valsF ts env (ts.take j)).getD a 0 := by
  unfold vL; rw [getD_append_lt (by rw [valsF_take_len h]; exact ha)]
theorem vL_at {ts : List Nd} {env : List Int} {j : Nat} (h : j < ts.length) : (vL ts env j).getD j 0 = 0 := by
  unfold vL
  rw [List.getD_eq_getElem?_getD, List.getElem?_append_right (by rw [valsF_take_len (by omega)]; omega), valsF_take_len (by omega), Nat.sub_self, List.getElem?_replicate]
  split <;> rfl
theorem vL_set {ts : List Nd} {env : List Int} {j : Nat} (h : j < ts.length) : (vL ts env j).set j (vNode ts env (valsF ts env (ts.take j)) (ts.getD j default)) = vL ts env (j + 1) := by
  unfold vL
  rw [vals_snoc ts env j h, List.set_append_right _ _ (by rw [valsF_take_len (by omega)]; omega), valsF_take_len (by omega), Nat.sub_self]
  have e : ts.length - j = (ts.length - (j + 1)) + 1 := by omega
  rw [e, List.replicate_succ, List.set_cons_zero, List.append_assoc]
  rfl

set_option maxRecDepth 100000 in
set_option maxHeartbeats 16000000 in
theorem values_any (ts : List Nd) (env : List Int) (tv ev : Value) (w : World) (hts : Nds w tv ts) (hev : Ints .u32 w ev env) (hz : valE ts = 0) (hi : ∀ x ∈ ts, 0 ≤ x.imm ∧ x.imm ≤ 4294967295) (he : EnvOk ts env) : Calls Try.prog 50 #[tv, ev] w fun e w' => ∃ v, e = .returned v ∧ Ints .u32 w' v (vals ts env) ∧ Below w.heap.size w w' := by
  have HT := Lib.hid hts
  have HI := Lib.hid hi
  have HE := Lib.hid hev
  have HZ := Lib.hid hz
  have HEO := Lib.hid he
  have hlen : 1 ≤ ts.length ∧ ts.length ≤ 300 := ⟨(valid_facts hz).1, (valid_facts hz).2.1⟩
  obtain ⟨hl1, hl2⟩ := hlen
  have hl4 := he.1
  obtain ⟨ta, tc, rfl, ht1, ht2⟩ := hts.shape
  obtain ⟨ea, ec, rfl, he1, he2⟩ := hev.shape
  clear hi hts hev hz he
  obtain ⟨i0, hi0, hz0, hz1, hz2⟩ := info_parts info_u32
  go_enter Try.func50, Try.ntmps50
  go_wp2_with (at_make; refine wpList_make_full _ rfl _ _ 33 rfl (w.heap.size) 34 i0 (.int .u32 0) 1 Try.underlying33 hi0 hz0 hz1 .i64 .i64 _ _ ts.length rfl rfl rfl rfl ?d1 ?d2 ?d3 ?_)
  case d1 => rw [hz2]; omega
  case d2 => unfold maxLen; omega
  case d3 => exact Nat.le_refl _
  intro w2 hown hgr
  have hO : OInts .u32 w2 w.heap.size (vL ts env 0) := (OInts.made hown : OInts .u32 w2 w.heap.size (List.replicate ts.length 0))
  have hb2 := below_made hgr
  have hbs2 := hO.1
  have HB2 := Lib.hid (And.intro hO hb2)
  clear hown hgr hO hb2
  obtain ⟨bo, hbo⟩ : ∃ bo, bo = w2.heap.size := ⟨_, rfl⟩
  have HBO := Lib.hid hbo
  go_wp2_with fail
  go_loopw [16] (fun i wr => ∃ j : Nat, j ≤ ts.length ∧ i = .int .i64 j ∧ OInts .u32 wr w.heap.size (vL ts env j) ∧ wr.cell? ⟨w2.heap.size, 0, none⟩ = some (.slice (some ⟨w.heap.size, 0, none⟩) ts.length ts.length) ∧ Below w.heap.size w wr) (fun i _ => ts.length - (intOf i).toNat)
  case atStart => exact ⟨0, Nat.zero_le _, rfl, HB2.out.1.alloc _, by simp [go_sem], HB2.out.2.alloc (by omega) _⟩
  case round =>
    obtain ⟨j, hj, rfl, ho, hbox, hb⟩ := hrel
    have hBs := ho.1
    have hbos := cell_lt hbox
    have HO := Lib.hid ho
    have HB := Lib.hid hb
    have hbs := hb.size
    by_cases hlt : j < ts.length
    · obtain ⟨b, q, c', av, e', _, hbq, hav, c0, c1, c2, c3, c4⟩ := HT.out.at2 hb hlt
      cases e'
      have HN := Lib.hid (nodeOk HZ.out hlt)
      have hAV := hav.stays hb
      have HAV := Lib.hid hAV
      have HAVW := Lib.hid hav
      have HW := Lib.hid (vals_words HZ.out HI.out HEO.out j hj)
      have HG := Lib.hid (fun a => @vL_get ts env j a hj)
      have HL := Lib.hid (@vL_len ts env j hj)
      have HS := Lib.hid (@vL_set ts env j hlt)
      have HD0 := Lib.hid (set_at (@vL_at ts env j hlt) (by rw [HL.out]; exact hlt))
      have hI := HI.out _ (mem_getD hlt)
      have hfree := ho.free (i := j) (by rw [vL_len hj]; exact hlt)
      have hcellj := ho.cell (i := j) (by rw [vL_len hj]; exact hlt)
      clear hb hav
      generalize (vL ts env j).getD j 0 = old at hcellj
      generalize vL ts env j = L at *
      generalize valsF ts env (ts.take j) = acc at *
      generalize ts.getD j default = x at *
      obtain ⟨op, width, flags, args, imm⟩ := x
      simp only at c0 c1 c2 c3 c4 hAV hI
      obtain ⟨aa, ac, rfl, ha1, _⟩ := hAV.shape
      clear ho hAV
      have hK0 : Keep w (wr.alloc (.cells #[.int .i64 op, .int .i64 width, .int .i64 flags, .slice aa args.length ac, .int .u32 imm] 47)) w.heap.size j (wr.alloc (.cells #[.int .i64 op, .int .i64 width, .int .i64 flags, .slice aa args.length ac, .int .u32 imm] 47)) := by
        exact Keep.refl (v := .int .u32 old) (below_cell ((Below.refl _ _).alloc (Nat.le_refl _) _) hBs hcellj) (HB.out.alloc (by omega) _)
      by_cases o0 : op = 0
      · subst o0
        have HVN : Hid (vNode ts env acc ⟨0, width, flags, args, imm⟩ = imm) := by
          show _ = _
          simp only [vNode]
          rfl
        clear hK0
        go_wp2_with fail
        go_roundw
        case rel => exact ⟨j + 1, by omega, by go_num, by rw [← HS.out, HVN.out]; exact (HO.out.set (by rw [HL.out]; exact hlt) imm).alloc _, cell_alloc (cell_store hbox (by omega)), (below_at HB.out (Nat.le_refl _) _ _).alloc (by simp; omega) _⟩
        case measure => simp [intOf]; omega
      by_cases o33 : op = 33
      · subst o33
        obtain ⟨k, rfl⟩ := Int.eq_ofNat_of_zero_le hI.1
        have hk4 : k < 4 := by have := HN.out.imm; unfold immOk at this; rw [if_neg (by simp), if_pos rfl] at this; simp at this; omega
        obtain ⟨eb, eo, ec2, ee, _, heb, ecell⟩ := (HE.out.stays HB.out).at (show k < env.length by rw [hl4]; exact hk4)
        cases ee
        have HVN : Hid (vNode ts env acc ⟨33, width, flags, args, (k : Int)⟩ = env.getD k 0) := by
          show _ = _
          simp only [vNode]
          rfl
        generalize env.getD k 0 = y at *
        have HL4 := Lib.hid hl4
        clear hl4 hK0 o0 hI
        go_wp2_with fail
        go_region
        all_goals go_wp2_with fail
        go_roundw
        case rel => exact ⟨j + 1, by omega, by go_num, by rw [← HS.out, HVN.out]; exact ((HO.out.set (by rw [HL.out]; exact hlt) y).alloc _), cell_alloc (cell_store hbox (by omega)), ((below_at HB.out (Nat.le_refl _) _ _).alloc (by simp; omega) _).drew⟩
        case measure => simp [intOf]; omega
      by_cases o14 : op = 14
      · subst o14
        have hlen : args.length = 2 := by have := HN.out.len; simp only at this; have h14 : arV 14 = 2 := rfl; omega
        have HR := Lib.hid HN.out.rng
        simp only at HR
        have hn0 : 0 < args.length := by omega
        have hn1 : 1 < args.length := by omega
        have HN2 := Lib.hid hlen
        clear hlen
        have hr0 := HR.out 0 hn0
        obtain ⟨m0, hm0⟩ := Int.eq_ofNat_of_zero_le hr0.1
        have hj0 : m0 < j := by omega
        have hmt0 : m0 < ts.length := by omega
        have y0 := HO.out.cell (i := m0) (by rw [HL.out]; omega)
        rw [HG.out m0 hj0] at y0
        have b0 := HW.out m0 hj0
        have p0 := @pw_le32 (ts.getD m0 default).width (nodeOk HZ.out hmt0).wid.2
        have u0 : 0 ≤ acc.getD m0 0 := b0.1
        have v0 : acc.getD m0 0 ≤ 4294967295 := by omega
        have hr1 := HR.out 1 hn1
        obtain ⟨m1, hm1⟩ := Int.eq_ofNat_of_zero_le hr1.1
        have hj1 : m1 < j := by omega
        have hmt1 : m1 < ts.length := by omega
        have y1 := HO.out.cell (i := m1) (by rw [HL.out]; omega)
        rw [HG.out m1 hj1] at y1
        have b1 := HW.out m1 hj1
        have p1 := @pw_le32 (ts.getD m1 default).width (nodeOk HZ.out hmt1).wid.2
        have u1 : 0 ≤ acc.getD m1 0 := b1.1
        have v1 : acc.getD m1 0 ≤ 4294967295 := by omega
        have HVN : Hid (vNode ts env acc ⟨14, width, flags, args, imm⟩ = if coX imm (wdt ts args 0) (acc.getD m0 0) (acc.getD m1 0) = true then 1 else 0) := by
          show _ = _
          simp only [vNode, vArg, if_true, if_false, hm0, hm1, Int.toNat_natCast] <;> rfl
        generalize acc.getD m0 0 = a0 at *
        generalize acc.getD m1 0 = a1 at *
        have HM := Lib.hid (And.intro hm0 hm1)
        clear hr0 b0 p0 hm0 hr1 b1 p1 hm1
        clear o0 o33
        cases hco : coX imm (wdt ts args 0) a0 a1
        · rw [hco] at HVN
          go_wp2_with fail
          have hal : Below wr.heap.size wr (wr.alloc (.cells #[.int .i64 14, .int .i64 width, .int .i64 flags, .slice aa args.length ac, .int .u32 imm] 47)) := (Below.refl _ _).alloc (Nat.le_refl _) _
          have kj := below_cell hal hBs hcellj
          have k5 := below_cell hal hbos hbox
          have ky0 := below_cell hal hBs y0
          have ky1 := below_cell hal hBs y1
          have k8 : (wr.alloc (.cells #[.int .i64 14, .int .i64 width, .int .i64 flags, .slice aa args.length ac, .int .u32 imm] 47)).frozen? ⟨w.heap.size, j, none⟩ = false := by rw [← hfree]; exact hal.frozen (p := ⟨w.heap.size, j, none⟩) hBs
          have k9 : (wr.alloc (.cells #[.int .i64 14, .int .i64 width, .int .i64 flags, .slice aa args.length ac, .int .u32 imm] 47)).heap.size = wr.heap.size + 1 := by simp
          have x0 : (wr.alloc (.cells #[.int .i64 14, .int .i64 width, .int .i64 flags, .slice aa args.length ac, .int .u32 imm] 47)).cell? ⟨wr.heap.size, 0, none⟩ = some (.int .i64 14) := by simp [go_sem]
          have x1 : (wr.alloc (.cells #[.int .i64 14, .int .i64 width, .int .i64 flags, .slice aa args.length ac, .int .u32 imm] 47)).cell? ⟨wr.heap.size, 1, none⟩ = some (.int .i64 width) := by simp [go_sem]
          have x3 : (wr.alloc (.cells #[.int .i64 14, .int .i64 width, .int .i64 flags, .slice aa args.length ac, .int .u32 imm] 47)).cell? ⟨wr.heap.size, 3, none⟩ = some (.slice aa args.length ac) := by simp [go_sem]
          have x4 : (wr.alloc (.cells #[.int .i64 14, .int .i64 width, .int .i64 flags, .slice aa args.length ac, .int .u32 imm] 47)).cell? ⟨wr.heap.size, 4, none⟩ = some (.int .u32 imm) := by simp [go_sem]
          have kO := HO.out.alloc (.cells #[.int .i64 14, .int .i64 width, .int .i64 flags, .slice aa args.length ac, .int .u32 imm] 47)
          generalize wr.alloc (.cells #[.int .i64 14, .int .i64 width, .int .i64 flags, .slice aa args.length ac, .int .u32 imm] 47) = W0 at *
          have HKO := Lib.hid kO
          have HB0 := Lib.hid hK0.2
          have h00 := Since.refl W0
          have r5 : ∀ wk, Since W0 wk → wk.cell? ⟨w2.heap.size, 0, none⟩ = some (.slice (some ⟨w.heap.size, 0, none⟩) ts.length ts.length) := fun wk h => h.cell k5
          have ry0 : ∀ wk, Since W0 wk → wk.cell? ⟨w.heap.size, m0, none⟩ = some (.int .u32 a0) := fun wk h => h.cell ky0
          have ry1 : ∀ wk, Since W0 wk → wk.cell? ⟨w.heap.size, m1, none⟩ = some (.int .u32 a1) := fun wk h => h.cell ky1
          have r8 : ∀ wk, Since W0 wk → wk.frozen? ⟨w.heap.size, j, none⟩ = false := fun wk h => h.free (by omega) k8
          have r0 : ∀ wk, Since W0 wk → wk.cell? ⟨wr.heap.size, 0, none⟩ = some (.int .i64 14) := fun wk h => h.cell x0
          have r1 : ∀ wk, Since W0 wk → wk.cell? ⟨wr.heap.size, 1, none⟩ = some (.int .i64 width) := fun wk h => h.cell x1
          have r3 : ∀ wk, Since W0 wk → wk.cell? ⟨wr.heap.size, 3, none⟩ = some (.slice aa args.length ac) := fun wk h => h.cell x3
          have r4 : ∀ wk, Since W0 wk → wk.cell? ⟨wr.heap.size, 4, none⟩ = some (.int .u32 imm) := fun wk h => h.cell x4
          have rj : ∀ wk, Since W0 wk → wk.cell? ⟨w.heap.size, j, none⟩ = some (.int .u32 old) := fun wk h => h.cell kj
          have rA : ∀ wk, Since W0 wk → Ints .i64 wk (.slice aa args.length ac) args := fun wk h => HAVW.out.stays (below_hop HB0.out h)
          obtain ⟨nb, nq, nc, nav, ne, _, hnb, _, _, _, _⟩ := HT.out.at2 (Below.refl _ _) hmt0
          cases ne
          have rN : ∀ wk, Since W0 wk → wk.cell? ⟨b, q + m0 * 5 + 1, none⟩ = some (.int .i64 (wdt ts args 0)) := fun wk h => by
            obtain ⟨nb', nq', nc', nav', ne', _, _, _, _, hn1, _⟩ := HT.out.at2 (below_hop HB0.out h) hmt0
            cases ne'
            rw [hn1]
            unfold wdt
            rw [HM.out.1, Int.toNat_natCast]
          obtain ⟨ab, ao, ae, _, _⟩ := HAVW.out.row hn0
          cases ae
          have rM : ∀ wk, Since W0 wk → wk.cell? ⟨ab, ao, none⟩ = some (.int .i64 m0) := fun wk h => by
            obtain ⟨ab', ao', ae', _, hc⟩ := (HAVW.out.stays (below_hop HB0.out h)).row hn0
            cases ae'
            have := hc 0 hn0
            rw [HM.out.1, Nat.add_zero] at this
            exact this
          clear k5 k8 x0 x1 x3 x4 kO hal hbox c0 c1 c2 c3 c4 hcellj hfree ky0 y0 ky1 y1
          have hjl : (j : Int) < ts.length := by omega
          have wI : IntKind.i64.wrap imm = imm := IntWalk.i64_in _ (by omega)
          go_region_held3 (fun wk => Since W0 wk) (first | assumption | exact Since.drew (by assumption) | exact Since.dr (by assumption) (by assumption) | exact Since.next (by assumption) (by assumption)) (first | (go_at_call 81; (with_reducible refine (varg_0 args m0 ts.length ts.length a0 _ _ _ _ _ (r5 _ (by assumption)) (r3 _ (by assumption)) (rA _ (by assumption)) hn0 HM.out.1 hmt0 ht2 (ry0 _ (by assumption))).mono ?_); rintro e w' ⟨rfl, hd⟩) | (go_at_call 81; (with_reducible refine (varg_1 args m1 ts.length ts.length a1 _ _ _ _ _ (r5 _ (by assumption)) (r3 _ (by assumption)) (rA _ (by assumption)) hn1 HM.out.2 hmt1 ht2 (ry1 _ (by assumption))).mono ?_); rintro e w' ⟨rfl, hd⟩) | (go_at_call 82; (with_reducible refine (pCompare imm (wdt ts args 0) a0 a1 u0 v0 u1 v1 _).mono ?_); rintro e w' ⟨rfl, hb⟩))
          clear wI
          go_wp2_with fail
          go_roundw
          case rel => exact ⟨j + 1, by omega, by go_num, by rw [← HS.out, HVN.out, if_neg (by decide), HD0.out]; exact HKO.out.below (show Since W0 _ by assumption), r5 _ (by assumption), below_hop HB0.out (show Since W0 _ by assumption)⟩
          case measure => simp [intOf]; omega
        · rw [hco] at HVN
          go_wp2_with fail
          have hal : Below wr.heap.size wr (wr.alloc (.cells #[.int .i64 14, .int .i64 width, .int .i64 flags, .slice aa args.length ac, .int .u32 imm] 47)) := (Below.refl _ _).alloc (Nat.le_refl _) _
          have kj := below_cell hal hBs hcellj
          have k5 := below_cell hal hbos hbox
          have ky0 := below_cell hal hBs y0
          have ky1 := below_cell hal hBs y1
          have k8 : (wr.alloc (.cells #[.int .i64 14, .int .i64 width, .int .i64 flags, .slice aa args.length ac, .int .u32 imm] 47)).frozen? ⟨w.heap.size, j, none⟩ = false := by rw [← hfree]; exact hal.frozen (p := ⟨w.heap.size, j, none⟩) hBs
          have k9 : (wr.alloc (.cells #[.int .i64 14, .int .i64 width, .int .i64 flags, .slice aa args.length ac, .int .u32 imm] 47)).heap.size = wr.heap.size + 1 := by simp
          have x0 : (wr.alloc (.cells #[.int .i64 14, .int .i64 width, .int .i64 flags, .slice aa args.length ac, .int .u32 imm] 47)).cell? ⟨wr.heap.size, 0, none⟩ = some (.int .i64 14) := by simp [go_sem]
          have x1 : (wr.alloc (.cells #[.int .i64 14, .int .i64 width, .int .i64 flags, .slice aa args.length ac, .int .u32 imm] 47)).cell? ⟨wr.heap.size, 1, none⟩ = some (.int .i64 width) := by simp [go_sem]
          have x3 : (wr.alloc (.cells #[.int .i64 14, .int .i64 width, .int .i64 flags, .slice aa args.length ac, .int .u32 imm] 47)).cell? ⟨wr.heap.size, 3, none⟩ = some (.slice aa args.length ac) := by simp [go_sem]
          have x4 : (wr.alloc (.cells #[.int .i64 14, .int .i64 width, .int .i64 flags, .slice aa args.length ac, .int .u32 imm] 47)).cell? ⟨wr.heap.size, 4, none⟩ = some (.int .u32 imm) := by simp [go_sem]
          have kO := HO.out.alloc (.cells #[.int .i64 14, .int .i64 width, .int .i64 flags, .slice aa args.length ac, .int .u32 imm] 47)
          generalize wr.alloc (.cells #[.int .i64 14, .int .i64 width, .int .i64 flags, .slice aa args.length ac, .int .u32 imm] 47) = W0 at *
          have HKO := Lib.hid kO
          have HB0 := Lib.hid hK0.2
          have h00 := Since.refl W0
          have r5 : ∀ wk, Since W0 wk → wk.cell? ⟨w2.heap.size, 0, none⟩ = some (.slice (some ⟨w.heap.size, 0, none⟩) ts.length ts.length) := fun wk h => h.cell k5
          have ry0 : ∀ wk, Since W0 wk → wk.cell? ⟨w.heap.size, m0, none⟩ = some (.int .u32 a0) := fun wk h => h.cell ky0
          have ry1 : ∀ wk, Since W0 wk → wk.cell? ⟨w.heap.size, m1, none⟩ = some (.int .u32 a1) := fun wk h => h.cell ky1
          have r8 : ∀ wk, Since W0 wk → wk.frozen? ⟨w.heap.size, j, none⟩ = false := fun wk h => h.free (by omega) k8
          have r0 : ∀ wk, Since W0 wk → wk.cell? ⟨wr.heap.size, 0, none⟩ = some (.int .i64 14) := fun wk h => h.cell x0
          have r1 : ∀ wk, Since W0 wk → wk.cell? ⟨wr.heap.size, 1, none⟩ = some (.int .i64 width) := fun wk h => h.cell x1
          have r3 : ∀ wk, Since W0 wk → wk.cell? ⟨wr.heap.size, 3, none⟩ = some (.slice aa args.length ac) := fun wk h => h.cell x3
          have r4 : ∀ wk, Since W0 wk → wk.cell? ⟨wr.heap.size, 4, none⟩ = some (.int .u32 imm) := fun wk h => h.cell x4
          have rj : ∀ wk, Since W0 wk → wk.cell? ⟨w.heap.size, j, none⟩ = some (.int .u32 old) := fun wk h => h.cell kj
          have rA : ∀ wk, Since W0 wk → Ints .i64 wk (.slice aa args.length ac) args := fun wk h => HAVW.out.stays (below_hop HB0.out h)
          obtain ⟨nb, nq, nc, nav, ne, _, hnb, _, _, _, _⟩ := HT.out.at2 (Below.refl _ _) hmt0
          cases ne
          have rN : ∀ wk, Since W0 wk → wk.cell? ⟨b, q + m0 * 5 + 1, none⟩ = some (.int .i64 (wdt ts args 0)) := fun wk h => by
            obtain ⟨nb', nq', nc', nav', ne', _, _, _, _, hn1, _⟩ := HT.out.at2 (below_hop HB0.out h) hmt0
            cases ne'
            rw [hn1]
            unfold wdt
            rw [HM.out.1, Int.toNat_natCast]
          obtain ⟨ab, ao, ae, _, _⟩ := HAVW.out.row hn0
          cases ae
          have rM : ∀ wk, Since W0 wk → wk.cell? ⟨ab, ao, none⟩ = some (.int .i64 m0) := fun wk h => by
            obtain ⟨ab', ao', ae', _, hc⟩ := (HAVW.out.stays (below_hop HB0.out h)).row hn0
            cases ae'
            have := hc 0 hn0
            rw [HM.out.1, Nat.add_zero] at this
            exact this
          clear k5 k8 x0 x1 x3 x4 kO hal hbox c0 c1 c2 c3 c4 hcellj hfree ky0 y0 ky1 y1
          have hjl : (j : Int) < ts.length := by omega
          have wI : IntKind.i64.wrap imm = imm := IntWalk.i64_in _ (by omega)
          go_region_held3 (fun wk => Since W0 wk) (first | assumption | exact Since.drew (by assumption) | exact Since.dr (by assumption) (by assumption) | exact Since.next (by assumption) (by assumption)) (first | (go_at_call 81; (with_reducible refine (varg_0 args m0 ts.length ts.length a0 _ _ _ _ _ (r5 _ (by assumption)) (r3 _ (by assumption)) (rA _ (by assumption)) hn0 HM.out.1 hmt0 ht2 (ry0 _ (by assumption))).mono ?_); rintro e w' ⟨rfl, hd⟩) | (go_at_call 81; (with_reducible refine (varg_1 args m1 ts.length ts.length a1 _ _ _ _ _ (r5 _ (by assumption)) (r3 _ (by assumption)) (rA _ (by assumption)) hn1 HM.out.2 hmt1 ht2 (ry1 _ (by assumption))).mono ?_); rintro e w' ⟨rfl, hd⟩) | (go_at_call 82; (with_reducible refine (pCompare imm (wdt ts args 0) a0 a1 u0 v0 u1 v1 _).mono ?_); rintro e w' ⟨rfl, hb⟩))
          clear wI
          go_wp2_with fail
          go_roundw
          case rel => exact ⟨j + 1, by omega, by go_num, by rw [← HS.out, HVN.out]; exact (HKO.out.below (show Since W0 _ by assumption)).set (by rw [HL.out]; exact hlt) 1, cell_store (r5 _ (by assumption)) (by omega), below_at (below_hop HB0.out (show Since W0 _ by assumption)) (Nat.le_refl _) _ _⟩
          case measure => simp [intOf]; omega
      by_cases o15 : op = 15
      · subst o15
        have hlen : args.length = 3 := by have := HN.out.len; simp only at this; have h15 : arV 15 = 3 := rfl; omega
        have hsel := typed_sel HN.out.typ rfl
        simp only at hsel
        have HR := Lib.hid HN.out.rng
        simp only at HR
        have hn0 : 0 < args.length := by omega
        have hn1 : 1 < args.length := by omega
        have hn2 : 2 < args.length := by omega
        have HN2 := Lib.hid hlen
        clear hlen
        have hr0 := HR.out 0 hn0
        obtain ⟨m0, hm0⟩ := Int.eq_ofNat_of_zero_le hr0.1
        have hj0 : m0 < j := by omega
        have hmt0 : m0 < ts.length := by omega
        have y0 := HO.out.cell (i := m0) (by rw [HL.out]; omega)
        rw [HG.out m0 hj0] at y0
        have b0 := HW.out m0 hj0
        have p0 := @pw_le32 (ts.getD m0 default).width (nodeOk HZ.out hmt0).wid.2
        have u0 : 0 ≤ acc.getD m0 0 := b0.1
        have v0 : acc.getD m0 0 ≤ 4294967295 := by omega
        have hr1 := HR.out 1 hn1
        obtain ⟨m1, hm1⟩ := Int.eq_ofNat_of_zero_le hr1.1
        have hj1 : m1 < j := by omega
        have hmt1 : m1 < ts.length := by omega
        have y1 := HO.out.cell (i := m1) (by rw [HL.out]; omega)
        rw [HG.out m1 hj1] at y1
        have b1 := HW.out m1 hj1
        have p1 := @pw_le32 (ts.getD m1 default).width (nodeOk HZ.out hmt1).wid.2
        have u1 : 0 ≤ acc.getD m1 0 := b1.1
        have v1 : acc.getD m1 0 ≤ 4294967295 := by omega
        have hr2 := HR.out 2 hn2
        obtain ⟨m2, hm2⟩ := Int.eq_ofNat_of_zero_le hr2.1
        have hj2 : m2 < j := by omega
        have hmt2 : m2 < ts.length := by omega
        have y2 := HO.out.cell (i := m2) (by rw [HL.out]; omega)
        rw [HG.out m2 hj2] at y2
        have b2 := HW.out m2 hj2
        have p2 := @pw_le32 (ts.getD m2 default).width (nodeOk HZ.out hmt2).wid.2
        have u2 : 0 ≤ acc.getD m2 0 := b2.1
        have v2 : acc.getD m2 0 ≤ 4294967295 := by omega
        unfold wdt at hsel
        rw [hm0, Int.toNat_natCast] at hsel
        rw [hsel.1] at b0
        have HVN : Hid (vNode ts env acc ⟨15, width, flags, args, imm⟩ = acc.getD (args.getD (2 - acc.getD m0 0).toNat 0).toNat 0) := by
          show _ = _
          simp only [vNode, vArg, if_true, if_false, hm0, Int.toNat_natCast] <;> rfl
        have hp1 : pw 1 = 2 := rfl
        rw [hp1] at b0
        have h01 : acc.getD m0 0 = 0 ∨ acc.getD m0 0 = 1 := by omega
        clear hsel hp1 o0 o33 o14
        rcases h01 with h01 | h01
        · rw [h01] at y0 HVN
          have HVN2 : Hid (vNode ts env acc ⟨15, width, flags, args, imm⟩ = acc.getD m2 0) := by
            show _ = _
            rw [HVN.out, show ((2 : Int) - 0).toNat = 2 by decide, hm2]; rfl
          clear HVN h01
          have HVN := HVN2
          clear HVN2
          generalize acc.getD m0 0 = a0 at *
          generalize acc.getD m1 0 = a1 at *
          generalize acc.getD m2 0 = a2 at *
          have HM := Lib.hid (And.intro hm0 (And.intro hm1 hm2))
          clear hr0 b0 p0 hm0 hr1 b1 p1 hm1 hr2 b2 p2 hm2
          go_wp2_with fail
          have hal : Below wr.heap.size wr (wr.alloc (.cells #[.int .i64 15, .int .i64 width, .int .i64 flags, .slice aa args.length ac, .int .u32 imm] 47)) := (Below.refl _ _).alloc (Nat.le_refl _) _
          have k5 := below_cell hal hbos hbox
          have ky0 := below_cell hal hBs y0
          have ky1 := below_cell hal hBs y1
          have ky2 := below_cell hal hBs y2
          have k8 : (wr.alloc (.cells #[.int .i64 15, .int .i64 width, .int .i64 flags, .slice aa args.length ac, .int .u32 imm] 47)).frozen? ⟨w.heap.size, j, none⟩ = false := by rw [← hfree]; exact hal.frozen (p := ⟨w.heap.size, j, none⟩) hBs
          have k9 : (wr.alloc (.cells #[.int .i64 15, .int .i64 width, .int .i64 flags, .slice aa args.length ac, .int .u32 imm] 47)).heap.size = wr.heap.size + 1 := by simp
          have x0 : (wr.alloc (.cells #[.int .i64 15, .int .i64 width, .int .i64 flags, .slice aa args.length ac, .int .u32 imm] 47)).cell? ⟨wr.heap.size, 0, none⟩ = some (.int .i64 15) := by simp [go_sem]
          have x1 : (wr.alloc (.cells #[.int .i64 15, .int .i64 width, .int .i64 flags, .slice aa args.length ac, .int .u32 imm] 47)).cell? ⟨wr.heap.size, 1, none⟩ = some (.int .i64 width) := by simp [go_sem]
          have x3 : (wr.alloc (.cells #[.int .i64 15, .int .i64 width, .int .i64 flags, .slice aa args.length ac, .int .u32 imm] 47)).cell? ⟨wr.heap.size, 3, none⟩ = some (.slice aa args.length ac) := by simp [go_sem]
          have x4 : (wr.alloc (.cells #[.int .i64 15, .int .i64 width, .int .i64 flags, .slice aa args.length ac, .int .u32 imm] 47)).cell? ⟨wr.heap.size, 4, none⟩ = some (.int .u32 imm) := by simp [go_sem]
          have kO := HO.out.alloc (.cells #[.int .i64 15, .int .i64 width, .int .i64 flags, .slice aa args.length ac, .int .u32 imm] 47)
          generalize wr.alloc (.cells #[.int .i64 15, .int .i64 width, .int .i64 flags, .slice aa args.length ac, .int .u32 imm] 47) = W0 at *
          have HKO := Lib.hid kO
          have r5 : ∀ wk, Keep w W0 w.heap.size j wk → wk.cell? ⟨w2.heap.size, 0, none⟩ = some (.slice (some ⟨w.heap.size, 0, none⟩) ts.length ts.length) := fun wk h => h.cell k5 (by omega)
          have ry0 : ∀ wk, Keep w W0 w.heap.size j wk → wk.cell? ⟨w.heap.size, m0, none⟩ = some (.int .u32 0) := fun wk h => h.cell ky0 (by omega)
          have ry1 : ∀ wk, Keep w W0 w.heap.size j wk → wk.cell? ⟨w.heap.size, m1, none⟩ = some (.int .u32 a1) := fun wk h => h.cell ky1 (by omega)
          have ry2 : ∀ wk, Keep w W0 w.heap.size j wk → wk.cell? ⟨w.heap.size, m2, none⟩ = some (.int .u32 a2) := fun wk h => h.cell ky2 (by omega)
          have r8 : ∀ wk, Keep w W0 w.heap.size j wk → wk.frozen? ⟨w.heap.size, j, none⟩ = false := fun wk h => h.free (by omega) k8
          have r0 : ∀ wk, Keep w W0 w.heap.size j wk → wk.cell? ⟨wr.heap.size, 0, none⟩ = some (.int .i64 15) := fun wk h => h.cell x0 (by omega)
          have r1 : ∀ wk, Keep w W0 w.heap.size j wk → wk.cell? ⟨wr.heap.size, 1, none⟩ = some (.int .i64 width) := fun wk h => h.cell x1 (by omega)
          have r3 : ∀ wk, Keep w W0 w.heap.size j wk → wk.cell? ⟨wr.heap.size, 3, none⟩ = some (.slice aa args.length ac) := fun wk h => h.cell x3 (by omega)
          have r4 : ∀ wk, Keep w W0 w.heap.size j wk → wk.cell? ⟨wr.heap.size, 4, none⟩ = some (.int .u32 imm) := fun wk h => h.cell x4 (by omega)
          have rj : ∀ wk, Keep w W0 w.heap.size j wk → wk.cell? ⟨w.heap.size, j, none⟩ = some (cellNow w.heap.size j wk) := fun wk h => h.now
          have rA : ∀ wk, Keep w W0 w.heap.size j wk → Ints .i64 wk (.slice aa args.length ac) args := fun wk h => HAVW.out.stays h.2
          clear k5 k8 x0 x1 x3 x4 kO hal hbox c0 c1 c2 c3 c4 hcellj hfree ky0 y0 ky1 y1 ky2 y2
          have hjl : (j : Int) < ts.length := by omega
          have wI0 : IntKind.i64.wrap 0 = 0 := by decide
          have wI1 : IntKind.i64.wrap 1 = 1 := by decide
          have wI2 : IntKind.i64.wrap 2 = 2 := by decide
          go_region_held3 (fun wk => Keep w W0 w.heap.size j wk) (first | assumption | exact Keep.drew (by assumption) | exact Keep.dr (by assumption) (by assumption) | exact Keep.below (by assumption) (by assumption) | exact Keep.store (by assumption) (Nat.le_refl _) _) (first | (go_at_call 81; (with_reducible refine (varg_0 args m0 ts.length ts.length 0 _ _ _ _ _ (r5 _ (by assumption)) (r3 _ (by assumption)) (rA _ (by assumption)) hn0 HM.out.1 hmt0 ht2 (ry0 _ (by assumption))).mono ?_); rintro e w' ⟨rfl, hd⟩) | (go_at_call 81; (with_reducible refine (varg_2 args m2 ts.length ts.length a2 _ _ _ _ _ (r5 _ (by assumption)) (r3 _ (by assumption)) (rA _ (by assumption)) hn2 HM.out.2.2 hmt2 ht2 (ry2 _ (by assumption))).mono ?_); rintro e w' ⟨rfl, hd⟩))
          clear wI0 wI1 wI2
          go_wp2_with fail
          go_roundw
          case rel => exact ⟨j + 1, by omega, by go_num, by rw [← HS.out, HVN.out]; exact HKO.out.keepset (by assumption) (by rw [HL.out]; exact hlt), r5 _ (by assumption), (show Keep w W0 w.heap.size j _ by assumption).2⟩
          case measure => simp [intOf]; omega
        · rw [h01] at y0 HVN
          have HVN2 : Hid (vNode ts env acc ⟨15, width, flags, args, imm⟩ = acc.getD m1 0) := by
            show _ = _
            rw [HVN.out, show ((2 : Int) - 1).toNat = 1 by decide, hm1]; rfl
          clear HVN h01
          have HVN := HVN2
          clear HVN2
          generalize acc.getD m0 0 = a0 at *
          generalize acc.getD m1 0 = a1 at *
          generalize acc.getD m2 0 = a2 at *
          have HM := Lib.hid (And.intro hm0 (And.intro hm1 hm2))
          clear hr0 b0 p0 hm0 hr1 b1 p1 hm1 hr2 b2 p2 hm2
          go_wp2_with fail
          have hal : Below wr.heap.size wr (wr.alloc (.cells #[.int .i64 15, .int .i64 width, .int .i64 flags, .slice aa args.length ac, .int .u32 imm] 47)) := (Below.refl _ _).alloc (Nat.le_refl _) _
          have k5 := below_cell hal hbos hbox
          have ky0 := below_cell hal hBs y0
          have ky1 := below_cell hal hBs y1
          have ky2 := below_cell hal hBs y2
          have k8 : (wr.alloc (.cells #[.int .i64 15, .int .i64 width, .int .i64 flags, .slice aa args.length ac, .int .u32 imm] 47)).frozen? ⟨w.heap.size, j, none⟩ = false := by rw [← hfree]; exact hal.frozen (p := ⟨w.heap.size, j, none⟩) hBs
          have k9 : (wr.alloc (.cells #[.int .i64 15, .int .i64 width, .int .i64 flags, .slice aa args.length ac, .int .u32 imm] 47)).heap.size = wr.heap.size + 1 := by simp
          have x0 : (wr.alloc (.cells #[.int .i64 15, .int .i64 width, .int .i64 flags, .slice aa args.length ac, .int .u32 imm] 47)).cell? ⟨wr.heap.size, 0, none⟩ = some (.int .i64 15) := by simp [go_sem]
          have x1 : (wr.alloc (.cells #[.int .i64 15, .int .i64 width, .int .i64 flags, .slice aa args.length ac, .int .u32 imm] 47)).cell? ⟨wr.heap.size, 1, none⟩ = some (.int .i64 width) := by simp [go_sem]
          have x3 : (wr.alloc (.cells #[.int .i64 15, .int .i64 width, .int .i64 flags, .slice aa args.length ac, .int .u32 imm] 47)).cell? ⟨wr.heap.size, 3, none⟩ = some (.slice aa args.length ac) := by simp [go_sem]
          have x4 : (wr.alloc (.cells #[.int .i64 15, .int .i64 width, .int .i64 flags, .slice aa args.length ac, .int .u32 imm] 47)).cell? ⟨wr.heap.size, 4, none⟩ = some (.int .u32 imm) := by simp [go_sem]
          have kO := HO.out.alloc (.cells #[.int .i64 15, .int .i64 width, .int .i64 flags, .slice aa args.length ac, .int .u32 imm] 47)
          generalize wr.alloc (.cells #[.int .i64 15, .int .i64 width, .int .i64 flags, .slice aa args.length ac, .int .u32 imm] 47) = W0 at *
          have HKO := Lib.hid kO
          have r5 : ∀ wk, Keep w W0 w.heap.size j wk → wk.cell? ⟨w2.heap.size, 0, none⟩ = some (.slice (some ⟨w.heap.size, 0, none⟩) ts.length ts.length) := fun wk h => h.cell k5 (by omega)
          have ry0 : ∀ wk, Keep w W0 w.heap.size j wk → wk.cell? ⟨w.heap.size, m0, none⟩ = some (.int .u32 1) := fun wk h => h.cell ky0 (by omega)
          have ry1 : ∀ wk, Keep w W0 w.heap.size j wk → wk.cell? ⟨w.heap.size, m1, none⟩ = some (.int .u32 a1) := fun wk h => h.cell ky1 (by omega)
          have ry2 : ∀ wk, Keep w W0 w.heap.size j wk → wk.cell? ⟨w.heap.size, m2, none⟩ = some (.int .u32 a2) := fun wk h => h.cell ky2 (by omega)
          have r8 : ∀ wk, Keep w W0 w.heap.size j wk → wk.frozen? ⟨w.heap.size, j, none⟩ = false := fun wk h => h.free (by omega) k8
          have r0 : ∀ wk, Keep w W0 w.heap.size j wk → wk.cell? ⟨wr.heap.size, 0, none⟩ = some (.int .i64 15) := fun wk h => h.cell x0 (by omega)
          have r1 : ∀ wk, Keep w W0 w.heap.size j wk → wk.cell? ⟨wr.heap.size, 1, none⟩ = some (.int .i64 width) := fun wk h => h.cell x1 (by omega)
          have r3 : ∀ wk, Keep w W0 w.heap.size j wk → wk.cell? ⟨wr.heap.size, 3, none⟩ = some (.slice aa args.length ac) := fun wk h => h.cell x3 (by omega)
          have r4 : ∀ wk, Keep w W0 w.heap.size j wk → wk.cell? ⟨wr.heap.size, 4, none⟩ = some (.int .u32 imm) := fun wk h => h.cell x4 (by omega)
          have rj : ∀ wk, Keep w W0 w.heap.size j wk → wk.cell? ⟨w.heap.size, j, none⟩ = some (cellNow w.heap.size j wk) := fun wk h => h.now
          have rA : ∀ wk, Keep w W0 w.heap.size j wk → Ints .i64 wk (.slice aa args.length ac) args := fun wk h => HAVW.out.stays h.2
          clear k5 k8 x0 x1 x3 x4 kO hal hbox c0 c1 c2 c3 c4 hcellj hfree ky0 y0 ky1 y1 ky2 y2
          have hjl : (j : Int) < ts.length := by omega
          have wI0 : IntKind.i64.wrap 0 = 0 := by decide
          have wI1 : IntKind.i64.wrap 1 = 1 := by decide
          have wI2 : IntKind.i64.wrap 2 = 2 := by decide
          go_region_held3 (fun wk => Keep w W0 w.heap.size j wk) (first | assumption | exact Keep.drew (by assumption) | exact Keep.dr (by assumption) (by assumption) | exact Keep.below (by assumption) (by assumption) | exact Keep.store (by assumption) (Nat.le_refl _) _) (first | (go_at_call 81; (with_reducible refine (varg_0 args m0 ts.length ts.length 1 _ _ _ _ _ (r5 _ (by assumption)) (r3 _ (by assumption)) (rA _ (by assumption)) hn0 HM.out.1 hmt0 ht2 (ry0 _ (by assumption))).mono ?_); rintro e w' ⟨rfl, hd⟩) | (go_at_call 81; (with_reducible refine (varg_1 args m1 ts.length ts.length a1 _ _ _ _ _ (r5 _ (by assumption)) (r3 _ (by assumption)) (rA _ (by assumption)) hn1 HM.out.2.1 hmt1 ht2 (ry1 _ (by assumption))).mono ?_); rintro e w' ⟨rfl, hd⟩))
          clear wI0 wI1 wI2
          go_wp2_with fail
          go_roundw
          case rel => exact ⟨j + 1, by omega, by go_num, by rw [← HS.out, HVN.out]; exact HKO.out.keepset (by assumption) (by rw [HL.out]; exact hlt), r5 _ (by assumption), (show Keep w W0 w.heap.size j _ by assumption).2⟩
          case measure => simp [intOf]; omega
      by_cases o16 : 16 ≤ op
      · have hlen : args.length = 1 := by have := HN.out.len; have := HN.out.ar; simp only at *; rcases arV_cases op with h | h | h | h | h <;> omega
        have HR := Lib.hid HN.out.rng
        simp only at HR
        have hn0 : 0 < args.length := by omega
        have HN2 := Lib.hid hlen
        clear hlen
        have hr0 := HR.out 0 hn0
        obtain ⟨m0, hm0⟩ := Int.eq_ofNat_of_zero_le hr0.1
        have hj0 : m0 < j := by omega
        have hmt0 : m0 < ts.length := by omega
        have y0 := HO.out.cell (i := m0) (by rw [HL.out]; omega)
        rw [HG.out m0 hj0] at y0
        have b0 := HW.out m0 hj0
        have p0 := @pw_le32 (ts.getD m0 default).width (nodeOk HZ.out hmt0).wid.2
        have u0 : 0 ≤ acc.getD m0 0 := b0.1
        have v0 : acc.getD m0 0 ≤ 4294967295 := by omega
        have HVN : Hid (vNode ts env acc ⟨op, width, flags, args, imm⟩ = exX op (wdt ts args 0) width (acc.getD m0 0)) := by
          show _ = _
          simp only [vNode, vArg]
          rw [if_neg (by omega), if_neg (by omega), if_neg (by omega), if_neg (by omega), if_pos o16, hm0]; rfl
        generalize acc.getD m0 0 = a0 at *
        have HM := Lib.hid (And.intro hm0 True.intro)
        clear hr0 b0 p0 hm0
        have z0 : (op == 0) = false := by simpa using o0
        have z33 : (op == 33) = false := by simpa using o33
        have z14 : (op == 14) = false := by simpa using o14
        have z15 : (op == 15) = false := by simpa using o15
        have z16 : decide (16 ≤ op) = true := by simpa using o16
        clear o0 o33 o14 o15 o16
        go_wp2_with fail
        have hal : Below wr.heap.size wr (wr.alloc (.cells #[.int .i64 op, .int .i64 width, .int .i64 flags, .slice aa args.length ac, .int .u32 imm] 47)) := (Below.refl _ _).alloc (Nat.le_refl _) _
        have k5 := below_cell hal hbos hbox
        have ky0 := below_cell hal hBs y0
        have k8 : (wr.alloc (.cells #[.int .i64 op, .int .i64 width, .int .i64 flags, .slice aa args.length ac, .int .u32 imm] 47)).frozen? ⟨w.heap.size, j, none⟩ = false := by rw [← hfree]; exact hal.frozen (p := ⟨w.heap.size, j, none⟩) hBs
        have k9 : (wr.alloc (.cells #[.int .i64 op, .int .i64 width, .int .i64 flags, .slice aa args.length ac, .int .u32 imm] 47)).heap.size = wr.heap.size + 1 := by simp
        have x0 : (wr.alloc (.cells #[.int .i64 op, .int .i64 width, .int .i64 flags, .slice aa args.length ac, .int .u32 imm] 47)).cell? ⟨wr.heap.size, 0, none⟩ = some (.int .i64 op) := by simp [go_sem]
        have x1 : (wr.alloc (.cells #[.int .i64 op, .int .i64 width, .int .i64 flags, .slice aa args.length ac, .int .u32 imm] 47)).cell? ⟨wr.heap.size, 1, none⟩ = some (.int .i64 width) := by simp [go_sem]
        have x3 : (wr.alloc (.cells #[.int .i64 op, .int .i64 width, .int .i64 flags, .slice aa args.length ac, .int .u32 imm] 47)).cell? ⟨wr.heap.size, 3, none⟩ = some (.slice aa args.length ac) := by simp [go_sem]
        have x4 : (wr.alloc (.cells #[.int .i64 op, .int .i64 width, .int .i64 flags, .slice aa args.length ac, .int .u32 imm] 47)).cell? ⟨wr.heap.size, 4, none⟩ = some (.int .u32 imm) := by simp [go_sem]
        have kO := HO.out.alloc (.cells #[.int .i64 op, .int .i64 width, .int .i64 flags, .slice aa args.length ac, .int .u32 imm] 47)
        generalize wr.alloc (.cells #[.int .i64 op, .int .i64 width, .int .i64 flags, .slice aa args.length ac, .int .u32 imm] 47) = W0 at *
        have HKO := Lib.hid kO
        have r5 : ∀ wk, Keep w W0 w.heap.size j wk → wk.cell? ⟨w2.heap.size, 0, none⟩ = some (.slice (some ⟨w.heap.size, 0, none⟩) ts.length ts.length) := fun wk h => h.cell k5 (by omega)
        have ry0 : ∀ wk, Keep w W0 w.heap.size j wk → wk.cell? ⟨w.heap.size, m0, none⟩ = some (.int .u32 a0) := fun wk h => h.cell ky0 (by omega)
        have r8 : ∀ wk, Keep w W0 w.heap.size j wk → wk.frozen? ⟨w.heap.size, j, none⟩ = false := fun wk h => h.free (by omega) k8
        have r0 : ∀ wk, Keep w W0 w.heap.size j wk → wk.cell? ⟨wr.heap.size, 0, none⟩ = some (.int .i64 op) := fun wk h => h.cell x0 (by omega)
        have r1 : ∀ wk, Keep w W0 w.heap.size j wk → wk.cell? ⟨wr.heap.size, 1, none⟩ = some (.int .i64 width) := fun wk h => h.cell x1 (by omega)
        have r3 : ∀ wk, Keep w W0 w.heap.size j wk → wk.cell? ⟨wr.heap.size, 3, none⟩ = some (.slice aa args.length ac) := fun wk h => h.cell x3 (by omega)
        have r4 : ∀ wk, Keep w W0 w.heap.size j wk → wk.cell? ⟨wr.heap.size, 4, none⟩ = some (.int .u32 imm) := fun wk h => h.cell x4 (by omega)
        have rj : ∀ wk, Keep w W0 w.heap.size j wk → wk.cell? ⟨w.heap.size, j, none⟩ = some (cellNow w.heap.size j wk) := fun wk h => h.now
        have rA : ∀ wk, Keep w W0 w.heap.size j wk → Ints .i64 wk (.slice aa args.length ac) args := fun wk h => HAVW.out.stays h.2
        obtain ⟨nb, nq, nc, nav, ne, _, hnb, _, _, _, _⟩ := HT.out.at2 (Below.refl _ _) hmt0
        cases ne
        have rN : ∀ wk, Keep w W0 w.heap.size j wk → wk.cell? ⟨b, q + m0 * 5 + 1, none⟩ = some (.int .i64 (wdt ts args 0)) := fun wk h => by
          obtain ⟨nb', nq', nc', nav', ne', _, _, _, _, hn1, _⟩ := HT.out.at2 h.2 hmt0
          cases ne'
          rw [hn1]
          unfold wdt
          rw [HM.out.1, Int.toNat_natCast]
        obtain ⟨ab, ao, ae, _, _⟩ := HAVW.out.row hn0
        cases ae
        have rM : ∀ wk, Keep w W0 w.heap.size j wk → wk.cell? ⟨ab, ao, none⟩ = some (.int .i64 m0) := fun wk h => by
          obtain ⟨ab', ao', ae', _, hc⟩ := (HAVW.out.stays h.2).row hn0
          cases ae'
          have := hc 0 hn0
          rw [HM.out.1, Nat.add_zero] at this
          exact this
        clear k5 k8 x0 x1 x3 x4 kO hal hbox c0 c1 c2 c3 c4 hcellj hfree ky0 y0
        have hjl : (j : Int) < ts.length := by omega
        go_region_held3 (fun wk => Keep w W0 w.heap.size j wk) (first | assumption | exact Keep.drew (by assumption) | exact Keep.dr (by assumption) (by assumption) | exact Keep.below (by assumption) (by assumption) | exact Keep.store (by assumption) (Nat.le_refl _) _) (first | (go_at_call 81; (with_reducible refine (varg_0 args m0 ts.length ts.length a0 _ _ _ _ _ (r5 _ (by assumption)) (r3 _ (by assumption)) (rA _ (by assumption)) hn0 HM.out.1 hmt0 ht2 (ry0 _ (by assumption))).mono ?_); rintro e w' ⟨rfl, hd⟩) | (go_at_call 83; (with_reducible refine (pExtend op (wdt ts args 0) width a0 u0 v0 _).mono ?_); rintro e w' ⟨rfl, hb⟩))
        go_wp2_with fail
        go_roundw
        case rel => exact ⟨j + 1, by omega, by go_num, by rw [← HS.out, HVN.out]; exact HKO.out.keepset (by assumption) (by rw [HL.out]; exact hlt), r5 _ (by assumption), (show Keep w W0 w.heap.size j _ by assumption).2⟩
        case measure => simp [intOf]; omega
      have hlen : args.length = 2 := by have := HN.out.len; have := HN.out.ar; simp only at *; rcases arV_cases op with h | h | h | h | h <;> omega
      have HR := Lib.hid HN.out.rng
      simp only at HR
      have hn0 : 0 < args.length := by omega
      have hn1 : 1 < args.length := by omega
      have HN2 := Lib.hid hlen
      clear hlen
      have hr0 := HR.out 0 hn0
      obtain ⟨m0, hm0⟩ := Int.eq_ofNat_of_zero_le hr0.1
      have hj0 : m0 < j := by omega
      have hmt0 : m0 < ts.length := by omega
      have y0 := HO.out.cell (i := m0) (by rw [HL.out]; omega)
      rw [HG.out m0 hj0] at y0
      have b0 := HW.out m0 hj0
      have p0 := @pw_le32 (ts.getD m0 default).width (nodeOk HZ.out hmt0).wid.2
      have u0 : 0 ≤ acc.getD m0 0 := b0.1
      have v0 : acc.getD m0 0 ≤ 4294967295 := by omega
      have hr1 := HR.out 1 hn1
      obtain ⟨m1, hm1⟩ := Int.eq_ofNat_of_zero_le hr1.1
      have hj1 : m1 < j := by omega
      have hmt1 : m1 < ts.length := by omega
      have y1 := HO.out.cell (i := m1) (by rw [HL.out]; omega)
      rw [HG.out m1 hj1] at y1
      have b1 := HW.out m1 hj1
      have p1 := @pw_le32 (ts.getD m1 default).width (nodeOk HZ.out hmt1).wid.2
      have u1 : 0 ≤ acc.getD m1 0 := b1.1
      have v1 : acc.getD m1 0 ≤ 4294967295 := by omega
      have HVN : Hid (vNode ts env acc ⟨op, width, flags, args, imm⟩ = toX op width (acc.getD m0 0) (acc.getD m1 0)) := by
        show _ = _
        simp only [vNode, vArg]
        rw [if_neg (by omega), if_neg (by omega), if_neg (by omega), if_neg (by omega), if_neg (by omega), hm0, hm1]; rfl
      generalize acc.getD m0 0 = a0 at *
      generalize acc.getD m1 0 = a1 at *
      have HM := Lib.hid (And.intro hm0 hm1)
      clear hr0 b0 p0 hm0 hr1 b1 p1 hm1
      have z0 : (op == 0) = false := by simpa using o0
      have z33 : (op == 33) = false := by simpa using o33
      have z14 : (op == 14) = false := by simpa using o14
      have z15 : (op == 15) = false := by simpa using o15
      have z16 : decide (16 ≤ op) = false := by simpa using o16
      clear o0 o33 o14 o15 o16
      go_wp2_with fail
      have hal : Below wr.heap.size wr (wr.alloc (.cells #[.int .i64 op, .int .i64 width, .int .i64 flags, .slice aa args.length ac, .int .u32 imm] 47)) := (Below.refl _ _).alloc (Nat.le_refl _) _
      have k5 := below_cell hal hbos hbox
      have ky0 := below_cell hal hBs y0
      have ky1 := below_cell hal hBs y1
      have k8 : (wr.alloc (.cells #[.int .i64 op, .int .i64 width, .int .i64 flags, .slice aa args.length ac, .int .u32 imm] 47)).frozen? ⟨w.heap.size, j, none⟩ = false := by rw [← hfree]; exact hal.frozen (p := ⟨w.heap.size, j, none⟩) hBs
      have k9 : (wr.alloc (.cells #[.int .i64 op, .int .i64 width, .int .i64 flags, .slice aa args.length ac, .int .u32 imm] 47)).heap.size = wr.heap.size + 1 := by simp
      have x0 : (wr.alloc (.cells #[.int .i64 op, .int .i64 width, .int .i64 flags, .slice aa args.length ac, .int .u32 imm] 47)).cell? ⟨wr.heap.size, 0, none⟩ = some (.int .i64 op) := by simp [go_sem]
      have x1 : (wr.alloc (.cells #[.int .i64 op, .int .i64 width, .int .i64 flags, .slice aa args.length ac, .int .u32 imm] 47)).cell? ⟨wr.heap.size, 1, none⟩ = some (.int .i64 width) := by simp [go_sem]
      have x3 : (wr.alloc (.cells #[.int .i64 op, .int .i64 width, .int .i64 flags, .slice aa args.length ac, .int .u32 imm] 47)).cell? ⟨wr.heap.size, 3, none⟩ = some (.slice aa args.length ac) := by simp [go_sem]
      have x4 : (wr.alloc (.cells #[.int .i64 op, .int .i64 width, .int .i64 flags, .slice aa args.length ac, .int .u32 imm] 47)).cell? ⟨wr.heap.size, 4, none⟩ = some (.int .u32 imm) := by simp [go_sem]
      have kO := HO.out.alloc (.cells #[.int .i64 op, .int .i64 width, .int .i64 flags, .slice aa args.length ac, .int .u32 imm] 47)
      generalize wr.alloc (.cells #[.int .i64 op, .int .i64 width, .int .i64 flags, .slice aa args.length ac, .int .u32 imm] 47) = W0 at *
      have HKO := Lib.hid kO
      have r5 : ∀ wk, Keep w W0 w.heap.size j wk → wk.cell? ⟨w2.heap.size, 0, none⟩ = some (.slice (some ⟨w.heap.size, 0, none⟩) ts.length ts.length) := fun wk h => h.cell k5 (by omega)
      have ry0 : ∀ wk, Keep w W0 w.heap.size j wk → wk.cell? ⟨w.heap.size, m0, none⟩ = some (.int .u32 a0) := fun wk h => h.cell ky0 (by omega)
      have ry1 : ∀ wk, Keep w W0 w.heap.size j wk → wk.cell? ⟨w.heap.size, m1, none⟩ = some (.int .u32 a1) := fun wk h => h.cell ky1 (by omega)
      have r8 : ∀ wk, Keep w W0 w.heap.size j wk → wk.frozen? ⟨w.heap.size, j, none⟩ = false := fun wk h => h.free (by omega) k8
      have r0 : ∀ wk, Keep w W0 w.heap.size j wk → wk.cell? ⟨wr.heap.size, 0, none⟩ = some (.int .i64 op) := fun wk h => h.cell x0 (by omega)
      have r1 : ∀ wk, Keep w W0 w.heap.size j wk → wk.cell? ⟨wr.heap.size, 1, none⟩ = some (.int .i64 width) := fun wk h => h.cell x1 (by omega)
      have r3 : ∀ wk, Keep w W0 w.heap.size j wk → wk.cell? ⟨wr.heap.size, 3, none⟩ = some (.slice aa args.length ac) := fun wk h => h.cell x3 (by omega)
      have r4 : ∀ wk, Keep w W0 w.heap.size j wk → wk.cell? ⟨wr.heap.size, 4, none⟩ = some (.int .u32 imm) := fun wk h => h.cell x4 (by omega)
      have rj : ∀ wk, Keep w W0 w.heap.size j wk → wk.cell? ⟨w.heap.size, j, none⟩ = some (cellNow w.heap.size j wk) := fun wk h => h.now
      have rA : ∀ wk, Keep w W0 w.heap.size j wk → Ints .i64 wk (.slice aa args.length ac) args := fun wk h => HAVW.out.stays h.2
      clear k5 k8 x0 x1 x3 x4 kO hal hbox c0 c1 c2 c3 c4 hcellj hfree ky0 y0 ky1 y1
      have hjl : (j : Int) < ts.length := by omega
      go_region_held3 (fun wk => Keep w W0 w.heap.size j wk) (first | assumption | exact Keep.drew (by assumption) | exact Keep.dr (by assumption) (by assumption) | exact Keep.below (by assumption) (by assumption) | exact Keep.store (by assumption) (Nat.le_refl _) _) (first | (go_at_call 81; (with_reducible refine (varg_0 args m0 ts.length ts.length a0 _ _ _ _ _ (r5 _ (by assumption)) (r3 _ (by assumption)) (rA _ (by assumption)) hn0 HM.out.1 hmt0 ht2 (ry0 _ (by assumption))).mono ?_); rintro e w' ⟨rfl, hd⟩) | (go_at_call 81; (with_reducible refine (varg_1 args m1 ts.length ts.length a1 _ _ _ _ _ (r5 _ (by assumption)) (r3 _ (by assumption)) (rA _ (by assumption)) hn1 HM.out.2 hmt1 ht2 (ry1 _ (by assumption))).mono ?_); rintro e w' ⟨rfl, hd⟩) | (go_at_call 84; (with_reducible refine (pTotal op width a0 a1 _ u0 v0 u1 v1).mono ?_); rintro e w' ⟨rfl, hb⟩))
      go_wp2_with fail
      go_roundw
      case rel => exact ⟨j + 1, by omega, by go_num, by rw [← HS.out, HVN.out]; exact HKO.out.keepset (by assumption) (by rw [HL.out]; exact hlt), r5 _ (by assumption), (show Keep w W0 w.heap.size j _ by assumption).2⟩
      case measure => simp [intOf]; omega
    · obtain rfl : j = ts.length := by omega
      have hvl : vL ts env ts.length = vals ts env := by unfold vL vals; rw [List.take_length, Nat.sub_self]; simp
      rw [hvl] at ho
      have hvn : (vals ts env).length = ts.length := valsF_len ts env ts
      have HO2 := Lib.hid (And.intro ho hvn)
      clear ho hvl hvn hb
      go_wp2_with fail
      go_ret
      refine ⟨_, rfl, ?_, HB.out⟩
      have h := HO2.out.1.ints (by rw [HO2.out.2]; omega)
      rw [HO2.out.2] at h
      exact h

end Go.Proofs.Ythopdfikikdcbaa
/- Walks of package backstayref07: nodes compared, lists of nodes compared. -/
namespace Go.Proofs.Ythopdfikikdcbaa
open Go.RowKit Go.Maps Wd
set_option linter.unusedVariables false
set_option linter.unusedSimpArgs false
theorem nd_eq {x y : Nd} (h1 : x.op = y.op) (h2 : x.width = y.width) (h3 : x.flags = y.flags) (h4 : x.imm = y.imm) (h5 : x.args = y.args) : x = y := by
  obtain ⟨a, b, c, d, e⟩ := x; obtain ⟨a', b', c', d', e'⟩ := y
  simp only at h1 h2 h3 h4 h5
  subst h1 h2 h3 h4 h5; rfl
set_option maxRecDepth 100000 in
set_option maxHeartbeats 1000000 in
theorem rSameNode (x y : Nd) (xv yv : Value) (w : World) (hx : Ints .i64 w xv x.args) (hy : Ints .i64 w yv y.args) :
    Calls Try.prog 55 #[ndA x xv, ndA y yv] w fun e w' => e = .returned (.bool (decide (x = y))) ∧ Below w.heap.size w w' := by
  obtain ⟨a, b, c, d, i⟩ := x
  obtain ⟨a', b', c', d', i'⟩ := y
  simp only [ndA] at hx hy ⊢
  have HX := Lib.hid hx
  have HY := Lib.hid hy
  have hs := fun W (hb : Below w.heap.size w W) => sameInts_any d d' xv yv W (hx.stays hb) (hy.stays hb)
  have HS := Lib.hid hs
  clear hs hx hy
  have HB : Hid (Below w.heap.size w ((w.alloc (.cells #[.int .i64 a, .int .i64 b, .int .i64 c, xv, .int .u32 i] 47)).alloc (.cells #[.int .i64 a', .int .i64 b', .int .i64 c', yv, .int .u32 i'] 47))) := ((Below.refl _ _).alloc (Nat.le_refl _) _).alloc (by simp) _
  cases h1 : (a == a')
  · have HE : Hid (decide ((⟨a, b, c, d, i⟩ : Nd) = ⟨a', b', c', d', i'⟩) = false) := by
      show _ = _
      rw [decide_eq_false_iff_not]; intro e; cases e; simp at h1
    go_enter Try.func55, Try.ntmps55
    go_wp2_with fail
    go_ret
    exact ⟨ret_b HE.out.symm, HB.out⟩
  cases h2 : (b == b')
  · have HE : Hid (decide ((⟨a, b, c, d, i⟩ : Nd) = ⟨a', b', c', d', i'⟩) = false) := by
      show _ = _
      rw [decide_eq_false_iff_not]; intro e; cases e; simp at h2
    go_enter Try.func55, Try.ntmps55
    go_wp2_with fail
    go_ret
    exact ⟨ret_b HE.out.symm, HB.out⟩
  cases h3 : (c == c')
  · have HE : Hid (decide ((⟨a, b, c, d, i⟩ : Nd) = ⟨a', b', c', d', i'⟩) = false) := by
      show _ = _
      rw [decide_eq_false_iff_not]; intro e; cases e; simp at h3
    go_enter Try.func55, Try.ntmps55
    go_wp2_with fail
    go_ret
    exact ⟨ret_b HE.out.symm, HB.out⟩
  cases h4 : (i == i')
  · have HE : Hid (decide ((⟨a, b, c, d, i⟩ : Nd) = ⟨a', b', c', d', i'⟩) = false) := by
      show _ = _
      rw [decide_eq_false_iff_not]; intro e; cases e; simp at h4
    go_enter Try.func55, Try.ntmps55
    go_wp2_with fail
    go_ret
    exact ⟨ret_b HE.out.symm, HB.out⟩
  have HE : Hid (decide ((⟨a, b, c, d, i⟩ : Nd) = ⟨a', b', c', d', i'⟩) = decide (d = d')) := by
    show _ = _
    simp at h1 h2 h3 h4
    subst h1 h2 h3 h4
    rw [Bool.eq_iff_iff, decide_eq_true_iff, decide_eq_true_iff]
    exact ⟨fun e => by cases e; rfl, fun e => by rw [e]⟩
  have HS2 := Lib.hid (HS.out _ HB.out)
  generalize decide (d = d') = z at *
  go_enter Try.func55, Try.ntmps55
  go_wp2_with fail
  refine HS2.out.mono ?_
  rintro e w' ⟨rfl, hd⟩
  have HD := Lib.hid hd
  clear hd
  cases z
  all_goals
    go_wp2_with fail
    go_ret
    exact ⟨ret_b HE.out.symm, HB.out.trans (HD.out.below _)⟩

set_option maxRecDepth 100000 in
set_option maxHeartbeats 1000000 in
theorem rSameNodes (ts us : List Nd) (tv uv : Value) (w : World) (ht : Nds w tv ts) (hu : Nds w uv us) :
    Calls Try.prog 30 #[tv, uv] w fun e w' => e = .returned (.bool (decide (ts = us))) ∧ Below w.heap.size w w' := by
  have HT := Lib.hid ht
  have HU := Lib.hid hu
  obtain ⟨ta, tc, rfl, ht1, ht2⟩ := ht.shape
  obtain ⟨ua, uc, rfl, hu1, hu2⟩ := hu.shape
  clear ht hu
  cases hl : ((ts.length : Int) != us.length)
  · have hll : ts.length = us.length := by have h9 : (ts.length : Int) = us.length := by simpa using hl
                                           omega
    have HLL := Lib.hid hll
    clear hll
    go_enter Try.func30, Try.ntmps30
    go_wp2_with fail
    go_loopw [5] (fun i wr => ∃ j : Nat, j ≤ ts.length ∧ i = .int .i64 j ∧ Hid (∀ k, k < j → ts.getD k default = us.getD k default) ∧ Below w.heap.size w wr) (fun i _ => ts.length - (intOf i).toNat)
    case atStart => exact ⟨0, Nat.zero_le _, rfl, fun k hk => absurd hk (by omega), Below.refl _ _⟩
    case round =>
      obtain ⟨j, hj, rfl, heq, hb⟩ := hrel
      have HB := Lib.hid hb
      clear hb
      by_cases hlt : j < ts.length
      · have hltu : j < us.length := by have := HLL.out; omega
        obtain ⟨b, q, c', av, e', _, hbq, hav, c0, c1, c2, c3, c4⟩ := HT.out.at2 (Below.refl _ _) hlt
        cases e'
        obtain ⟨b', q', c'', av', e', _, hbq', hav', d0, d1, d2, d3, d4⟩ := HU.out.at2 (Below.refl _ _) hltu
        cases e'
        have HAV := Lib.hid hav
        have HAV' := Lib.hid hav'
        have hs0 : (0 : Int) ≤ (j : Int) := by omega
        have hs1 : (j : Int) < ts.length := by omega
        have hs2 : (j : Int) < us.length := by omega
        have HX : Hid (∀ (P : Nd → Prop), P (ts.getD j default) → P (ts.getD j default)) := fun _ h => h
        generalize hx : ts.getD j default = x at *
        generalize hy : us.getD j default = y at *
        have HXX := Lib.hid hx
        have HYY := Lib.hid hy
        clear hx hy HX hav hav'
        obtain ⟨op, width, flags, args, imm⟩ := x
        obtain ⟨op', width', flags', args', imm'⟩ := y
        simp only at c0 c1 c2 c3 c4 d0 d1 d2 d3 d4
        have hbw := HB.out.size
        have h00 := Since.refl wr
        have r0 : ∀ wk, Since wr wk → wk.cell? ⟨b, q + j * 5, none⟩ = some (.int .i64 op) := fun wk h => h.cell (below_cell HB.out hbq c0)
        have r1 : ∀ wk, Since wr wk → wk.cell? ⟨b, q + j * 5 + 1, none⟩ = some (.int .i64 width) := fun wk h => h.cell (below_cell HB.out hbq c1)
        have r2 : ∀ wk, Since wr wk → wk.cell? ⟨b, q + j * 5 + 2, none⟩ = some (.int .i64 flags) := fun wk h => h.cell (below_cell HB.out hbq c2)
        have r3 : ∀ wk, Since wr wk → wk.cell? ⟨b, q + j * 5 + 3, none⟩ = some av := fun wk h => h.cell (below_cell HB.out hbq c3)
        have r4 : ∀ wk, Since wr wk → wk.cell? ⟨b, q + j * 5 + 4, none⟩ = some (.int .u32 imm) := fun wk h => h.cell (below_cell HB.out hbq c4)
        have s0 : ∀ wk, Since wr wk → wk.cell? ⟨b', q' + j * 5, none⟩ = some (.int .i64 op') := fun wk h => h.cell (below_cell HB.out hbq' d0)
        have s1 : ∀ wk, Since wr wk → wk.cell? ⟨b', q' + j * 5 + 1, none⟩ = some (.int .i64 width') := fun wk h => h.cell (below_cell HB.out hbq' d1)
        have s2 : ∀ wk, Since wr wk → wk.cell? ⟨b', q' + j * 5 + 2, none⟩ = some (.int .i64 flags') := fun wk h => h.cell (below_cell HB.out hbq' d2)
        have s3 : ∀ wk, Since wr wk → wk.cell? ⟨b', q' + j * 5 + 3, none⟩ = some av' := fun wk h => h.cell (below_cell HB.out hbq' d3)
        have s4 : ∀ wk, Since wr wk → wk.cell? ⟨b', q' + j * 5 + 4, none⟩ = some (.int .u32 imm') := fun wk h => h.cell (below_cell HB.out hbq' d4)
        clear c0 c1 c2 c3 c4 d0 d1 d2 d3 d4
        have HC : Hid (∀ wk, Since wr wk → Calls Try.prog 55 #[.agg #[.int .i64 op, .int .i64 width, .int .i64 flags, av, .int .u32 imm], .agg #[.int .i64 op', .int .i64 width', .int .i64 flags', av', .int .u32 imm']] wk fun e w' => e = .returned (.bool (decide ((⟨op, width, flags, args, imm⟩ : Nd) = ⟨op', width', flags', args', imm'⟩))) ∧ Below wk.heap.size wk w') :=
          fun wk h => rSameNode ⟨op, width, flags, args, imm⟩ ⟨op', width', flags', args', imm'⟩ av av' wk (HAV.out.stays (below_hop HB.out h)) (HAV'.out.stays (below_hop HB.out h))
        generalize hz : decide ((⟨op, width, flags, args, imm⟩ : Nd) = ⟨op', width', flags', args', imm'⟩) = z at *
        have HZ := Lib.hid hz
        clear hz
        go_wp2_with fail
        go_region_held3 (fun wk => Since wr wk) (first | assumption | exact Since.drew (by assumption) | exact Since.next (by assumption) (by assumption)) (first | (go_at_call 55; (with_reducible refine (HC.out _ (by assumption)).mono ?_); rintro e w' ⟨rfl, hb⟩))
        clear r0 r1 r2 r3 r4 s0 s1 s2 s3 s4 h00
        cases z
        · go_wp2_with fail
          go_ret
          refine ⟨ret_b (Eq.symm ?_), below_hop HB.out (show Since wr _ by assumption)⟩
          rw [decide_eq_false_iff_not]
          intro e
          have hz := HZ.out
          rw [← HXX.out, ← HYY.out, e] at hz
          simp at hz
        · have hxy : ts.getD j default = us.getD j default := by
            rw [HXX.out, HYY.out]; exact of_decide_eq_true HZ.out
          have HXY := Lib.hid hxy
          clear hxy
          go_wp2_with fail
          go_roundw
          case rel => exact ⟨j + 1, by omega, by go_num, fun k hk => by
            by_cases e : k = j
            · subst e; exact HXY.out
            · exact heq.out k (by omega), below_hop HB.out (show Since wr _ by assumption)⟩
          case measure => simp [intOf]; omega
      · obtain rfl : j = ts.length := by omega
        go_wp2_with fail
        go_ret
        refine ⟨ret_b (Eq.symm ?_), HB.out⟩
        rw [decide_eq_true_iff]
        apply List.ext_getElem HLL.out
        intro i h1 h2
        have := heq.out i h1
        rw [List.getD_eq_getElem?_getD, List.getD_eq_getElem?_getD, List.getElem?_eq_getElem h1, List.getElem?_eq_getElem h2] at this
        exact this
  · have HF : Hid (decide (ts = us) = false) := by
      show _ = _
      rw [decide_eq_false_iff_not]; intro e; subst e; simp at hl
    go_enter Try.func30, Try.ntmps30
    go_wp2_with fail
    go_ret
    exact ⟨ret_b HF.out.symm, Below.refl _ _⟩
end Go.Proofs.Ythopdfikikdcbaa
/- Walk of CopyNodes. -/
namespace Go.Proofs.Ythopdfikikdcbaa
open Go.RowKit Go.Maps Wd
set_option linter.unusedVariables false
set_option linter.unusedSimpArgs false
/-- The cells of a slice of integers, as an append asks for them. -/
theorem Ints.news {w : World} {ad : Addr} {n c : Nat} {xs : List Int} (h : Ints .i64 w (.slice (some ad) n c) xs) : ∀ (j : Nat) (u : Value), (xs.map (Value.int .i64))[j]? = some u → w.cell? (ad.add j) = some u := by
  intro j u hu
  rw [List.getElem?_map] at hu
  cases e : xs[j]? with
  | none => rw [e] at hu; cases hu
  | some y =>
    rw [e] at hu
    cases hu
    have hj : j < xs.length := by
      rcases Nat.lt_or_ge j xs.length with h | h
      · exact h
      · rw [List.getElem?_eq_none h] at e; cases e
    obtain ⟨a, c', e', _, _, _, h4⟩ := h
    cases e'
    obtain ⟨b', o', e', h5, h6⟩ := h4 j hj
    cases e'
    rw [Nat.mul_one, List.getD_eq_getElem?_getD, e] at h6
    by_cases hj0 : j = 0
    · subst hj0; exact h6
    · simpa [Addr.add, hj0] using h6
theorem take_succ_nd (ts : List Nd) (j : Nat) (h : j < ts.length) : ts.take (j + 1) = ts.take j ++ [ts.getD j default] := by
  rw [List.take_succ_eq_append_getElem h, List.getD_eq_getElem?_getD, List.getElem?_eq_getElem h]; rfl
theorem IntsF.below {w w' : World} {v : Value} {xs : List Int} (h : IntsF w v xs) (hb : Below w.heap.size w w') : IntsF w' v xs := by
  refine ⟨h.ints.stays hb, fun b q n c e i hi => ?_⟩
  rw [← h.free b q n c e i hi]
  subst e
  obtain ⟨a, c', e', _, _, _, h4⟩ := h.ints
  cases e'
  obtain ⟨b', o', e', h5, h6⟩ := h4 i hi
  cases e'
  exact hb.frozen (p := ⟨b, q + i, none⟩) h5
set_option maxRecDepth 100000 in
set_option maxHeartbeats 2000000 in
theorem rCopy (ts : List Nd) (tv : Value) (w : World) (ht : Nds w tv ts) (hl : ts.length ≤ 1000) (hn : ∀ x ∈ ts, x.args.length ≤ 1000) :
    Calls Try.prog 25 #[tv] w fun e w' => ∃ v R avs, e = .returned v ∧ OSt w.heap.size ts R w' v avs ∧ Below w.heap.size w w' ∧ Apart avs := by
  have HT := Lib.hid ht
  have HN := Lib.hid hn
  obtain ⟨ta, tc, rfl, ht1, ht2⟩ := ht.shape
  clear ht hn
  obtain ⟨i0, hi0, hz0, hz1, hz2⟩ := info_parts info_int
  obtain ⟨n0, hn0, hy0, hy1, hy2⟩ := info_parts info_node
  go_enter Try.func25, Try.ntmps25
  go_wp2_with fail
  go_loopw [3, 4] (fun v0 i wr => ∃ (j : Nat) (v : Value) (R : Nat → Prop) (avs : List Value), v = v0 ∧ j ≤ ts.length ∧ i = .int .i64 j ∧ OSt w.heap.size (ts.take j) R wr v avs ∧ Apart avs ∧ Below w.heap.size w wr) (fun _ i _ => ts.length - (intOf i).toNat)
  case atStart => exact ⟨0, _, _, _, rfl, Nat.zero_le _, rfl, OSt.nil _ _, Apart.nil, Below.refl _ _⟩
  case round =>
    obtain ⟨j, v, R, avs, rfl, hj, rfl, ho, hap, hb⟩ := hrel
    have HAP := Lib.hid hap
    clear hap
    have HO := Lib.hid ho
    have HB := Lib.hid hb
    have hbs := hb.size
    clear ho hb
    by_cases hlt : j < ts.length
    · have HTK := Lib.hid (take_succ_nd ts j hlt)
      obtain ⟨b, q, c', av, e', _, hbq, hav, c0, c1, c2, c3, c4⟩ := HT.out.at2 HB.out hlt
      cases e'
      have HNJ := Lib.hid (HN.out _ (mem_getD hlt))
      generalize ts.getD j default = x at *
      obtain ⟨op, width, flags, args, imm⟩ := x
      simp only at hav c0 c1 c2 c3 c4
      have hn20 : args.length ≤ 1000 := HNJ.out
      have HAV := Lib.hid (hav.stays HB.out)
      obtain ⟨aa, ac, rfl, ha1, ha2⟩ := hav.shape
      have hnone : aa = none → args = [] ∧ ac = 0 := fun e => by
        obtain ⟨a', c'', e', h1, _, h3, _⟩ := hav
        cases e'
        have := h3 e
        exact ⟨List.length_eq_zero_iff.1 (by omega), this⟩
      have HNONE := Lib.hid hnone
      clear hav hnone
      have hl0 := HO.out.row.1
      have hlj : (ts.take j).length = j := by rw [List.length_take, Nat.min_eq_left hj]
      have HLJ := Lib.hid hlj
      clear hlj hl0
      obtain ⟨na, nc, hna⟩ := own_shape HO.out.row
      rw [HLJ.out] at hna
      subst hna
      by_cases hsn : aa = none
      · obtain ⟨ha0, hc0⟩ := HNONE.out hsn
        subst hsn ha0 hc0
        have HEM : Hid (((wr.alloc (.cells #[.int .i64 op, .int .i64 width, .int .i64 flags, .slice none 0 0, .int .u32 imm] 47)).alloc (.cells #[] 3)).ownsRow (wr.heap.size + 1) 3 1 (.slice (some ⟨wr.heap.size + 1, 0, none⟩) 0 0) 0 []) := by
          have := ownsRow_empty (wr.alloc (.cells #[.int .i64 op, .int .i64 width, .int .i64 flags, .slice none 0 0, .int .u32 imm] 47)) (wr.heap.size + 1) (by simp) 3
          rw [show (wr.alloc (.cells #[.int .i64 op, .int .i64 width, .int .i64 flags, .slice none 0 0, .int .u32 imm] 47)).heap.size = wr.heap.size + 1 by simp] at this
          exact this
        have HROW : Hid (((wr.alloc (.cells #[.int .i64 op, .int .i64 width, .int .i64 flags, .slice (some ⟨wr.heap.size + 1, 0, none⟩) 0 0, .int .u32 imm] 47)).alloc (.cells #[] 3)).ownsRow w.heap.size 47 5 (.slice na j nc) j (rowsC (ts.take j) avs)) := by
          have h9 := (HO.out.below (show Below wr.heap.size wr ((wr.alloc (.cells #[.int .i64 op, .int .i64 width, .int .i64 flags, .slice (some ⟨wr.heap.size + 1, 0, none⟩) 0 0, .int .u32 imm] 47)).alloc (.cells #[] 3)) from ((Below.refl _ _).alloc (Nat.le_refl _) _).alloc (by simp) _)).row
          rw [HLJ.out] at h9
          exact h9
        have HEN : Hid (((wr.alloc (.cells #[.int .i64 op, .int .i64 width, .int .i64 flags, .slice (some ⟨wr.heap.size + 1, 0, none⟩) 0 0, .int .u32 imm] 47)).alloc (.cells #[] 3)).ownsRow (wr.heap.size + 1) 3 1 (.slice (some ⟨wr.heap.size + 1, 0, none⟩) 0 0) 0 []) := by
          have := ownsRow_empty (wr.alloc (.cells #[.int .i64 op, .int .i64 width, .int .i64 flags, .slice (some ⟨wr.heap.size + 1, 0, none⟩) 0 0, .int .u32 imm] 47)) (wr.heap.size + 1) (by simp) 3
          rw [show (wr.alloc (.cells #[.int .i64 op, .int .i64 width, .int .i64 flags, .slice (some ⟨wr.heap.size + 1, 0, none⟩) 0 0, .int .u32 imm] 47)).heap.size = wr.heap.size + 1 by simp] at this
          exact this
        go_wp2_with (first | (at_builtin; refine wpList_append_own_none rfl _ _ 25 rfl (wr.heap.size + 1) 3 i0 1 Try.underlying25 hi0 _ _ _ rfl HEM.out rfl ?_) | (at_builtin; refine wpList_append_own_at _ rfl _ _ 22 rfl w.heap.size 47 n0 _ 5 56 Try.underlying22 hn0 hy0 hy1 hy2 rfl (by decide) _ _ _ rfl (HROW.out.alloc _) ⟨_, 0, none⟩ 1 1 [.int .i64 op, .int .i64 width, .int .i64 flags, .slice (some ⟨wr.heap.size + 1, 0, none⟩) 0 0, .int .u32 imm] rfl rfl ?d1x1 ?d2x1 ?d3x1 ?d4x1 ?d5x1 ?_))
        try case d1x1 =>
          intro i u h
          rcases i with _ | _ | _ | _ | _ | i <;> first | (cases h; simp [go_sem, Addr.add]) | cases h
        try case d2x1 => simp [Value.oneCell']
        try case d3x1 => unfold maxLen; omega
        try case d4x1 => omega
        try case d5x1 => first | omega | (simp; omega)
        intro v' w2 hown' hgrow _ hat
        have HOW := Lib.hid hown'
        have HGR := Lib.hid hgrow
        have HAT := Lib.hid hat
        clear hown' hgrow hat
        go_wp2_with fail
        go_roundw
        case rel =>
          have HCG : Chg (fun b => (Value.slice na j nc).ownBlock = some b) ((wr.alloc (.cells #[.int .i64 op, .int .i64 width, .int .i64 flags, .slice (some ⟨wr.heap.size + 1, 0, none⟩) 0 0, .int .u32 imm] 47)).alloc (.cells #[] 3)) w2 := (Chg.of_below ((Below.refl _ _).alloc (Nat.le_refl _) _)).trans (Chg.of_grown HGR.out (fun k hk => hk)) (fun _ _ h => h)
          have hno := own_lt HO.out.row
          have ho2 := OSt.add (x := ⟨op, width, flags, [], imm⟩) (av := .slice (some ⟨wr.heap.size + 1, 0, none⟩) 0 0) (w := ((wr.alloc (.cells #[.int .i64 op, .int .i64 width, .int .i64 flags, .slice (some ⟨wr.heap.size + 1, 0, none⟩) 0 0, .int .u32 imm] 47)).alloc (.cells #[] 3))) (HO.out.below (show Below wr.heap.size wr ((wr.alloc (.cells #[.int .i64 op, .int .i64 width, .int .i64 flags, .slice (some ⟨wr.heap.size + 1, 0, none⟩) 0 0, .int .u32 imm] 47)).alloc (.cells #[] 3)) from ((Below.refl _ _).alloc (Nat.le_refl _) _).alloc (by simp) _)) (RowI.intsF (xs := []) HEN.out (by simp)) (fun b hb => (show wr.heap.size + 1 = b by simpa [Value.ownBlock] using hb) ▸ ⟨fun e => by have := hno _ e; omega, by omega, by simp⟩) HCG (by rw [HLJ.out]; exact HOW.out) (HAT.out.imp_right fun h => ⟨_, h, by simp⟩)
          refine ⟨j + 1, v', _, _, rfl, by omega, by go_num, by rw [HTK.out]; exact ho2, HO.out.apart HAP.out (fun k hk => by simp [Value.ownBlock] at hk; omega), ?_⟩
          exact ((HB.out.trans ((show Below wr.heap.size wr ((wr.alloc (.cells #[.int .i64 op, .int .i64 width, .int .i64 flags, .slice (some ⟨wr.heap.size + 1, 0, none⟩) 0 0, .int .u32 imm] 47)).alloc (.cells #[] 3)) from ((Below.refl _ _).alloc (Nat.le_refl _) _).alloc (by simp) _).mono hbs)).alloc (by simp; omega) _).grown HGR.out (by simp; omega) (own_ge HO.out.row)
        case measure => simp [intOf]; omega
      · obtain ⟨ad, rfl⟩ : ∃ ad, aa = some ad := by cases aa with | none => exact absurd rfl hsn | some ad => exact ⟨ad, rfl⟩
        clear hsn
        have HEM : Hid (((wr.alloc (.cells #[.int .i64 op, .int .i64 width, .int .i64 flags, .slice (some ad) args.length ac, .int .u32 imm] 47)).alloc (.cells #[] 3)).ownsRow (wr.heap.size + 1) 3 1 (.slice (some ⟨wr.heap.size + 1, 0, none⟩) 0 0) 0 []) := by
          have := ownsRow_empty (wr.alloc (.cells #[.int .i64 op, .int .i64 width, .int .i64 flags, .slice (some ad) args.length ac, .int .u32 imm] 47)) (wr.heap.size + 1) (by simp) 3
          rw [show (wr.alloc (.cells #[.int .i64 op, .int .i64 width, .int .i64 flags, .slice (some ad) args.length ac, .int .u32 imm] 47)).heap.size = wr.heap.size + 1 by simp] at this
          exact this
        have HNW := Lib.hid ((HAV.out.stays (show Below wr.heap.size wr ((wr.alloc (.cells #[.int .i64 op, .int .i64 width, .int .i64 flags, .slice (some ad) args.length ac, .int .u32 imm] 47)).alloc (.cells #[] 3)) from ((Below.refl _ _).alloc (Nat.le_refl _) _).alloc (by simp) _)).news)
        go_wp2_with (at_builtin; refine wpList_append_own_at _ rfl _ _ 25 rfl (wr.heap.size + 1) 3 i0 (.int .i64 0) 1 8 Try.underlying25 hi0 hz0 hz1 hz2 rfl (by decide) _ _ _ rfl HEM.out ad args.length ac (args.map (Value.int .i64)) rfl ?e0 HNW.out ?e2 ?e3 ?e4 ?e5 ?_)
        try case e0 => simp
        try case e2 => simp [Value.oneCell']
        try case e3 => unfold maxLen; omega
        try case e4 => omega
        try case e5 => simp
        intro v1 w1 hown1 hgrow1 _ hat1
        have hc1 : Chg (fun b => b = wr.heap.size + 1) ((wr.alloc (.cells #[.int .i64 op, .int .i64 width, .int .i64 flags, .slice (some ad) args.length ac, .int .u32 imm] 47)).alloc (.cells #[] 3)) w1 := Chg.of_grown hgrow1 (fun k hk => by cases hk; rfl)
        have hs1 := hc1.size
        have hs1' : wr.heap.size + 2 ≤ w1.heap.size := by simpa using hs1
        have x0 := hc1.cell (b := wr.heap.size) (o := 0) (by omega) (v := .int .i64 op) (by simp [go_sem])
        have x1 := hc1.cell (b := wr.heap.size) (o := 1) (by omega) (v := .int .i64 width) (by simp [go_sem])
        have x2 := hc1.cell (b := wr.heap.size) (o := 2) (by omega) (v := .int .i64 flags) (by simp [go_sem])
        have x3 := hc1.cell (b := wr.heap.size) (o := 3) (by omega) (v := .slice (some ad) args.length ac) (by simp [go_sem])
        have x4 := hc1.cell (b := wr.heap.size) (o := 4) (by omega) (v := .int .u32 imm) (by simp [go_sem])
        have z3 : w1.frozen? ⟨wr.heap.size, 3, none⟩ = false := by rw [hc1.frozen (by omega) (by simp; omega)]; simp [go_sem]
        have hrw : RowI w1 (wr.heap.size + 1) 3 .i64 v1 args := by simpa [RowI] using hown1
        obtain ⟨va, vc, hv1⟩ := hrw.shape
        subst hv1
        have HC1 := Lib.hid hc1
        have hset : Chg (fun b => b = wr.heap.size) w1 (w1.setCell ⟨wr.heap.size, 3, none⟩ (.slice va args.length vc)) := (Chg.refl (fun b => b = wr.heap.size) w1).setCell (b := wr.heap.size) rfl _
        have hall : Chg (fun b => wr.heap.size ≤ b) wr (w1.setCell ⟨wr.heap.size, 3, none⟩ (.slice va args.length vc)) := ((Chg.of_below (show Below wr.heap.size wr ((wr.alloc (.cells #[.int .i64 op, .int .i64 width, .int .i64 flags, .slice (some ad) args.length ac, .int .u32 imm] 47)).alloc (.cells #[] 3)) from ((Below.refl _ _).alloc (Nat.le_refl _) _).alloc (by simp) _)).trans hc1 (fun k hk h => by omega)).trans hset (fun k hk h => by omega)
        have HALL := Lib.hid (hall.below (Nat.le_refl _) (fun k h => h))
        have HIF : Hid (IntsF (w1.setCell ⟨wr.heap.size, 3, none⟩ (.slice va args.length vc)) (.slice va args.length vc) args) := by
          have h9 : RowI (w1.setCell ⟨wr.heap.size, 3, none⟩ (.slice va args.length vc)) (wr.heap.size + 1) 3 .i64 (.slice va args.length vc) args :=
            own_same (T := fun b => (Value.slice va args.length vc).ownBlock = some b) hrw (hset.same fun k hk => ⟨own_lt hrw k hk, by have := own_ge hrw k hk; omega⟩) (fun b h => h)
          exact h9.intsF (by omega)
        have HOV : Hid (∀ b, (Value.slice va args.length vc).ownBlock = some b → wr.heap.size + 1 ≤ b ∧ b < w1.heap.size) := fun b hb => ⟨own_ge hrw b hb, own_lt hrw b hb⟩
        have HROW : Hid ((w1.setCell ⟨wr.heap.size, 3, none⟩ (.slice va args.length vc)).ownsRow w.heap.size 47 5 (.slice na j nc) j (rowsC (ts.take j) avs)) := by
          have h9 := (HO.out.below HALL.out).row
          rw [HLJ.out] at h9
          exact h9
        clear hown1 hgrow1 hat1 hc1 hset hall hrw hs1
        go_wp2_with (at_builtin; refine wpList_append_own_at _ rfl _ _ 22 rfl w.heap.size 47 n0 _ 5 56 Try.underlying22 hn0 hy0 hy1 hy2 rfl (by decide) _ _ _ rfl (HROW.out.alloc _) ⟨_, 0, none⟩ 1 1 [.int .i64 op, .int .i64 width, .int .i64 flags, .slice va args.length vc, .int .u32 imm] rfl rfl ?d1x2 ?d2x2 ?d3x2 ?d4x2 ?d5x2 ?_)
        try case d1x2 =>
          intro i u h
          rcases i with _ | _ | _ | _ | _ | i <;> first | (cases h; simp [go_sem, Addr.add]) | cases h
        try case d2x2 => simp [Value.oneCell']
        try case d3x2 => unfold maxLen; omega
        try case d4x2 => omega
        try case d5x2 => first | omega | (simp; omega)
        intro v' w2 hown' hgrow _ hat
        have HOW := Lib.hid hown'
        have HGR := Lib.hid hgrow
        have HAT := Lib.hid hat
        clear hown' hgrow hat
        go_wp2_with fail
        go_roundw
        case rel =>
          have HCG : Chg (fun b => (Value.slice na j nc).ownBlock = some b) (w1.setCell ⟨wr.heap.size, 3, none⟩ (.slice va args.length vc)) w2 := (Chg.of_below ((Below.refl _ _).alloc (Nat.le_refl _) _)).trans (Chg.of_grown HGR.out (fun k hk => hk)) (fun _ _ h => h)
          have hno := own_lt HO.out.row
          have ho2 := OSt.add (x := ⟨op, width, flags, args, imm⟩) (av := .slice va args.length vc) (w := (w1.setCell ⟨wr.heap.size, 3, none⟩ (.slice va args.length vc))) (HO.out.below HALL.out) HIF.out (fun b hb => ⟨fun e => by have := hno b e; have := (HOV.out b hb).1; omega, by have := (HOV.out b hb).1; omega, by simp [World.setCell]; exact (HOV.out b hb).2⟩) HCG (by rw [HLJ.out]; exact HOW.out) (HAT.out.imp_right fun h => ⟨_, h, by simp⟩)
          refine ⟨j + 1, v', _, _, rfl, by omega, by go_num, by rw [HTK.out]; exact ho2, HO.out.apart HAP.out (fun k hk => by have := (HOV.out k hk).1; omega), ?_⟩
          exact ((HB.out.trans (HALL.out.mono hbs)).alloc (by simp; omega) _).grown HGR.out (by simp; omega) (own_ge HO.out.row)
        case measure => simp [intOf]; omega
    · obtain rfl : j = ts.length := by omega
      go_wp2_with fail
      go_ret
      have ho := HO.out
      rw [List.take_length] at ho
      exact ⟨_, R, avs, rfl, ho, HB.out, HAP.out⟩
end Go.Proofs.Ythopdfikikdcbaa
/- A node with all that leads to it, as a tree; the telling of a term's nodes depends on the tree alone. No program in sight. -/
namespace Go.Proofs.Ythopdfikikdcbaa
set_option linter.unusedVariables false
set_option linter.unusedSimpArgs false
inductive Tr where
  | mk (op width flags : Int) (args : List Tr) (imm : Int)
instance : Inhabited Tr := ⟨.mk 0 0 0 [] 0⟩
theorem Tr.ind {p : Tr → Prop} (h : ∀ op w f l i, (∀ t ∈ l, p t) → p (.mk op w f l i)) (t : Tr) : p t :=
  Tr.rec (motive_1 := p) (motive_2 := fun l => ∀ t ∈ l, p t) (fun op w f l i ih => h op w f l i ih) (fun t ht => by cases ht)
    (fun a l ha hl t ht => by rcases List.mem_cons.1 ht with rfl | ht; exact ha; exact hl t ht) t
/-- The tree of the node k. -/
def treeF (ts : List Nd) : Nat → Nat → Tr
  | 0, _ => default
  | f + 1, k => .mk (nd ts k).op (nd ts k).width (nd ts k).flags ((nd ts k).args.map fun a => treeF ts f a.toNat) (nd ts k).imm
def tree (ts : List Nd) (k : Nat) : Tr := treeF ts (k + 1) k
theorem treeF_fuel {ts : List Nd} (hd : Down ts) : ∀ (f k : Nat), k < f → k < ts.length → treeF ts f k = tree ts k
  | 0, k, h, _ => absurd h (by omega)
  | f + 1, k, hf, hk => by
    unfold tree
    unfold treeF
    congr 1
    refine List.map_congr_left fun a ha => ?_
    have h := hd k hk a ha
    rw [treeF_fuel hd f a.toNat (by omega) (by omega), treeF_fuel hd k a.toNat (by omega) (by omega)]
theorem tree_eq {ts : List Nd} (hd : Down ts) {k : Nat} (hk : k < ts.length) :
    tree ts k = .mk (nd ts k).op (nd ts k).width (nd ts k).flags ((nd ts k).args.map fun a => tree ts a.toNat) (nd ts k).imm := by
  conv => lhs; unfold tree; unfold treeF
  congr 1
  refine List.map_congr_left fun a ha => ?_
  have h := hd k hk a ha
  exact treeF_fuel hd k a.toNat (by omega) (by omega)
theorem nd_pre {o l : List Nd} {k : Nat} (h : k < o.length) : nd (o ++ l) k = nd o k := getD_pre h
theorem treeF_pre {o : List Nd} (hd : Down o) (l : List Nd) : ∀ (f k : Nat), k < o.length → treeF (o ++ l) f k = treeF o f k
  | 0, _, _ => rfl
  | f + 1, k, hk => by
    unfold treeF
    rw [nd_pre hk]
    congr 1
    refine List.map_congr_left fun a ha => ?_
    have h := hd k hk a ha
    exact treeF_pre hd l f a.toNat (by omega)
theorem tree_pre {o : List Nd} (hd : Down o) (l : List Nd) {k : Nat} (hk : k < o.length) : tree (o ++ l) k = tree o k := treeF_pre hd l _ k hk
mutual
/-- A tree's nodes put behind o, what is there already not again; the root's number. -/
def insT : Tr → List Nd → List Nd × Nat
  | .mk op w f l i, o => addN (insL l o).1 ⟨op, w, f, (insL l o).2, i⟩
def insL : List Tr → List Nd → List Nd × List Int
  | [], o => (o, [])
  | t :: l, o => ((insL l (insT t o).1).1, ((insT t o).2 : Int) :: (insL l (insT t o).1).2)
end
theorem insT_mk (op w f : Int) (l : List Tr) (i : Int) (o : List Nd) : insT (.mk op w f l i) o = addN (insL l o).1 ⟨op, w, f, (insL l o).2, i⟩ := by rw [insT]
theorem insL_nil (o : List Nd) : insL [] o = (o, []) := by rw [insL]
theorem insL_cons (t : Tr) (l : List Tr) (o : List Nd) : insL (t :: l) o = ((insL l (insT t o).1).1, ((insT t o).2 : Int) :: (insL l (insT t o).1).2) := by rw [insL]
/-- What is told: nodes that go down, no two alike. -/
structure Good (o : List Nd) : Prop where
  nod : o.Nodup
  down : Down o
theorem Good.nil : Good [] := ⟨by simp, fun k h => by simp at h⟩
theorem addN_good {o : List Nd} (h : Good o) {y : Nd} (hy : ∀ a ∈ y.args, 0 ≤ a ∧ a < (o.length : Int)) : Good (addN o y).1 := by
  refine ⟨addN_nodup h.nod, ?_⟩
  unfold addN
  split
  · exact h.down
  · intro k hk a ha
    simp at hk
    by_cases hlt : k < o.length
    · rw [nd_pre hlt] at ha; exact h.down k hlt a ha
    · obtain rfl : k = o.length := by omega
      have e : nd (o ++ [y]) o.length = y := by unfold nd; rw [List.getD_eq_getElem?_getD]; simp
      rw [e] at ha
      exact hy a ha
/-- What the putting of a tree gives. -/
structure Put1 (t : Tr) (o : List Nd) : Prop where
  good : Good (insT t o).1
  ext : ∃ l, (insT t o).1 = o ++ l
  lt : (insT t o).2 < (insT t o).1.length
  tr : tree (insT t o).1 (insT t o).2 = t
structure PutL (l : List Tr) (o : List Nd) : Prop where
  good : Good (insL l o).1
  ext : ∃ m, (insL l o).1 = o ++ m
  len : (insL l o).2.length = l.length
  rng : ∀ a ∈ (insL l o).2, 0 ≤ a ∧ a < ((insL l o).1.length : Int)
  trs : (insL l o).2.map (fun a => tree (insL l o).1 a.toNat) = l
theorem putL_of {l : List Tr} : (∀ t ∈ l, ∀ o, Good o → Put1 t o) → ∀ o, Good o → PutL l o := by
  induction l with
  | nil => intro _ o ho; exact ⟨by rw [insL_nil]; exact ho, ⟨[], by rw [insL_nil]; simp⟩, by rw [insL_nil]; rfl, (by rw [insL_nil]; exact fun a h => by simp at h), by rw [insL_nil]; rfl⟩
  | cons t l ih =>
    intro h o ho
    have h1 := h t (List.mem_cons_self ..) o ho
    have h2 := ih (fun t ht => h t (List.mem_cons_of_mem _ ht)) _ h1.good
    obtain ⟨m1, e1⟩ := h1.ext
    obtain ⟨m2, e2⟩ := h2.ext
    have hl : (insT t o).1.length ≤ (insL l (insT t o).1).1.length := by rw [e2]; simp
    refine ⟨?_, ?_, ?_, ?_, ?_⟩
    · rw [insL_cons]; exact h2.good
    · rw [insL_cons]; exact ⟨m1 ++ m2, by show (insL l (insT t o).1).1 = _; rw [e2, e1, List.append_assoc]⟩
    · rw [insL_cons]; simp [h2.len]
    · rw [insL_cons]
      intro a ha
      have h3 := h1.lt
      rcases List.mem_cons.1 ha with rfl | ha
      · exact ⟨by omega, by show ((insT t o).2 : Int) < ((insL l (insT t o).1).1.length : Int); omega⟩
      · exact h2.rng a ha
    · rw [insL_cons]
      show tree (insL l (insT t o).1).1 (((insT t o).2 : Int)).toNat :: _ = _
      rw [h2.trs, Int.toNat_natCast, e2, tree_pre h1.good.down _ h1.lt, h1.tr]
theorem put1 (t : Tr) : ∀ o, Good o → Put1 t o := by
  induction t using Tr.ind with
  | _ op w f l i ih =>
    intro o ho
    have hl := putL_of ih o ho
    have hg := addN_good hl.good (y := ⟨op, w, f, (insL l o).2, i⟩) hl.rng
    obtain ⟨m, em⟩ := hl.ext
    obtain ⟨m', em'⟩ := @addN_ext (insL l o).1 ⟨op, w, f, (insL l o).2, i⟩
    have hlt := @addN_len (insL l o).1 ⟨op, w, f, (insL l o).2, i⟩
    have hget := @addN_get (insL l o).1 ⟨op, w, f, (insL l o).2, i⟩
    refine ⟨?_, ?_, ?_, ?_⟩
    · rw [insT_mk]; exact hg
    · rw [insT_mk]; exact ⟨m ++ m', by rw [em', em, List.append_assoc]⟩
    · rw [insT_mk]; exact hlt
    · rw [insT_mk, tree_eq hg.down hlt]
      have e : nd (addN (insL l o).1 ⟨op, w, f, (insL l o).2, i⟩).1 (addN (insL l o).1 ⟨op, w, f, (insL l o).2, i⟩).2 = ⟨op, w, f, (insL l o).2, i⟩ := hget
      rw [e]
      simp only
      congr 1
      rw [← hl.trs, hl.trs]
      conv => rhs; rw [← hl.trs]
      refine List.map_congr_left fun a ha => ?_
      have hr := hl.rng a ha
      rw [em']
      exact tree_pre hl.good.down _ (by omega)
theorem putL (l : List Tr) (o : List Nd) (h : Good o) : PutL l o := putL_of (fun t _ => put1 t) o h
/-- What is there already is found again. -/
theorem ins_there {o : List Nd} (h : Good o) : ∀ (k : Nat), k < o.length → insT (tree o k) o = (o, k) := by
  intro k
  induction k using Nat.strongRecOn with
  | _ k ih =>
    intro hk
    rw [tree_eq h.down hk, insT_mk]
    have key : ∀ l : List Int, (∀ a ∈ l, 0 ≤ a ∧ a < (k : Int)) → insL (l.map fun a => tree o a.toNat) o = (o, l) := by
      intro l
      induction l with
      | nil => intro _; rw [List.map_nil, insL_nil]
      | cons a l ih2 =>
        intro hr
        have ha := hr a (List.mem_cons_self ..)
        rw [List.map_cons, insL_cons, ih a.toNat (by omega) (by omega)]
        simp only
        rw [ih2 (fun b hb => hr b (List.mem_cons_of_mem _ hb)), Int.toNat_of_nonneg ha.1]
    rw [key _ (h.down k hk)]
    simp only
    have e : (⟨(nd o k).op, (nd o k).width, (nd o k).flags, (nd o k).args, (nd o k).imm⟩ : Nd) = o[k] := by
      unfold nd; rw [List.getD_eq_getElem?_getD, List.getElem?_eq_getElem hk]; rfl
    rw [e]
    unfold addN
    rw [if_pos (List.getElem_mem hk)]
    congr 1
    exact List.Nodup.idxOf_getElem h.nod k hk
theorem ins_node {o : List Nd} (h : Good o) {t : Tr} {k : Nat} (hk : k < o.length) (ht : tree o k = t) : insT t o = (o, k) := by rw [← ht]; exact ins_there h k hk
theorem addN_grow (o : List Nd) (y : Nd) : (addN o y).1.length ≤ o.length + 1 := by unfold addN; split <;> simp
/-- What has been told of ts stands in what was told, as the same tree. -/
structure InvT (ts : List Nd) (s : St) : Prop where
  good : Good s.out
  len : s.nos.length = ts.length
  rng : ∀ k, s.told k → s.no k < s.out.length
  tr : ∀ k, s.told k → tree s.out (s.no k).toNat = tree ts k
theorem InvT.lt {ts : List Nd} {s : St} (h : InvT ts s) {k : Nat} (hk : s.told k) : k < ts.length := by
  rcases Nat.lt_or_ge k ts.length with h' | h'
  · exact h'
  · exfalso
    unfold St.told St.no at hk
    rw [List.getD_eq_getElem?_getD, List.getElem?_eq_none (by rw [h.len]; exact h')] at hk
    exact absurd hk (by simp)
theorem InvT.ins {ts : List Nd} {s : St} (h : InvT ts s) {k : Nat} (hk : s.told k) : insT (tree ts k) s.out = (s.out, (s.no k).toNat) := by
  have h1 := h.rng k hk
  have h0 : 0 ≤ s.no k := hk
  exact ins_node h.good (by omega) (h.tr k hk)
structure VisT (ts : List Nd) (k : Nat) (s s' : St) : Prop where
  inv : InvT ts s'
  ext : Ext s s'
  told : s'.told k
  ins : insT (tree ts k) s.out = (s'.out, (s'.no k).toNat)
theorem vis_ins {ts : List Nd} (hd : Down ts) : ∀ (k : Nat) (s : St), k < ts.length → InvT ts s → VisT ts k s (vis ts k s) := by
  intro k
  induction k using Nat.strongRecOn with
  | _ k ih =>
    intro s hk hi
    rw [vis_eq hd hk]
    by_cases ht : s.told k
    · rw [if_pos ht]; exact ⟨hi, Ext.refl s, ht, hi.ins ht⟩
    · rw [if_neg ht]
      have key : ∀ (l : List Int) (s : St), (∀ a ∈ l, 0 ≤ a ∧ a < (k : Int)) → InvT ts s → ∃ s', l.foldl (fun s a => vis ts a.toNat s) s = s' ∧ InvT ts s' ∧ Ext s s' ∧ (∀ a ∈ l, s'.told a.toNat) ∧
          insL (l.map fun a => tree ts a.toNat) s.out = (s'.out, l.map fun a => s'.no a.toNat) := by
        intro l
        induction l with
        | nil => intro s _ hi; exact ⟨s, rfl, hi, Ext.refl s, (fun a h => by cases h), by rw [List.map_nil, insL_nil]; rfl⟩
        | cons a l ih2 =>
          intro s hr hi
          have ha := hr a (List.mem_cons_self ..)
          have v := ih a.toNat (by omega) s (by omega) hi
          obtain ⟨s', e1, i1, x1, t1, n1⟩ := ih2 (vis ts a.toNat s) (fun b hb => hr b (List.mem_cons_of_mem _ hb)) v.inv
          refine ⟨s', by rw [List.foldl_cons]; exact e1, i1, v.ext.trans x1, fun b hb => ?_, ?_⟩
          · rcases List.mem_cons.1 hb with rfl | hb
            · exact x1.told v.told
            · exact t1 b hb
          · have h0 : 0 ≤ (vis ts a.toNat s).no a.toNat := v.told
            rw [List.map_cons, insL_cons, v.ins]
            simp only
            rw [n1, Int.toNat_of_nonneg h0, List.map_cons, x1.no _ v.told]
      obtain ⟨s', e1, i1, x1, t1, n1⟩ := key _ s (hd k hk) hi
      rw [e1]
      have hins : insT (tree ts k) s.out = addN s'.out (mapN s' (nd ts k)) := by
        rw [tree_eq hd hk, insT_mk, n1]; rfl
      have hp := put1 (tree ts k) s.out hi.good
      have hG : Good (addN s'.out (mapN s' (nd ts k))).1 := by have := hp.good; rw [hins] at this; exact this
      have hT : tree (addN s'.out (mapN s' (nd ts k))).1 (addN s'.out (mapN s' (nd ts k))).2 = tree ts k := by have := hp.tr; rw [hins] at this; exact this
      have hL : (addN s'.out (mapN s' (nd ts k))).2 < (addN s'.out (mapN s' (nd ts k))).1.length := addN_len
      obtain ⟨m, hm⟩ := @addN_ext s'.out (mapN s' (nd ts k))
      have hkn : k < s'.nos.length := by rw [i1.len]; exact hk
      have e0 : (tell ts k s').no k = (addN s'.out (mapN s' (nd ts k))).2 := no_tell_self hkn
      have eo : (tell ts k s').out = (addN s'.out (mapN s' (nd ts k))).1 := rfl
      refine ⟨⟨hG, ?_, ?_, ?_⟩, ?_, ?_, ?_⟩
      · show (s'.nos.set k _).length = _; rw [List.length_set]; exact i1.len
      · intro j hj
        by_cases hjk : k = j
        · subst hjk; rw [e0, eo]; omega
        · have hj' : s'.told j := by unfold St.told at *; rw [no_tell_ne hjk] at hj; exact hj
          have := i1.rng j hj'
          rw [no_tell_ne hjk, eo, hm]
          simp
          omega
      · intro j hj
        by_cases hjk : k = j
        · subst hjk; rw [e0, eo, Int.toNat_natCast]; exact hT
        · have hj' : s'.told j := by unfold St.told at *; rw [no_tell_ne hjk] at hj; exact hj
          have h1 := i1.rng j hj'
          have h0 : 0 ≤ s'.no j := hj'
          rw [no_tell_ne hjk, eo, hm, tree_pre i1.good.down _ (by omega)]
          exact i1.tr j hj'
      · obtain ⟨l1, hl1⟩ := x1.out
        refine ⟨⟨l1 ++ m, by rw [eo, hm, hl1, List.append_assoc]⟩, fun j hj => ?_⟩
        have hjk : k ≠ j := fun h => ht (h ▸ hj)
        rw [no_tell_ne hjk]
        exact x1.no j hj
      · show 0 ≤ (tell ts k s').no k
        rw [e0]; omega
      · rw [hins, e0, eo, Int.toNat_natCast]
theorem st0_invT (ts : List Nd) : InvT ts (st0 ts) := ⟨Good.nil, by simp [st0], fun k h => absurd h (st0_told ts k), fun k h => absurd h (st0_told ts k)⟩
theorem shr_ins {ts : List Nd} (hd : Down ts) {k : Nat} (hk : k < ts.length) : shr ts k = (insT (tree ts k) []).1 := by
  have h := (vis_ins hd k (st0 ts) hk (st0_invT ts)).ins
  show (vis ts k (st0 ts)).out = _
  rw [show (st0 ts).out = [] from rfl] at h
  rw [h]
/-- Terms of equal trees are told alike. -/
theorem shr_same {ts us : List Nd} (hd : Down ts) (hd' : Down us) {k j : Nat} (hk : k < ts.length) (hj : j < us.length) (h : tree ts k = tree us j) : shr ts k = shr us j := by
  rw [shr_ins hd hk, shr_ins hd' hj, h]
theorem shr_tree {ts : List Nd} (hd : Down ts) {k : Nat} (hk : k < ts.length) : tree (shr ts k) ((shr ts k).length - 1) = tree ts k := by
  have h := vis_ins hd k (st0 ts) hk (st0_invT ts)
  have h1 := (shr_root hd hk).1
  have h2 := h.inv.tr k h.told
  rw [h1] at h2
  rw [← h2]
  congr 1
  omega
end Go.Proofs.Ythopdfikikdcbaa
/- A shared term is valid: the plain law. -/
namespace Go.Proofs.Ythopdfikikdcbaa
open Go.RowKit Wd
set_option linter.unusedVariables false
set_option linter.unusedSimpArgs false
theorem valid_down {ts : List Nd} (h : valE ts = 0) : Down ts := fun k hk a ha => (shaped_facts (okS_at (valid_facts h).2.2.1 hk)).2.1 a ha
/-- What a told node is among the shared ones. -/
theorem shr_node {ts : List Nd} (hd : Down ts) {k : Nat} (hk : k < ts.length) {i : Nat} (hi : i < (shr ts k).length) : ∃ j, j < ts.length ∧ (vis ts k (st0 ts)).told j ∧ (vis ts k (st0 ts)).no j = i ∧ (shr ts k).getD i default = mapN (vis ts k (st0 ts)) (nd ts j) := by
  obtain ⟨w, t⟩ := vis_inv hd hk (st0_inv ts)
  obtain ⟨j, h1, h2⟩ := w.inv.src i hi
  refine ⟨j, told_lt w.inv h1, h1, h2, ?_⟩
  have := w.inv.node j h1
  rw [h2, Int.toNat_natCast] at this
  exact this
theorem immOk_map {s : St} {x : Nd} : immOk (mapN s x) = immOk x := rfl
theorem shaped_map {s : St} {x : Nd} {j i : Nat} (h : shaped j x = true) (ha : ∀ a ∈ x.args, 0 ≤ s.no a.toNat ∧ s.no a.toNat < i) : shaped i (mapN s x) = true := by
  unfold shaped at h ⊢
  simp only [Bool.and_eq_true] at h ⊢
  obtain ⟨⟨⟨⟨⟨⟨⟨h1, h2⟩, h3⟩, h4⟩, h5⟩, h6⟩, h7⟩, h8⟩ := h
  refine ⟨⟨⟨⟨⟨⟨⟨h1, h2⟩, h3⟩, h4⟩, ?_⟩, h6⟩, h7⟩, ?_⟩
  · show (!(((x.args.map _).length : Int) != arV x.op)) = true
    rw [List.length_map]; exact h5
  · rw [Bool.not_eq_true', List.any_eq_false]
    intro a hm
    obtain ⟨b, hb, rfl⟩ := List.mem_map.1 (show a ∈ x.args.map _ from hm)
    have := ha b hb
    simp [bad]; omega
theorem shr_okS {ts : List Nd} (h : valE ts = 0) {k : Nat} (hk : k < ts.length) : okS (shr ts k) = true := by
  have hd := valid_down h
  obtain ⟨w, t⟩ := vis_inv hd hk (st0_inv ts)
  refine okS_good fun i hi => ?_
  obtain ⟨j, hj, ht, hn, he⟩ := shr_node hd hk hi
  rw [he]
  refine shaped_map (okS_at (valid_facts h).2.2.1 hj) fun a ha => ?_
  have h1 := w.inv.low i hi ((vis ts k (st0 ts)).no a.toNat) (by
    show _ ∈ ((shr ts k).getD i default).args
    rw [he]
    exact List.mem_map.2 ⟨a, ha, rfl⟩)
  exact h1
theorem wdt_map {ts : List Nd} (hd : Down ts) {k : Nat} (hk : k < ts.length) {j : Nat} (hj : (vis ts k (st0 ts)).told j) (hjl : j < ts.length) {i : Nat} (hi : i < (nd ts j).args.length) :
    wdt (shr ts k) (mapN (vis ts k (st0 ts)) (nd ts j)).args i = wdt ts (nd ts j).args i := by
  obtain ⟨w, t⟩ := vis_inv hd hk (st0_inv ts)
  have hm := getD_mem0 hi
  have ht := w.inv.cls j hj _ hm
  have hnode := w.inv.node _ ht
  unfold wdt
  have e : (mapN (vis ts k (st0 ts)) (nd ts j)).args.getD i 0 = (vis ts k (st0 ts)).no ((nd ts j).args.getD i 0).toNat := by
    show ((nd ts j).args.map _).getD i 0 = _
    rw [List.getD_eq_getElem?_getD, List.getElem?_map, List.getElem?_eq_getElem hi, List.getD_eq_getElem?_getD, List.getElem?_eq_getElem hi]; rfl
  rw [e]
  show ((vis ts k (st0 ts)).out.getD _ default).width = _
  rw [hnode]; rfl
theorem shr_okT {ts : List Nd} (h : valE ts = 0) {k : Nat} (hk : k < ts.length) : okT (shr ts k) = true := by
  have hd := valid_down h
  refine okT_good fun i hi => ?_
  obtain ⟨j, hj, ht, hn, he⟩ := shr_node hd hk hi
  rw [he]
  have hok := nodeOk h hj
  have hty := hok.typ
  have hlen := hok.len
  have har := hok.ar
  have hw := fun i (hi : i < (nd ts j).args.length) => wdt_map hd hk ht hj hi
  have e1 : (mapN (vis ts k (st0 ts)) (nd ts j)).op = (nd ts j).op := rfl
  have e2 : (mapN (vis ts k (st0 ts)) (nd ts j)).width = (nd ts j).width := rfl
  change typed ts (nd ts j) = true at hty
  change ((nd ts j).args.length : Int) = arV (nd ts j).op at hlen
  change arV (nd ts j).op ≠ -1 at har
  unfold typed at hty ⊢
  rw [e1, e2]
  rcases arV_cases (nd ts j).op with ⟨c | c, e0⟩ | ⟨⟨c1, c2⟩, e0⟩ | ⟨c, e0⟩ | ⟨⟨c1, c2⟩, e0⟩ | ⟨c, e0⟩
  · rw [c]; simp
  · rw [c]; simp
  · rw [hw 0 (by omega), hw 1 (by omega)]
    by_cases c14 : (nd ts j).op = 14
    · rw [c14] at hty ⊢; simpa using hty
    · rw [if_pos ⟨c1, by omega⟩] at hty ⊢; exact hty
  · rw [hw 0 (by omega), hw 1 (by omega), hw 2 (by omega)]; exact hty
  · have c3 : (nd ts j).op = 16 ∨ (nd ts j).op = 17 ∨ (nd ts j).op = 18 := by omega
    rw [hw 0 (by omega)]
    rcases c3 with c | c | c <;> rw [c] at hty ⊢ <;> simpa using hty
  · exact absurd e0 har
theorem shr_imm {ts : List Nd} (hd : Down ts) (hI : ∀ x ∈ ts, 0 ≤ x.imm ∧ x.imm ≤ 4294967295) {k : Nat} (hk : k < ts.length) : ∀ x ∈ shr ts k, 0 ≤ x.imm ∧ x.imm ≤ 4294967295 := by
  intro x hx
  obtain ⟨i, hi, rfl⟩ := List.getElem_of_mem hx
  obtain ⟨j, hj, _, _, he⟩ := shr_node hd hk hi
  rw [List.getD_eq_getElem?_getD, List.getElem?_eq_getElem hi] at he
  have he' : (shr ts k)[i] = mapN (vis ts k (st0 ts)) (nd ts j) := he
  rw [he']
  have := hI _ (mem_getD hj)
  exact this
/-- The told nodes are no more than those of the term. -/
theorem shr_len {ts : List Nd} (hd : Down ts) {k : Nat} (hk : k < ts.length) : (shr ts k).length ≤ ts.length := by
  obtain ⟨w, t⟩ := vis_inv hd hk (st0_inv ts)
  have hsub : (List.range (shr ts k).length) ⊆ ((List.range ts.length).map fun j => ((vis ts k (st0 ts)).no j).toNat) := by
    intro i hi
    obtain ⟨j, hj, _, hn, _⟩ := shr_node hd hk (List.mem_range.1 hi)
    exact List.mem_map.2 ⟨j, List.mem_range.2 hj, by rw [hn]; simp⟩
  have := (List.nodup_range (n := (shr ts k).length)).length_le_of_subset hsub
  simpa using this
theorem shr_valid {ts : List Nd} (h : valE ts = 0) (hI : ∀ x ∈ ts, 0 ≤ x.imm ∧ x.imm ≤ 4294967295) {k : Nat} (hk : k < ts.length) : valE (shr ts k) = 0 := by
  have hd := valid_down h
  obtain ⟨v1, v2, hS, hT, l, hl⟩ := valid_facts h
  have hlen := shr_len hd hk
  have hroot := shr_root hd hk
  refine valE_0 (by omega) (shr_okS h hk) (shr_okT h hk) (wmap_calm (fun x hx => (shr_imm hd hI hk x hx).1) (fun i hi => okS_at (shr_okS h hk) hi) ?_)
  intro k2 hk2 i2 hi2
  rw [Bool.eq_false_iff]
  intro hc
  obtain ⟨c1, c2, c3, c4⟩ := (clash_iff _ _).1 hc
  obtain ⟨j, hj, _, _, he⟩ := shr_node hd hk hk2
  obtain ⟨j2, hj2, _, _, he2⟩ := shr_node hd hk (show i2 < (shr ts k).length by omega)
  rw [he, he2] at c3 c4
  rw [he] at c2
  rw [he2] at c1
  have inv := (wmap_inv (fun x hx => (hI x hx).1) (fun i hi => okS_at hS hi) ts.length l (Nat.le_refl _) (by rw [List.take_length]; exact hl)).1
  have w1 := inv j hj c2
  have w2 := inv j2 hj2 c1
  apply c4
  show (ts.getD j2 default).width = (ts.getD j default).width
  rw [← w1, ← w2]
  have : (ts.getD j2 default).imm = (ts.getD j default).imm := c3
  rw [this]
end Go.Proofs.Ythopdfikikdcbaa
/- Joined terms: the plain law. -/
namespace Go.Proofs.Ythopdfikikdcbaa
open Go.RowKit Wd
set_option linter.unusedVariables false
set_option linter.unusedSimpArgs false
theorem gvis_T {ts : List Nd} (hd : Down ts) (B : Nat) : ∀ (f k : Nat) (s : St), k < f → k < ts.length → JA B ts s.out s.nos → gvis stepA ts f k (s.out, s.nos) = ((visit ts f k s).out, (visit ts f k s).nos)
  | 0, k, s, h, _, _ => absurd h (by omega)
  | f + 1, k, s, hf, hk, hj => by
    unfold gvis visit
    by_cases ht : s.told k
    · rw [if_pos ht, if_pos (show 0 ≤ gno s.nos k from ht)]
    · rw [if_neg ht, if_neg (show ¬ 0 ≤ gno s.nos k from ht)]
      have key : ∀ (l : List Int) (s : St), (∀ a ∈ l, 0 ≤ a ∧ a < (k : Int)) → JA B ts s.out s.nos →
          (gargs (gvis stepA ts f) l (s.out, s.nos)).1 = ((l.foldl (fun s a => visit ts f a.toNat s) s).out, (l.foldl (fun s a => visit ts f a.toNat s) s).nos) := by
        intro l
        induction l with
        | nil => intro s _ _; rfl
        | cons a l ih =>
          intro s hr hj
          have ha := hr a (List.mem_cons_self ..)
          have e := gvis_T hd B f a.toNat s (by omega) (by omega) hj
          have hok := (gvis_ok hd (gjJA B ts) f a.toNat (s.out, s.nos) (by omega) (by omega) hj).1.j
          show (gargs (gvis stepA ts f) l (gvis stepA ts f a.toNat (s.out, s.nos))).1 = _
          rw [e] at hok ⊢
          rw [List.foldl_cons]
          exact ih _ (fun b hb => hr b (List.mem_cons_of_mem _ hb)) hok
      obtain ⟨w1, e1, t1⟩ := gvis_args (f := f) hd (gjJA B ts) (by omega) hk (c := (s.out, s.nos)) hj (nd ts k).args (hd k hk)
      rw [gput_eq (c := (s.out, s.nos)) e1, key _ s (hd k hk) hj]
      rfl
theorem inv_fresh {o ts : List Nd} (h : Good o) : InvT ts ⟨o, List.replicate ts.length (-1)⟩ := by
  have hn : ∀ k, ¬ (St.told ⟨o, List.replicate ts.length (-1)⟩ k) := fun k => by
    show ¬ 0 ≤ gno (List.replicate ts.length (-1)) k
    rw [gno_repl]; omega
  exact ⟨h, by simp, fun k hk => absurd hk (hn k), fun k hk => absurd hk (hn k)⟩
/-- What from does with a fresh map. -/
theorem from_ins {ts o : List Nd} (hd : Down ts) {B k : Nat} (hk : k < ts.length) (ho : Good o) (hB : o.length ≤ B) :
    (gvis stepA ts (k + 1) k (o, List.replicate ts.length (-1))).1 = (insT (tree ts k) o).1 ∧ gno (gvis stepA ts (k + 1) k (o, List.replicate ts.length (-1))).2 k = ((insT (tree ts k) o).2 : Int) := by
  have e := gvis_T hd B (k + 1) k ⟨o, List.replicate ts.length (-1)⟩ (by omega) hk (ja_start B ts o hB)
  have v := vis_ins hd k ⟨o, List.replicate ts.length (-1)⟩ hk (inv_fresh ho)
  have h0 : 0 ≤ (vis ts k ⟨o, List.replicate ts.length (-1)⟩).no k := v.told
  have h1 := v.ins
  rw [e, h1]
  refine ⟨rfl, ?_⟩
  show (vis ts k ⟨o, List.replicate ts.length (-1)⟩).no k = (((vis ts k ⟨o, List.replicate ts.length (-1)⟩).no k).toNat : Int)
  omega
theorem insL_snoc (t : Tr) : ∀ (l : List Tr) (o : List Nd), insL (l ++ [t]) o = ((insT t (insL l o).1).1, (insL l o).2 ++ [((insT t (insL l o).1).2 : Int)])
  | [], o => by rw [List.nil_append, insL_cons, insL_nil, insL_nil]; rfl
  | a :: l, o => by rw [List.cons_append, insL_cons, insL_snoc t l, insL_cons]; rfl
def trs (pts : List (List Nd)) : List Tr := pts.map fun p => tree p (p.length - 1)
theorem trs_take (pts : List (List Nd)) (j : Nat) (h : j < pts.length) : trs (pts.take (j + 1)) = trs (pts.take j) ++ [tree (pts.getD j []) ((pts.getD j []).length - 1)] := by
  unfold trs
  rw [List.take_succ_eq_append_getElem h, List.map_append, List.getD_eq_getElem?_getD, List.getElem?_eq_getElem h]; rfl
def joinO (pts : List (List Nd)) : List Nd := (insL (trs pts) []).1
def joinA (pts : List (List Nd)) : List Int := (insL (trs pts) []).2
def joinT (op width imm : Int) (pts : List (List Nd)) : Tr := .mk op width 0 (trs pts) imm
def outJ (op width imm : Int) (pts : List (List Nd)) : List Nd := (insT (joinT op width imm pts) []).1
theorem joinA_len (pts : List (List Nd)) : (joinA pts).length = pts.length := by
  have := (putL (trs pts) [] Good.nil).len
  unfold joinA
  rw [this]; unfold trs; simp
theorem joinO_good (pts : List (List Nd)) : Good (joinO pts) := (putL (trs pts) [] Good.nil).good
theorem joinA_rng (pts : List (List Nd)) : ∀ a ∈ joinA pts, 0 ≤ a ∧ a < ((joinO pts).length : Int) := (putL (trs pts) [] Good.nil).rng
theorem join_next (pts : List (List Nd)) (j : Nat) (h : j < pts.length) :
    joinO (pts.take (j + 1)) = (insT (tree (pts.getD j []) ((pts.getD j []).length - 1)) (joinO (pts.take j))).1 ∧
    joinA (pts.take (j + 1)) = joinA (pts.take j) ++ [((insT (tree (pts.getD j []) ((pts.getD j []).length - 1)) (joinO (pts.take j))).2 : Int)] := by
  unfold joinO joinA
  rw [trs_take pts j h, insL_snoc]
  exact ⟨rfl, rfl⟩
theorem outJ_add (op width imm : Int) (pts : List (List Nd)) : insT (joinT op width imm pts) [] = addN (joinO pts) ⟨op, width, 0, joinA pts, imm⟩ := by
  unfold joinT; rw [insT_mk]; rfl
/-- The builder's nodes, shared from the root. -/
theorem join_share (op width imm : Int) (pts : List (List Nd)) : shr (addN (joinO pts) ⟨op, width, 0, joinA pts, imm⟩).1 (addN (joinO pts) ⟨op, width, 0, joinA pts, imm⟩).2 = outJ op width imm pts := by
  have h := put1 (joinT op width imm pts) [] Good.nil
  rw [← outJ_add, shr_ins h.good.down h.lt, h.tr]
  rfl
theorem Tr.down_insT (t : Tr) : Down (insT t []).1 := (put1 t [] Good.nil).good.down
/-- How many nodes more a term of k nodes brings. -/
theorem ins_len {ts o : List Nd} (hd : Down ts) {k : Nat} (hk : k < ts.length) (ho : Good o) : (insT (tree ts k) o).1.length ≤ o.length + ts.length := by
  have hj := (gvis_ok hd (gjJA o.length ts) (k + 1) k (o, List.replicate ts.length (-1)) (by omega) hk (ja_start o.length ts o (Nat.le_refl _))).1.j
  rw [← (from_ins hd hk ho (Nat.le_refl _)).1]
  have h1 := hj.sz
  have h2 := cnt_le (gvis stepA ts (k + 1) k (o, List.replicate ts.length (-1))).2
  have h3 := hj.len
  omega
theorem joinO_len (pts : List (List Nd)) (hv : ∀ p ∈ pts, valE p = 0) : ∀ j, j ≤ pts.length → (joinO (pts.take j)).length ≤ 300 * j
  | 0, _ => by simp [joinO, trs, insL_nil]
  | j + 1, h => by
    have ih := joinO_len pts hv j (by omega)
    have hp : valE (pts.getD j []) = 0 := hv _ (mem_getD (by omega))
    obtain ⟨v1, v2, _⟩ := valid_facts hp
    have := ins_len (valid_down hp) (show (pts.getD j []).length - 1 < (pts.getD j []).length by omega) (joinO_good (pts.take j))
    rw [(join_next pts j (by omega)).1]
    omega
/-- The first error of the parts. -/
def firstE (pts : List (List Nd)) : Int := match pts.find? (fun p => valE p != 0) with | some p => valE p | none => 0
theorem firstE_hit {pts : List (List Nd)} {j : Nat} (hj : j < pts.length) (h : ∀ i, i < j → valE (pts.getD i []) = 0) (hb : valE (pts.getD j []) ≠ 0) : firstE pts = valE (pts.getD j []) := by
  unfold firstE
  have e : pts = pts.take j ++ pts.getD j [] :: pts.drop (j + 1) := by
    conv => lhs; rw [← List.take_append_drop j pts]
    rw [List.drop_eq_getElem_cons hj, List.getD_eq_getElem?_getD, List.getElem?_eq_getElem hj]; rfl
  have hn : List.find? (fun p => valE p != 0) (pts.take j) = none := by
    rw [List.find?_eq_none]
    intro p hp
    obtain ⟨i, hi, rfl⟩ := List.getElem_of_mem hp
    rw [List.length_take] at hi
    have := h i (by omega)
    rw [List.getD_eq_getElem?_getD, List.getElem?_eq_getElem (by omega)] at this
    rw [List.getElem_take]
    have h2 : valE pts[i] = 0 := this
    simp [h2]
  rw [e, List.find?_append, hn, List.find?_cons_of_pos (by simpa using hb)]
  simp only [Option.none_or]
  rw [← e]
theorem firstE_none {pts : List (List Nd)} (h : ∀ i, i < pts.length → valE (pts.getD i []) = 0) : firstE pts = 0 := by
  unfold firstE
  have hn : List.find? (fun p => valE p != 0) pts = none := by
    rw [List.find?_eq_none]
    intro p hp
    obtain ⟨i, hi, rfl⟩ := List.getElem_of_mem hp
    have := h i hi
    rw [List.getD_eq_getElem?_getD, List.getElem?_eq_getElem hi] at this
    have h2 : valE pts[i] = 0 := this
    simp [h2]
  rw [hn]
/-- The error of Join. -/
def joinE (op width imm : Int) (pts : List (List Nd)) : Int := if firstE pts ≠ 0 then firstE pts else if arV op = -1 then 1 else valE (outJ op width imm pts)
def joinL (op width imm : Int) (pts : List (List Nd)) : List Nd := if joinE op width imm pts = 0 then outJ op width imm pts else []
/-- A root of more than three Args. -/
theorem join_many {op width imm : Int} {pts : List (List Nd)} (h3 : 3 < pts.length) (ha : arV op ≠ -1) (hK : ∀ x ∈ joinO pts, x.args.length ≤ 3) : valE (outJ op width imm pts) = if 300 ≤ (joinO pts).length then 3 else 1 := by
  have hnew : (⟨op, width, 0, joinA pts, imm⟩ : Nd) ∉ joinO pts := fun hm => by
    have h1 := hK _ hm
    have h2 := joinA_len pts
    simp only at h1
    omega
  have hout : outJ op width imm pts = joinO pts ++ [⟨op, width, 0, joinA pts, imm⟩] := by
    show (insT (joinT op width imm pts) []).1 = _
    rw [outJ_add]; unfold addN; rw [if_neg hnew]
  rw [hout]
  by_cases c : 300 ≤ (joinO pts).length
  · rw [if_pos c]; exact valE_3 (by simp; omega)
  · rw [if_neg c]
    refine valE_1 (by simp; omega) (okS_bad (j := (joinO pts).length) (by simp) ?_)
    rw [Bool.eq_false_iff]
    intro hs
    rw [List.getD_eq_getElem?_getD, List.getElem?_append_right (Nat.le_refl _), Nat.sub_self] at hs
    have h1 := (shaped_facts hs).1
    have h2 := joinA_len pts
    have h4 := arV_cases op
    change ((joinA pts).length : Int) = arV op at h1
    omega

/-! ### the answer's way: all nodes one behind the other -/
def ovr (p : List Nd) (n : Nat) : List Nd := p.map fun x => ⟨x.op, x.width, x.flags, x.args.map (· + (n : Int)), x.imm⟩
theorem ovr_len (p : List Nd) (n : Nat) : (ovr p n).length = p.length := by unfold ovr; simp
theorem ovr_nd {p : List Nd} {n k : Nat} (h : k < p.length) : (ovr p n).getD k default = ⟨(nd p k).op, (nd p k).width, (nd p k).flags, (nd p k).args.map (· + (n : Int)), (nd p k).imm⟩ := by
  unfold ovr nd
  rw [List.getD_eq_getElem?_getD, List.getElem?_map, List.getD_eq_getElem?_getD, List.getElem?_eq_getElem h]; rfl
theorem nd_ovr {o p : List Nd} {k : Nat} (h : k < p.length) : nd (o ++ ovr p o.length) (o.length + k) = ⟨(nd p k).op, (nd p k).width, (nd p k).flags, (nd p k).args.map (· + (o.length : Int)), (nd p k).imm⟩ := by
  rw [← ovr_nd h]
  unfold nd
  rw [List.getD_eq_getElem?_getD, List.getElem?_append_right (by omega), List.getD_eq_getElem?_getD]
  congr 2
  omega
theorem down_ovr {o p : List Nd} (ho : Down o) (hp : Down p) : Down (o ++ ovr p o.length) := by
  intro k hk a ha
  rw [List.length_append, ovr_len] at hk
  by_cases h : k < o.length
  · rw [nd_pre h] at ha; exact ho k h a ha
  · obtain ⟨j, rfl⟩ : ∃ j, k = o.length + j := ⟨k - o.length, by omega⟩
    rw [nd_ovr (by omega)] at ha
    obtain ⟨b, hb, rfl⟩ := List.mem_map.1 (show a ∈ (nd p j).args.map (· + (o.length : Int)) from ha)
    have := hp j (by omega) b hb
    omega
theorem tree_ovr {o p : List Nd} (ho : Down o) (hp : Down p) : ∀ (j : Nat), j < p.length → tree (o ++ ovr p o.length) (o.length + j) = tree p j := by
  intro j
  induction j using Nat.strongRecOn with
  | _ j ih =>
    intro hj
    rw [tree_eq (down_ovr ho hp) (by rw [List.length_append, ovr_len]; omega), tree_eq hp hj, nd_ovr hj]
    simp only [Tr.mk.injEq, true_and, and_true, List.map_map]
    refine List.map_congr_left fun a ha => ?_
    have h := hp j hj a ha
    have e : ((a + (o.length : Int))).toNat = o.length + a.toNat := by omega
    show tree _ ((a + (o.length : Int))).toNat = _
    rw [e]
    exact ih a.toNat (by omega) (by omega)
/-- All nodes of the parts, and where each part ends. -/
def allJ : List (List Nd) → List Nd × List Int
  | pts => pts.foldl (fun c p => (c.1 ++ ovr p c.1.length, c.2 ++ [((c.1.length + p.length : Nat) : Int) - 1])) ([], [])
theorem allJ_next (pts : List (List Nd)) (j : Nat) (h : j < pts.length) : allJ (pts.take (j + 1)) = ((allJ (pts.take j)).1 ++ ovr (pts.getD j []) (allJ (pts.take j)).1.length, (allJ (pts.take j)).2 ++ [(((allJ (pts.take j)).1.length + (pts.getD j []).length : Nat) : Int) - 1]) := by
  unfold allJ
  rw [List.take_succ_eq_append_getElem h, List.foldl_append, List.getD_eq_getElem?_getD, List.getElem?_eq_getElem h]; rfl
structure AllOk (pts : List (List Nd)) (c : List Nd × List Int) : Prop where
  down : Down c.1
  rng : ∀ a ∈ c.2, 0 ≤ a ∧ a < (c.1.length : Int)
  trs : c.2.map (fun a => tree c.1 a.toNat) = trs pts
  len : c.1.length ≤ 300 * pts.length
  cnt : c.2.length = pts.length
  imm : ∀ x ∈ c.1, 0 ≤ x.imm ∧ x.imm ≤ 4294967295
  short : ∀ x ∈ c.1, x.args.length ≤ 3
theorem allJ_ok (pts : List (List Nd)) (hv : ∀ p ∈ pts, valE p = 0) (hI : ∀ p ∈ pts, ∀ x ∈ p, 0 ≤ x.imm ∧ x.imm ≤ 4294967295) : ∀ j, j ≤ pts.length → AllOk (pts.take j) (allJ (pts.take j))
  | 0, _ => ⟨fun k hk => by simp [allJ] at hk, fun a ha => by simp [allJ] at ha, by simp [allJ, Go.Proofs.Ythopdfikikdcbaa.trs], by simp [allJ], by simp [allJ], fun x hx => by simp [allJ] at hx, fun x hx => by simp [allJ] at hx⟩
  | j + 1, h => by
    have ih := allJ_ok pts hv hI j (by omega)
    have hp : valE (pts.getD j []) = 0 := hv _ (mem_getD (by omega))
    have hpi := hI (pts.getD j []) (mem_getD (by omega))
    obtain ⟨v1, v2, _⟩ := valid_facts hp
    have hpd := valid_down hp
    have ht := trs_take pts j (by omega)
    rw [allJ_next pts j (by omega)]
    have hs : ∀ k, k < (pts.getD j []).length → (nd (pts.getD j []) k).args.length ≤ 3 := fun k hk => by
      have ho := nodeOk hp hk
      have hc := arV_cases (nd (pts.getD j []) k).op
      have h1 := ho.len
      change ((nd (pts.getD j []) k).args.length : Int) = arV (nd (pts.getD j []) k).op at h1
      omega
    generalize pts.getD j [] = p at *
    have hmem : ∀ (P : Nd → Prop), (∀ x ∈ (allJ (pts.take j)).1, P x) → (∀ x ∈ p, ∀ l, l.length = x.args.length → P ⟨x.op, x.width, x.flags, l, x.imm⟩) → ∀ x ∈ (allJ (pts.take j)).1 ++ ovr p (allJ (pts.take j)).1.length, P x := by
      intro P h1 h2 x hx
      rcases List.mem_append.1 hx with hx | hx
      · exact h1 x hx
      · obtain ⟨y, hy, rfl⟩ := List.mem_map.1 (show x ∈ p.map _ from hx)
        exact h2 y hy _ (by simp)
    refine ⟨down_ovr ih.down hpd, ?_, ?_, ?_, ?_, hmem _ ih.imm (fun x hx l _ => hpi x hx), hmem _ ih.short (fun x hx l hl => ?_)⟩
    · intro a ha
      simp only [List.length_append, ovr_len]
      rcases List.mem_append.1 ha with ha | ha
      · have := ih.rng a ha; omega
      · simp at ha; omega
    · rw [List.map_append, ht, ← ih.trs]
      congr 1
      · refine List.map_congr_left fun a ha => ?_
        have := ih.rng a ha
        exact tree_pre ih.down _ (by omega)
      · show [tree _ ((((allJ (pts.take j)).1.length + p.length : Nat) : Int) - 1).toNat] = _
        rw [show ((((allJ (pts.take j)).1.length + p.length : Nat) : Int) - 1).toNat = (allJ (pts.take j)).1.length + (p.length - 1) by omega, tree_ovr ih.down hpd _ (by omega)]
    · have := ih.len
      simp only [List.length_append, ovr_len, List.length_take] at this ⊢
      omega
    · have := ih.cnt
      simp only [List.length_append, List.length_singleton, List.length_take] at this ⊢
      omega
    · obtain ⟨i, hi, rfl⟩ := List.getElem_of_mem hx
      have := hs i hi
      unfold nd at this
      rw [List.getD_eq_getElem?_getD, List.getElem?_eq_getElem hi] at this
      rw [hl]; exact this
theorem nd_last (o : List Nd) (x : Nd) : nd (o ++ [x]) o.length = x := by
  unfold nd; rw [List.getD_eq_getElem?_getD, List.getElem?_append_right (Nat.le_refl _), Nat.sub_self]; rfl
theorem down_snoc {o : List Nd} {x : Nd} (ho : Down o) (hx : ∀ a ∈ x.args, 0 ≤ a ∧ a < (o.length : Int)) : Down (o ++ [x]) := by
  intro k hk a ha
  rw [List.length_append, List.length_singleton] at hk
  by_cases h : k < o.length
  · rw [nd_pre h] at ha; exact ho k h a ha
  · obtain rfl : k = o.length := by omega
    rw [nd_last] at ha
    exact hx a ha
theorem tree_snoc {o : List Nd} {x : Nd} (ho : Down o) (hx : ∀ a ∈ x.args, 0 ≤ a ∧ a < (o.length : Int)) : tree (o ++ [x]) o.length = .mk x.op x.width x.flags (x.args.map fun a => tree o a.toNat) x.imm := by
  rw [tree_eq (down_snoc ho hx) (by simp), nd_last]
  congr 1
  refine List.map_congr_left fun a ha => ?_
  have := hx a ha
  exact tree_pre ho _ (by omega)
/-- The answer's nodes, shared from the root. -/
theorem allJ_share (op width imm : Int) {pts : List (List Nd)} (hv : ∀ p ∈ pts, valE p = 0) (hI : ∀ p ∈ pts, ∀ x ∈ p, 0 ≤ x.imm ∧ x.imm ≤ 4294967295) :
    Down ((allJ pts).1 ++ [⟨op, width, 0, (allJ pts).2, imm⟩]) ∧ shr ((allJ pts).1 ++ [⟨op, width, 0, (allJ pts).2, imm⟩]) (allJ pts).1.length = outJ op width imm pts := by
  have h := allJ_ok pts hv hI pts.length (Nat.le_refl _)
  rw [List.take_length] at h
  have hd := down_snoc (x := ⟨op, width, 0, (allJ pts).2, imm⟩) h.down h.rng
  refine ⟨hd, ?_⟩
  rw [shr_ins hd (by simp), tree_snoc h.down h.rng]
  show (insT (Tr.mk op width 0 ((allJ pts).2.map fun a => tree (allJ pts).1 a.toNat) imm) []).1 = _
  rw [h.trs]
  rfl
end Go.Proofs.Ythopdfikikdcbaa
