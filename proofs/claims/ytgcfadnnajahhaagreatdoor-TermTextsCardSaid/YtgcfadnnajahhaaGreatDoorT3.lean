/- -/
import Derived.Deep.RegionHeld3
import Derived.Laws.AppendOwnNone
import Derived.Deep.LoopGhost
import Derived.Deep.RegionLaw
import Derived.Deep.AppendLies
import Derived.Deep.DeepMust
import Derived.Deep.Cut
import Derived.Test.YtgcfadnnajahhaaGreatDoorRows
import Derived.WalkKit
import Derived.ProofKit
import Derived.OpenShut
import Derived.Below
import Derived.ChangeSame
import Derived.Lib.SmallJoins
import Derived.Deep.Slices
import Derived.SizedLaws
import Derived.DataReads
import Derived.ChangeSlices
import Derived.Test.YtgcfadnnajahhaaGreatDoorT1
import Derived.Test.YtgcfadnnajahhaaGreatDoorT2
set_option maxHeartbeats 1000000
set_option maxRecDepth 100000
namespace Go.Proofs.YtgcfadnnajahhaaGreatDoor
open Go.RowKit Wd
set_option linter.unusedVariables false
set_option linter.unusedSimpArgs false
def Keep (w0 W0 : World) (B j : Nat) (w : World) : Prop :=
  (W0.heap.size ≤ w.heap.size ∧ (∀ b o, b < W0.heap.size → ¬ (b = B ∧ o = j) → w.cell? ⟨b, o, none⟩ = W0.cell? ⟨b, o, none⟩) ∧ (∀ b o, b < W0.heap.size → w.frozen? ⟨b, o, none⟩ = W0.frozen? ⟨b, o, none⟩) ∧ ∃ v, w.cell? ⟨B, j, none⟩ = some v) ∧ Below w0.heap.size w0 w
theorem Keep.refl {w0 W0 : World} {B j : Nat} {v : Value} (h : W0.cell? ⟨B, j, none⟩ = some v) (hb : Below w0.heap.size w0 W0) : Keep w0 W0 B j W0 := ⟨⟨Nat.le_refl _, fun _ _ _ _ => rfl, fun _ _ _ => rfl, v, h⟩, hb⟩
theorem Keep.drew {w0 W0 : World} {B j : Nat} {w : World} (h : Keep w0 W0 B j w) : Keep w0 W0 B j w.drew := ⟨h.1, h.2.drew⟩
theorem Keep.drewN {w0 W0 : World} {B j : Nat} {w : World} (h : Keep w0 W0 B j w) (n : Nat) : Keep w0 W0 B j (w.drewN n) := ⟨h.1, below_drewN h.2 n⟩
theorem Keep.below {w0 W0 : World} {B j : Nat} {w w' : World} (h : Keep w0 W0 B j w) (hb : Below w.heap.size w w') : Keep w0 W0 B j w' := by
  obtain ⟨⟨h1, h2, h3, v, h4⟩, h5⟩ := h
  refine ⟨⟨Nat.le_trans h1 hb.size, fun b o hlt hne => ?_, fun b o hlt => ?_, v, ?_⟩, below_hop h5 hb⟩
  · rw [← h2 b o hlt hne]; exact hb.cell (p := ⟨b, o, none⟩) (Nat.lt_of_lt_of_le hlt h1)
  · rw [← h3 b o hlt]; exact hb.frozen (p := ⟨b, o, none⟩) (Nat.lt_of_lt_of_le hlt h1)
  · rw [← h4]; exact hb.cell (p := ⟨B, j, none⟩) (cell_lt h4)
theorem Keep.dr {w0 W0 : World} {B j : Nat} {w w' : World} (h : Keep w0 W0 B j w) (hd : Dr w w') : Keep w0 W0 B j w' := by
  obtain ⟨n, rfl⟩ := hd
  exact h.drewN n
theorem Keep.store {w0 W0 : World} {B j : Nat} {w : World} (h : Keep w0 W0 B j w) (hB : w0.heap.size ≤ B) (u : Value) : Keep w0 W0 B j (w.setCell ⟨B, j, none⟩ u) := by
  obtain ⟨⟨h1, h2, h3, v, h4⟩, h5⟩ := h
  refine ⟨⟨by simpa using h1, fun b o hlt hne => ?_, fun b o hlt => ?_, u, World.cell?_setCell_same _ _ _ h4⟩, below_at h5 hB _ _⟩
  · rw [← h2 b o hlt hne, World.cell?_setCell_other _ _ _ _ (by intro e; cases e; exact hne ⟨rfl, rfl⟩)]
  · rw [← h3 b o hlt, World.frozen?_setCell]
theorem Keep.cell {w0 W0 : World} {B j : Nat} {w : World} (h : Keep w0 W0 B j w) {b o : Nat} {v : Value} (hc : W0.cell? ⟨b, o, none⟩ = some v) (hne : ¬ (b = B ∧ o = j)) : w.cell? ⟨b, o, none⟩ = some v := by
  rw [← hc]; exact h.1.2.1 b o (cell_lt hc) hne
theorem Keep.free {w0 W0 : World} {B j : Nat} {w : World} (h : Keep w0 W0 B j w) (hB : B < W0.heap.size) (hf : W0.frozen? ⟨B, j, none⟩ = false) : w.frozen? ⟨B, j, none⟩ = false := by
  rw [← hf]; exact h.1.2.2.1 B j hB
def cellNow (b o : Nat) (w : World) : Value := (w.cell? ⟨b, o, none⟩).getD undef
theorem Keep.now {w0 W0 : World} {B j : Nat} {w : World} (h : Keep w0 W0 B j w) : w.cell? ⟨B, j, none⟩ = some (cellNow B j w) := by
  obtain ⟨⟨_, _, _, v, h4⟩, _⟩ := h
  unfold cellNow
  rw [h4]; rfl
theorem cell_of_store {w : World} {B j : Nat} {u v : Value} (h : (w.setCell ⟨B, j, none⟩ u).cell? ⟨B, j, none⟩ = some v) : ∃ x, w.cell? ⟨B, j, none⟩ = some x := by
  simp only [World.cell?, World.setCell, Array.getElem?_modify, if_true] at h ⊢
  cases hb : w.heap[B]? with
  | none => rw [hb] at h; simp at h
  | some ob =>
    rw [hb] at h
    cases ob <;> simp at h ⊢
    rename_i c e f
    rw [Array.getElem?_setIfInBounds] at h
    by_cases hj : j < c.size
    · exact ⟨c[j], by rw [Array.getElem?_eq_getElem hj]⟩
    · simp [hj] at h
theorem OInts.keepset {k : IntKind} {w0 W0 w : World} {B j : Nat} {L : List Int} {x : Int} (h : OInts k W0 B L) (hk : Keep w0 W0 B j (w.setCell ⟨B, j, none⟩ (.int k x))) (hj : j < L.length) : OInts k (w.setCell ⟨B, j, none⟩ (.int k x)) B (L.set j x) := by
  refine ⟨Nat.lt_of_lt_of_le h.1 hk.1.1, fun i hi => ?_⟩
  rw [List.length_set] at hi
  refine ⟨?_, by rw [hk.1.2.2.1 B i h.1]; exact h.free hi⟩
  by_cases e : j = i
  · subst e
    obtain ⟨y, hy⟩ := cell_of_store hk.now
    rw [World.cell?_setCell_same _ _ _ hy, getD_set_self hi]
  · rw [getD_set_ne e]
    exact hk.cell (h.cell hi) (by rintro ⟨_, hh⟩; exact e hh.symm)
theorem cell_alloc {w : World} {ob : Obj} {b o : Nat} {v : Value} (h : w.cell? ⟨b, o, none⟩ = some v) : (w.alloc ob).cell? ⟨b, o, none⟩ = some v := below_cell ((Below.refl _ _).alloc (Nat.le_refl _) _) (cell_lt h) h
theorem cell_store {w : World} {B j b o : Nat} {u v : Value} (h : w.cell? ⟨b, o, none⟩ = some v) (hne : ¬ (b = B ∧ o = j)) : (w.setCell ⟨B, j, none⟩ u).cell? ⟨b, o, none⟩ = some v := by
  rw [World.cell?_setCell_other _ _ _ _ (by intro e; cases e; exact hne ⟨rfl, rfl⟩)]; exact h
theorem OInts.keep {k : IntKind} {w0 W0 w : World} {B j : Nat} {L : List Int} (h : OInts k W0 B L) (hk : Keep w0 W0 B j w) (hc : w.cell? ⟨B, j, none⟩ = W0.cell? ⟨B, j, none⟩) : OInts k w B L := by
  refine ⟨Nat.lt_of_lt_of_le h.1 hk.1.1, fun i hi => ⟨?_, by rw [hk.1.2.2.1 B i h.1]; exact h.free hi⟩⟩
  by_cases e : j = i
  · subst e; rw [hc]; exact h.cell hi
  · exact hk.cell (h.cell hi) (by rintro ⟨_, hh⟩; exact e hh.symm)
theorem Since.drew {w0 w : World} (h : Since w0 w) : Since w0 w.drew := Below.drew h
theorem Since.dr {w0 w w' : World} (h : Since w0 w) (hd : Dr w w') : Since w0 w' := below_hop h (hd.below _)
theorem Since.next {w0 w w' : World} (h : Since w0 w) (hb : Below w.heap.size w w') : Since w0 w' := below_hop h hb
theorem Since.cell {w0 w : World} (h : Since w0 w) {b o : Nat} {v : Value} (hc : w0.cell? ⟨b, o, none⟩ = some v) : w.cell? ⟨b, o, none⟩ = some v := below_cell h (cell_lt hc) hc
theorem Since.free {w0 w : World} (h : Since w0 w) {b o : Nat} (hb : b < w0.heap.size) (hf : w0.frozen? ⟨b, o, none⟩ = false) : w.frozen? ⟨b, o, none⟩ = false := by rw [← hf]; exact Below.frozen (p := ⟨b, o, none⟩) h hb
theorem info_u32 : (Tryz.prog.info? 31).map (fun i => (i.zero, i.size, i.bytes)) = some (some (.int .u32 0), 1, 4) := by kernel_rfl
def vL (ts : List Nd) (env : List Int) (j : Nat) : List Int := valsF ts env (ts.take j) ++ List.replicate (ts.length - j) 0
theorem vL_len {ts : List Nd} {env : List Int} {j : Nat} (h : j ≤ ts.length) : (vL ts env j).length = ts.length := by
  unfold vL; rw [List.length_append, valsF_take_len h, List.length_replicate]; omega
theorem vL_get {ts : List Nd} {env : List Int} {j a : Nat} (h : j ≤ ts.length) (ha : a < j) : (vL ts env j).getD a 0 = (valsF ts env (ts.take j)).getD a 0 := by
  unfold vL; rw [getD_append_lt (by rw [valsF_take_len h]; exact ha)]
theorem vL_at {ts : List Nd} {env : List Int} {j : Nat} (h : j < ts.length) : (vL ts env j).getD j 0 = 0 := by
  unfold vL
  rw [List.getD_eq_getElem?_getD, List.getElem?_append_right (by rw [valsF_take_len (by omega)]; omega), valsF_take_len (by omega), Nat.sub_self, List.getElem?_replicate]
  split <;> rfl
theorem vL_set {ts : List Nd} {env : List Int} {j : Nat} (h : j < ts.length) : (vL ts env j).set j (vNode ts env (valsF ts env (ts.take j)) (ts.getD j default)) = vL ts env (j + 1) := by
  unfold vL
  rw [vals_snoc ts env j h, List.set_append_right _ _ (by rw [valsF_take_len (by omega)]; omega), valsF_take_len (by omega), Nat.sub_self]
  have e : ts.length - j = (ts.length - (j + 1)) + 1 := by omega
  rw [e, List.replicate_succ, List.set_cons_zero, List.append_assoc]
  rfl
set_option maxHeartbeats 16000000 in
theorem values_any (ts : List Nd) (env : List Int) (tv ev : Value) (w : World) (hts : Nds w tv ts) (hev : Ints .u32 w ev env) (hz : valE ts = 0) (hi : ∀ x ∈ ts, 0 ≤ x.imm ∧ x.imm ≤ 4294967295) (he : EnvOk ts env) : Calls Tryz.prog 117 #[tv, ev] w fun e w' => ∃ v, e = .returned v ∧ Ints .u32 w' v (vals ts env) ∧ Below w.heap.size w w' := by
  have HT := Lib.hid hts
  have HI := Lib.hid hi
  have HE := Lib.hid hev
  have HZ := Lib.hid hz
  have HEO := Lib.hid he
  have hlen : 1 ≤ ts.length ∧ ts.length ≤ 300 := ⟨(valid_facts hz).1, (valid_facts hz).2.1⟩
  obtain ⟨hl1, hl2⟩ := hlen
  have hl4 := he.1
  obtain ⟨ta, tc, rfl, ht1, ht2⟩ := hts.shape
  obtain ⟨ea, ec, rfl, he1, he2⟩ := hev.shape
  clear hi hts hev hz he
  obtain ⟨i0, hi0, hz0, hz1, hz2⟩ := info_parts info_u32
  go_enter Tryz.func117, Tryz.ntmps117
  go_wp2_with (at_make; refine wpList_make_full _ rfl _ _ 32 rfl (w.heap.size) 31 i0 (.int .u32 0) 1 Tryz.underlying32 hi0 hz0 hz1 .i64 .i64 _ _ ts.length rfl rfl rfl rfl ?d1 ?d2 ?d3 ?_)
  case d1 => rw [hz2]; omega
  case d2 => unfold maxLen; omega
  case d3 => exact Nat.le_refl _
  intro w2 hown hgr
  have hO : OInts .u32 w2 w.heap.size (vL ts env 0) := (OInts.made hown : OInts .u32 w2 w.heap.size (List.replicate ts.length 0))
  have hb2 := below_made hgr
  have hbs2 := hO.1
  have HB2 := Lib.hid (And.intro hO hb2)
  clear hown hgr hO hb2
  obtain ⟨bo, hbo⟩ : ∃ bo, bo = w2.heap.size := ⟨_, rfl⟩
  have HBO := Lib.hid hbo
  go_wp2_with fail
  go_loopw [16] (fun i wr => ∃ j : Nat, j ≤ ts.length ∧ i = .int .i64 j ∧ OInts .u32 wr w.heap.size (vL ts env j) ∧ wr.cell? ⟨w2.heap.size, 0, none⟩ = some (.slice (some ⟨w.heap.size, 0, none⟩) ts.length ts.length) ∧ Below w.heap.size w wr) (fun i _ => ts.length - (intOf i).toNat)
  case atStart => exact ⟨0, Nat.zero_le _, rfl, HB2.out.1.alloc _, by simp [go_sem], HB2.out.2.alloc (by omega) _⟩
  case round =>
    obtain ⟨j, hj, rfl, ho, hbox, hb⟩ := hrel
    have hBs := ho.1
    have hbos := cell_lt hbox
    have HO := Lib.hid ho
    have HB := Lib.hid hb
    have hbs := hb.size
    by_cases hlt : j < ts.length
    · obtain ⟨b, q, c', av, e', _, hbq, hav, c0, c1, c2, c3, c4⟩ := HT.out.at2 hb hlt
      cases e'
      have HN := Lib.hid (nodeOk HZ.out hlt)
      have hAV := hav.stays hb
      have HAV := Lib.hid hAV
      have HAVW := Lib.hid hav
      have HW := Lib.hid (vals_words HZ.out HI.out HEO.out j hj)
      have HG := Lib.hid (fun a => @vL_get ts env j a hj)
      have HL := Lib.hid (@vL_len ts env j hj)
      have HS := Lib.hid (@vL_set ts env j hlt)
      have HD0 := Lib.hid (set_at (@vL_at ts env j hlt) (by rw [HL.out]; exact hlt))
      have hI := HI.out _ (mem_getD hlt)
      have hfree := ho.free (i := j) (by rw [vL_len hj]; exact hlt)
      have hcellj := ho.cell (i := j) (by rw [vL_len hj]; exact hlt)
      clear hb hav
      generalize (vL ts env j).getD j 0 = old at hcellj
      generalize vL ts env j = L at *
      generalize valsF ts env (ts.take j) = acc at *
      generalize ts.getD j default = x at *
      obtain ⟨op, width, flags, args, imm⟩ := x
      simp only at c0 c1 c2 c3 c4 hAV hI
      obtain ⟨aa, ac, rfl, ha1, _⟩ := hAV.shape
      clear ho hAV
      have hK0 : Keep w (wr.alloc (.cells #[.int .i64 op, .int .i64 width, .int .i64 flags, .slice aa args.length ac, .int .u32 imm] 65)) w.heap.size j (wr.alloc (.cells #[.int .i64 op, .int .i64 width, .int .i64 flags, .slice aa args.length ac, .int .u32 imm] 65)) := by
        exact Keep.refl (v := .int .u32 old) (below_cell ((Below.refl _ _).alloc (Nat.le_refl _) _) hBs hcellj) (HB.out.alloc (by omega) _)
      by_cases o0 : op = 0
      · subst o0
        have HVN : Hid (vNode ts env acc ⟨0, width, flags, args, imm⟩ = imm) := by
          show _ = _
          simp only [vNode]
          rfl
        clear hK0
        go_wp2_with fail
        go_roundw
        case rel => exact ⟨j + 1, by omega, by go_num, by rw [← HS.out, HVN.out]; exact (HO.out.set (by rw [HL.out]; exact hlt) imm).alloc _, cell_alloc (cell_store hbox (by omega)), (below_at HB.out (Nat.le_refl _) _ _).alloc (by simp; omega) _⟩
        case measure => simp [intOf]; omega
      by_cases o33 : op = 33
      · subst o33
        obtain ⟨k, rfl⟩ := Int.eq_ofNat_of_zero_le hI.1
        have hk4 : k < 4 := by have := HN.out.imm; unfold immOk at this; rw [if_neg (by simp), if_pos rfl] at this; simp at this; omega
        obtain ⟨eb, eo, ec2, ee, _, heb, ecell⟩ := (HE.out.stays HB.out).at (show k < env.length by rw [hl4]; exact hk4)
        cases ee
        have HVN : Hid (vNode ts env acc ⟨33, width, flags, args, (k : Int)⟩ = env.getD k 0) := by
          show _ = _
          simp only [vNode]
          rfl
        generalize env.getD k 0 = y at *
        have HL4 := Lib.hid hl4
        clear hl4 hK0 o0 hI
        go_wp2_with fail
        go_region
        all_goals go_wp2_with fail
        go_roundw
        case rel => exact ⟨j + 1, by omega, by go_num, by rw [← HS.out, HVN.out]; exact ((HO.out.set (by rw [HL.out]; exact hlt) y).alloc _), cell_alloc (cell_store hbox (by omega)), ((below_at HB.out (Nat.le_refl _) _ _).alloc (by simp; omega) _).drew⟩
        case measure => simp [intOf]; omega
      by_cases o14 : op = 14
      · subst o14
        have hlen : args.length = 2 := by have := HN.out.len; simp only at this; have h14 : arV 14 = 2 := rfl; omega
        have HR := Lib.hid HN.out.rng
        simp only at HR
        have hn0 : 0 < args.length := by omega
        have hn1 : 1 < args.length := by omega
        have HN2 := Lib.hid hlen
        clear hlen
        have hr0 := HR.out 0 hn0
        obtain ⟨m0, hm0⟩ := Int.eq_ofNat_of_zero_le hr0.1
        have hj0 : m0 < j := by omega
        have hmt0 : m0 < ts.length := by omega
        have y0 := HO.out.cell (i := m0) (by rw [HL.out]; omega)
        rw [HG.out m0 hj0] at y0
        have b0 := HW.out m0 hj0
        have p0 := @pw_le32 (ts.getD m0 default).width (nodeOk HZ.out hmt0).wid.2
        have u0 : 0 ≤ acc.getD m0 0 := b0.1
        have v0 : acc.getD m0 0 ≤ 4294967295 := by omega
        have hr1 := HR.out 1 hn1
        obtain ⟨m1, hm1⟩ := Int.eq_ofNat_of_zero_le hr1.1
        have hj1 : m1 < j := by omega
        have hmt1 : m1 < ts.length := by omega
        have y1 := HO.out.cell (i := m1) (by rw [HL.out]; omega)
        rw [HG.out m1 hj1] at y1
        have b1 := HW.out m1 hj1
        have p1 := @pw_le32 (ts.getD m1 default).width (nodeOk HZ.out hmt1).wid.2
        have u1 : 0 ≤ acc.getD m1 0 := b1.1
        have v1 : acc.getD m1 0 ≤ 4294967295 := by omega
        have HVN : Hid (vNode ts env acc ⟨14, width, flags, args, imm⟩ = if coX imm (wdt ts args 0) (acc.getD m0 0) (acc.getD m1 0) = true then 1 else 0) := by
          show _ = _
          simp only [vNode, vArg, if_true, if_false, hm0, hm1, Int.toNat_natCast] <;> rfl
        generalize acc.getD m0 0 = a0 at *
        generalize acc.getD m1 0 = a1 at *
        have HM := Lib.hid (And.intro hm0 hm1)
        clear hr0 b0 p0 hm0 hr1 b1 p1 hm1
        clear o0 o33
        cases hco : coX imm (wdt ts args 0) a0 a1
        · rw [hco] at HVN
          go_wp2_with fail
          have hal : Below wr.heap.size wr (wr.alloc (.cells #[.int .i64 14, .int .i64 width, .int .i64 flags, .slice aa args.length ac, .int .u32 imm] 65)) := (Below.refl _ _).alloc (Nat.le_refl _) _
          have kj := below_cell hal hBs hcellj
          have k5 := below_cell hal hbos hbox
          have ky0 := below_cell hal hBs y0
          have ky1 := below_cell hal hBs y1
          have k8 : (wr.alloc (.cells #[.int .i64 14, .int .i64 width, .int .i64 flags, .slice aa args.length ac, .int .u32 imm] 65)).frozen? ⟨w.heap.size, j, none⟩ = false := by rw [← hfree]; exact hal.frozen (p := ⟨w.heap.size, j, none⟩) hBs
          have k9 : (wr.alloc (.cells #[.int .i64 14, .int .i64 width, .int .i64 flags, .slice aa args.length ac, .int .u32 imm] 65)).heap.size = wr.heap.size + 1 := by simp
          have x0 : (wr.alloc (.cells #[.int .i64 14, .int .i64 width, .int .i64 flags, .slice aa args.length ac, .int .u32 imm] 65)).cell? ⟨wr.heap.size, 0, none⟩ = some (.int .i64 14) := by simp [go_sem]
          have x1 : (wr.alloc (.cells #[.int .i64 14, .int .i64 width, .int .i64 flags, .slice aa args.length ac, .int .u32 imm] 65)).cell? ⟨wr.heap.size, 1, none⟩ = some (.int .i64 width) := by simp [go_sem]
          have x3 : (wr.alloc (.cells #[.int .i64 14, .int .i64 width, .int .i64 flags, .slice aa args.length ac, .int .u32 imm] 65)).cell? ⟨wr.heap.size, 3, none⟩ = some (.slice aa args.length ac) := by simp [go_sem]
          have x4 : (wr.alloc (.cells #[.int .i64 14, .int .i64 width, .int .i64 flags, .slice aa args.length ac, .int .u32 imm] 65)).cell? ⟨wr.heap.size, 4, none⟩ = some (.int .u32 imm) := by simp [go_sem]
          have kO := HO.out.alloc (.cells #[.int .i64 14, .int .i64 width, .int .i64 flags, .slice aa args.length ac, .int .u32 imm] 65)
          generalize wr.alloc (.cells #[.int .i64 14, .int .i64 width, .int .i64 flags, .slice aa args.length ac, .int .u32 imm] 65) = W0 at *
          have HKO := Lib.hid kO
          have HB0 := Lib.hid hK0.2
          have h00 := Since.refl W0
          have r5 : ∀ wk, Since W0 wk → wk.cell? ⟨w2.heap.size, 0, none⟩ = some (.slice (some ⟨w.heap.size, 0, none⟩) ts.length ts.length) := fun wk h => h.cell k5
          have ry0 : ∀ wk, Since W0 wk → wk.cell? ⟨w.heap.size, m0, none⟩ = some (.int .u32 a0) := fun wk h => h.cell ky0
          have ry1 : ∀ wk, Since W0 wk → wk.cell? ⟨w.heap.size, m1, none⟩ = some (.int .u32 a1) := fun wk h => h.cell ky1
          have r8 : ∀ wk, Since W0 wk → wk.frozen? ⟨w.heap.size, j, none⟩ = false := fun wk h => h.free (by omega) k8
          have r0 : ∀ wk, Since W0 wk → wk.cell? ⟨wr.heap.size, 0, none⟩ = some (.int .i64 14) := fun wk h => h.cell x0
          have r1 : ∀ wk, Since W0 wk → wk.cell? ⟨wr.heap.size, 1, none⟩ = some (.int .i64 width) := fun wk h => h.cell x1
          have r3 : ∀ wk, Since W0 wk → wk.cell? ⟨wr.heap.size, 3, none⟩ = some (.slice aa args.length ac) := fun wk h => h.cell x3
          have r4 : ∀ wk, Since W0 wk → wk.cell? ⟨wr.heap.size, 4, none⟩ = some (.int .u32 imm) := fun wk h => h.cell x4
          have rj : ∀ wk, Since W0 wk → wk.cell? ⟨w.heap.size, j, none⟩ = some (.int .u32 old) := fun wk h => h.cell kj
          have rA : ∀ wk, Since W0 wk → Ints .i64 wk (.slice aa args.length ac) args := fun wk h => HAVW.out.stays (below_hop HB0.out h)
          obtain ⟨nb, nq, nc, nav, ne, _, hnb, _, _, _, _⟩ := HT.out.at2 (Below.refl _ _) hmt0
          cases ne
          have rN : ∀ wk, Since W0 wk → wk.cell? ⟨b, q + m0 * 5 + 1, none⟩ = some (.int .i64 (wdt ts args 0)) := fun wk h => by
            obtain ⟨nb', nq', nc', nav', ne', _, _, _, _, hn1, _⟩ := HT.out.at2 (below_hop HB0.out h) hmt0
            cases ne'
            rw [hn1]
            unfold wdt
            rw [HM.out.1, Int.toNat_natCast]
          obtain ⟨ab, ao, ae, _, _⟩ := HAVW.out.row hn0
          cases ae
          have rM : ∀ wk, Since W0 wk → wk.cell? ⟨ab, ao, none⟩ = some (.int .i64 m0) := fun wk h => by
            obtain ⟨ab', ao', ae', _, hc⟩ := (HAVW.out.stays (below_hop HB0.out h)).row hn0
            cases ae'
            have := hc 0 hn0
            rw [HM.out.1, Nat.add_zero] at this
            exact this
          clear k5 k8 x0 x1 x3 x4 kO hal hbox c0 c1 c2 c3 c4 hcellj hfree ky0 y0 ky1 y1
          have hjl : (j : Int) < ts.length := by omega
          have wI : IntKind.i64.wrap imm = imm := IntWalk.i64_in _ (by omega)
          go_region_held3 (fun wk => Since W0 wk) (first | assumption | exact Since.drew (by assumption) | exact Since.dr (by assumption) (by assumption) | exact Since.next (by assumption) (by assumption)) (first | (go_at_call 144; (with_reducible refine (varg_0 args m0 ts.length ts.length a0 _ _ _ _ _ (r5 _ (by assumption)) (r3 _ (by assumption)) (rA _ (by assumption)) hn0 HM.out.1 hmt0 ht2 (ry0 _ (by assumption))).mono ?_); rintro e w' ⟨rfl, hd⟩) | (go_at_call 144; (with_reducible refine (varg_1 args m1 ts.length ts.length a1 _ _ _ _ _ (r5 _ (by assumption)) (r3 _ (by assumption)) (rA _ (by assumption)) hn1 HM.out.2 hmt1 ht2 (ry1 _ (by assumption))).mono ?_); rintro e w' ⟨rfl, hd⟩) | (go_at_call 145; (with_reducible refine (pCompare imm (wdt ts args 0) a0 a1 u0 v0 u1 v1 _).mono ?_); rintro e w' ⟨rfl, hb⟩))
          clear wI
          go_wp2_with fail
          go_roundw
          case rel => exact ⟨j + 1, by omega, by go_num, by rw [← HS.out, HVN.out, if_neg (by decide), HD0.out]; exact HKO.out.below (show Since W0 _ by assumption), r5 _ (by assumption), below_hop HB0.out (show Since W0 _ by assumption)⟩
          case measure => simp [intOf]; omega
        · rw [hco] at HVN
          go_wp2_with fail
          have hal : Below wr.heap.size wr (wr.alloc (.cells #[.int .i64 14, .int .i64 width, .int .i64 flags, .slice aa args.length ac, .int .u32 imm] 65)) := (Below.refl _ _).alloc (Nat.le_refl _) _
          have kj := below_cell hal hBs hcellj
          have k5 := below_cell hal hbos hbox
          have ky0 := below_cell hal hBs y0
          have ky1 := below_cell hal hBs y1
          have k8 : (wr.alloc (.cells #[.int .i64 14, .int .i64 width, .int .i64 flags, .slice aa args.length ac, .int .u32 imm] 65)).frozen? ⟨w.heap.size, j, none⟩ = false := by rw [← hfree]; exact hal.frozen (p := ⟨w.heap.size, j, none⟩) hBs
          have k9 : (wr.alloc (.cells #[.int .i64 14, .int .i64 width, .int .i64 flags, .slice aa args.length ac, .int .u32 imm] 65)).heap.size = wr.heap.size + 1 := by simp
          have x0 : (wr.alloc (.cells #[.int .i64 14, .int .i64 width, .int .i64 flags, .slice aa args.length ac, .int .u32 imm] 65)).cell? ⟨wr.heap.size, 0, none⟩ = some (.int .i64 14) := by simp [go_sem]
          have x1 : (wr.alloc (.cells #[.int .i64 14, .int .i64 width, .int .i64 flags, .slice aa args.length ac, .int .u32 imm] 65)).cell? ⟨wr.heap.size, 1, none⟩ = some (.int .i64 width) := by simp [go_sem]
          have x3 : (wr.alloc (.cells #[.int .i64 14, .int .i64 width, .int .i64 flags, .slice aa args.length ac, .int .u32 imm] 65)).cell? ⟨wr.heap.size, 3, none⟩ = some (.slice aa args.length ac) := by simp [go_sem]
          have x4 : (wr.alloc (.cells #[.int .i64 14, .int .i64 width, .int .i64 flags, .slice aa args.length ac, .int .u32 imm] 65)).cell? ⟨wr.heap.size, 4, none⟩ = some (.int .u32 imm) := by simp [go_sem]
          have kO := HO.out.alloc (.cells #[.int .i64 14, .int .i64 width, .int .i64 flags, .slice aa args.length ac, .int .u32 imm] 65)
          generalize wr.alloc (.cells #[.int .i64 14, .int .i64 width, .int .i64 flags, .slice aa args.length ac, .int .u32 imm] 65) = W0 at *
          have HKO := Lib.hid kO
          have HB0 := Lib.hid hK0.2
          have h00 := Since.refl W0
          have r5 : ∀ wk, Since W0 wk → wk.cell? ⟨w2.heap.size, 0, none⟩ = some (.slice (some ⟨w.heap.size, 0, none⟩) ts.length ts.length) := fun wk h => h.cell k5
          have ry0 : ∀ wk, Since W0 wk → wk.cell? ⟨w.heap.size, m0, none⟩ = some (.int .u32 a0) := fun wk h => h.cell ky0
          have ry1 : ∀ wk, Since W0 wk → wk.cell? ⟨w.heap.size, m1, none⟩ = some (.int .u32 a1) := fun wk h => h.cell ky1
          have r8 : ∀ wk, Since W0 wk → wk.frozen? ⟨w.heap.size, j, none⟩ = false := fun wk h => h.free (by omega) k8
          have r0 : ∀ wk, Since W0 wk → wk.cell? ⟨wr.heap.size, 0, none⟩ = some (.int .i64 14) := fun wk h => h.cell x0
          have r1 : ∀ wk, Since W0 wk → wk.cell? ⟨wr.heap.size, 1, none⟩ = some (.int .i64 width) := fun wk h => h.cell x1
          have r3 : ∀ wk, Since W0 wk → wk.cell? ⟨wr.heap.size, 3, none⟩ = some (.slice aa args.length ac) := fun wk h => h.cell x3
          have r4 : ∀ wk, Since W0 wk → wk.cell? ⟨wr.heap.size, 4, none⟩ = some (.int .u32 imm) := fun wk h => h.cell x4
          have rj : ∀ wk, Since W0 wk → wk.cell? ⟨w.heap.size, j, none⟩ = some (.int .u32 old) := fun wk h => h.cell kj
          have rA : ∀ wk, Since W0 wk → Ints .i64 wk (.slice aa args.length ac) args := fun wk h => HAVW.out.stays (below_hop HB0.out h)
          obtain ⟨nb, nq, nc, nav, ne, _, hnb, _, _, _, _⟩ := HT.out.at2 (Below.refl _ _) hmt0
          cases ne
          have rN : ∀ wk, Since W0 wk → wk.cell? ⟨b, q + m0 * 5 + 1, none⟩ = some (.int .i64 (wdt ts args 0)) := fun wk h => by
            obtain ⟨nb', nq', nc', nav', ne', _, _, _, _, hn1, _⟩ := HT.out.at2 (below_hop HB0.out h) hmt0
            cases ne'
            rw [hn1]
            unfold wdt
            rw [HM.out.1, Int.toNat_natCast]
          obtain ⟨ab, ao, ae, _, _⟩ := HAVW.out.row hn0
          cases ae
          have rM : ∀ wk, Since W0 wk → wk.cell? ⟨ab, ao, none⟩ = some (.int .i64 m0) := fun wk h => by
            obtain ⟨ab', ao', ae', _, hc⟩ := (HAVW.out.stays (below_hop HB0.out h)).row hn0
            cases ae'
            have := hc 0 hn0
            rw [HM.out.1, Nat.add_zero] at this
            exact this
          clear k5 k8 x0 x1 x3 x4 kO hal hbox c0 c1 c2 c3 c4 hcellj hfree ky0 y0 ky1 y1
          have hjl : (j : Int) < ts.length := by omega
          have wI : IntKind.i64.wrap imm = imm := IntWalk.i64_in _ (by omega)
          go_region_held3 (fun wk => Since W0 wk) (first | assumption | exact Since.drew (by assumption) | exact Since.dr (by assumption) (by assumption) | exact Since.next (by assumption) (by assumption)) (first | (go_at_call 144; (with_reducible refine (varg_0 args m0 ts.length ts.length a0 _ _ _ _ _ (r5 _ (by assumption)) (r3 _ (by assumption)) (rA _ (by assumption)) hn0 HM.out.1 hmt0 ht2 (ry0 _ (by assumption))).mono ?_); rintro e w' ⟨rfl, hd⟩) | (go_at_call 144; (with_reducible refine (varg_1 args m1 ts.length ts.length a1 _ _ _ _ _ (r5 _ (by assumption)) (r3 _ (by assumption)) (rA _ (by assumption)) hn1 HM.out.2 hmt1 ht2 (ry1 _ (by assumption))).mono ?_); rintro e w' ⟨rfl, hd⟩) | (go_at_call 145; (with_reducible refine (pCompare imm (wdt ts args 0) a0 a1 u0 v0 u1 v1 _).mono ?_); rintro e w' ⟨rfl, hb⟩))
          clear wI
          go_wp2_with fail
          go_roundw
          case rel => exact ⟨j + 1, by omega, by go_num, by rw [← HS.out, HVN.out]; exact (HKO.out.below (show Since W0 _ by assumption)).set (by rw [HL.out]; exact hlt) 1, cell_store (r5 _ (by assumption)) (by omega), below_at (below_hop HB0.out (show Since W0 _ by assumption)) (Nat.le_refl _) _ _⟩
          case measure => simp [intOf]; omega
      by_cases o15 : op = 15
      · subst o15
        have hlen : args.length = 3 := by have := HN.out.len; simp only at this; have h15 : arV 15 = 3 := rfl; omega
        have hsel := typed_sel HN.out.typ rfl
        simp only at hsel
        have HR := Lib.hid HN.out.rng
        simp only at HR
        have hn0 : 0 < args.length := by omega
        have hn1 : 1 < args.length := by omega
        have hn2 : 2 < args.length := by omega
        have HN2 := Lib.hid hlen
        clear hlen
        have hr0 := HR.out 0 hn0
        obtain ⟨m0, hm0⟩ := Int.eq_ofNat_of_zero_le hr0.1
        have hj0 : m0 < j := by omega
        have hmt0 : m0 < ts.length := by omega
        have y0 := HO.out.cell (i := m0) (by rw [HL.out]; omega)
        rw [HG.out m0 hj0] at y0
        have b0 := HW.out m0 hj0
        have p0 := @pw_le32 (ts.getD m0 default).width (nodeOk HZ.out hmt0).wid.2
        have u0 : 0 ≤ acc.getD m0 0 := b0.1
        have v0 : acc.getD m0 0 ≤ 4294967295 := by omega
        have hr1 := HR.out 1 hn1
        obtain ⟨m1, hm1⟩ := Int.eq_ofNat_of_zero_le hr1.1
        have hj1 : m1 < j := by omega
        have hmt1 : m1 < ts.length := by omega
        have y1 := HO.out.cell (i := m1) (by rw [HL.out]; omega)
        rw [HG.out m1 hj1] at y1
        have b1 := HW.out m1 hj1
        have p1 := @pw_le32 (ts.getD m1 default).width (nodeOk HZ.out hmt1).wid.2
        have u1 : 0 ≤ acc.getD m1 0 := b1.1
        have v1 : acc.getD m1 0 ≤ 4294967295 := by omega
        have hr2 := HR.out 2 hn2
        obtain ⟨m2, hm2⟩ := Int.eq_ofNat_of_zero_le hr2.1
        have hj2 : m2 < j := by omega
        have hmt2 : m2 < ts.length := by omega
        have y2 := HO.out.cell (i := m2) (by rw [HL.out]; omega)
        rw [HG.out m2 hj2] at y2
        have b2 := HW.out m2 hj2
        have p2 := @pw_le32 (ts.getD m2 default).width (nodeOk HZ.out hmt2).wid.2
        have u2 : 0 ≤ acc.getD m2 0 := b2.1
        have v2 : acc.getD m2 0 ≤ 4294967295 := by omega
        unfold wdt at hsel
        rw [hm0, Int.toNat_natCast] at hsel
        rw [hsel.1] at b0
        have HVN : Hid (vNode ts env acc ⟨15, width, flags, args, imm⟩ = acc.getD (args.getD (2 - acc.getD m0 0).toNat 0).toNat 0) := by
          show _ = _
          simp only [vNode, vArg, if_true, if_false, hm0, Int.toNat_natCast] <;> rfl
        have hp1 : pw 1 = 2 := rfl
        rw [hp1] at b0
        have h01 : acc.getD m0 0 = 0 ∨ acc.getD m0 0 = 1 := by omega
        clear hsel hp1 o0 o33 o14
        rcases h01 with h01 | h01
        · rw [h01] at y0 HVN
          have HVN2 : Hid (vNode ts env acc ⟨15, width, flags, args, imm⟩ = acc.getD m2 0) := by
            show _ = _
            rw [HVN.out, show ((2 : Int) - 0).toNat = 2 by decide, hm2]; rfl
          clear HVN h01
          have HVN := HVN2
          clear HVN2
          generalize acc.getD m0 0 = a0 at *
          generalize acc.getD m1 0 = a1 at *
          generalize acc.getD m2 0 = a2 at *
          have HM := Lib.hid (And.intro hm0 (And.intro hm1 hm2))
          clear hr0 b0 p0 hm0 hr1 b1 p1 hm1 hr2 b2 p2 hm2
          go_wp2_with fail
          have hal : Below wr.heap.size wr (wr.alloc (.cells #[.int .i64 15, .int .i64 width, .int .i64 flags, .slice aa args.length ac, .int .u32 imm] 65)) := (Below.refl _ _).alloc (Nat.le_refl _) _
          have k5 := below_cell hal hbos hbox
          have ky0 := below_cell hal hBs y0
          have ky1 := below_cell hal hBs y1
          have ky2 := below_cell hal hBs y2
          have k8 : (wr.alloc (.cells #[.int .i64 15, .int .i64 width, .int .i64 flags, .slice aa args.length ac, .int .u32 imm] 65)).frozen? ⟨w.heap.size, j, none⟩ = false := by rw [← hfree]; exact hal.frozen (p := ⟨w.heap.size, j, none⟩) hBs
          have k9 : (wr.alloc (.cells #[.int .i64 15, .int .i64 width, .int .i64 flags, .slice aa args.length ac, .int .u32 imm] 65)).heap.size = wr.heap.size + 1 := by simp
          have x0 : (wr.alloc (.cells #[.int .i64 15, .int .i64 width, .int .i64 flags, .slice aa args.length ac, .int .u32 imm] 65)).cell? ⟨wr.heap.size, 0, none⟩ = some (.int .i64 15) := by simp [go_sem]
          have x1 : (wr.alloc (.cells #[.int .i64 15, .int .i64 width, .int .i64 flags, .slice aa args.length ac, .int .u32 imm] 65)).cell? ⟨wr.heap.size, 1, none⟩ = some (.int .i64 width) := by simp [go_sem]
          have x3 : (wr.alloc (.cells #[.int .i64 15, .int .i64 width, .int .i64 flags, .slice aa args.length ac, .int .u32 imm] 65)).cell? ⟨wr.heap.size, 3, none⟩ = some (.slice aa args.length ac) := by simp [go_sem]
          have x4 : (wr.alloc (.cells #[.int .i64 15, .int .i64 width, .int .i64 flags, .slice aa args.length ac, .int .u32 imm] 65)).cell? ⟨wr.heap.size, 4, none⟩ = some (.int .u32 imm) := by simp [go_sem]
          have kO := HO.out.alloc (.cells #[.int .i64 15, .int .i64 width, .int .i64 flags, .slice aa args.length ac, .int .u32 imm] 65)
          generalize wr.alloc (.cells #[.int .i64 15, .int .i64 width, .int .i64 flags, .slice aa args.length ac, .int .u32 imm] 65) = W0 at *
          have HKO := Lib.hid kO
          have r5 : ∀ wk, Keep w W0 w.heap.size j wk → wk.cell? ⟨w2.heap.size, 0, none⟩ = some (.slice (some ⟨w.heap.size, 0, none⟩) ts.length ts.length) := fun wk h => h.cell k5 (by omega)
          have ry0 : ∀ wk, Keep w W0 w.heap.size j wk → wk.cell? ⟨w.heap.size, m0, none⟩ = some (.int .u32 0) := fun wk h => h.cell ky0 (by omega)
          have ry1 : ∀ wk, Keep w W0 w.heap.size j wk → wk.cell? ⟨w.heap.size, m1, none⟩ = some (.int .u32 a1) := fun wk h => h.cell ky1 (by omega)
          have ry2 : ∀ wk, Keep w W0 w.heap.size j wk → wk.cell? ⟨w.heap.size, m2, none⟩ = some (.int .u32 a2) := fun wk h => h.cell ky2 (by omega)
          have r8 : ∀ wk, Keep w W0 w.heap.size j wk → wk.frozen? ⟨w.heap.size, j, none⟩ = false := fun wk h => h.free (by omega) k8
          have r0 : ∀ wk, Keep w W0 w.heap.size j wk → wk.cell? ⟨wr.heap.size, 0, none⟩ = some (.int .i64 15) := fun wk h => h.cell x0 (by omega)
          have r1 : ∀ wk, Keep w W0 w.heap.size j wk → wk.cell? ⟨wr.heap.size, 1, none⟩ = some (.int .i64 width) := fun wk h => h.cell x1 (by omega)
          have r3 : ∀ wk, Keep w W0 w.heap.size j wk → wk.cell? ⟨wr.heap.size, 3, none⟩ = some (.slice aa args.length ac) := fun wk h => h.cell x3 (by omega)
          have r4 : ∀ wk, Keep w W0 w.heap.size j wk → wk.cell? ⟨wr.heap.size, 4, none⟩ = some (.int .u32 imm) := fun wk h => h.cell x4 (by omega)
          have rj : ∀ wk, Keep w W0 w.heap.size j wk → wk.cell? ⟨w.heap.size, j, none⟩ = some (cellNow w.heap.size j wk) := fun wk h => h.now
          have rA : ∀ wk, Keep w W0 w.heap.size j wk → Ints .i64 wk (.slice aa args.length ac) args := fun wk h => HAVW.out.stays h.2
          clear k5 k8 x0 x1 x3 x4 kO hal hbox c0 c1 c2 c3 c4 hcellj hfree ky0 y0 ky1 y1 ky2 y2
          have hjl : (j : Int) < ts.length := by omega
          have wI0 : IntKind.i64.wrap 0 = 0 := by decide
          have wI1 : IntKind.i64.wrap 1 = 1 := by decide
          have wI2 : IntKind.i64.wrap 2 = 2 := by decide
          go_region_held3 (fun wk => Keep w W0 w.heap.size j wk) (first | assumption | exact Keep.drew (by assumption) | exact Keep.dr (by assumption) (by assumption) | exact Keep.below (by assumption) (by assumption) | exact Keep.store (by assumption) (Nat.le_refl _) _) (first | (go_at_call 144; (with_reducible refine (varg_0 args m0 ts.length ts.length 0 _ _ _ _ _ (r5 _ (by assumption)) (r3 _ (by assumption)) (rA _ (by assumption)) hn0 HM.out.1 hmt0 ht2 (ry0 _ (by assumption))).mono ?_); rintro e w' ⟨rfl, hd⟩) | (go_at_call 144; (with_reducible refine (varg_2 args m2 ts.length ts.length a2 _ _ _ _ _ (r5 _ (by assumption)) (r3 _ (by assumption)) (rA _ (by assumption)) hn2 HM.out.2.2 hmt2 ht2 (ry2 _ (by assumption))).mono ?_); rintro e w' ⟨rfl, hd⟩))
          clear wI0 wI1 wI2
          go_wp2_with fail
          go_roundw
          case rel => exact ⟨j + 1, by omega, by go_num, by rw [← HS.out, HVN.out]; exact HKO.out.keepset (by assumption) (by rw [HL.out]; exact hlt), r5 _ (by assumption), (show Keep w W0 w.heap.size j _ by assumption).2⟩
          case measure => simp [intOf]; omega
        · rw [h01] at y0 HVN
          have HVN2 : Hid (vNode ts env acc ⟨15, width, flags, args, imm⟩ = acc.getD m1 0) := by
            show _ = _
            rw [HVN.out, show ((2 : Int) - 1).toNat = 1 by decide, hm1]; rfl
          clear HVN h01
          have HVN := HVN2
          clear HVN2
          generalize acc.getD m0 0 = a0 at *
          generalize acc.getD m1 0 = a1 at *
          generalize acc.getD m2 0 = a2 at *
          have HM := Lib.hid (And.intro hm0 (And.intro hm1 hm2))
          clear hr0 b0 p0 hm0 hr1 b1 p1 hm1 hr2 b2 p2 hm2
          go_wp2_with fail
          have hal : Below wr.heap.size wr (wr.alloc (.cells #[.int .i64 15, .int .i64 width, .int .i64 flags, .slice aa args.length ac, .int .u32 imm] 65)) := (Below.refl _ _).alloc (Nat.le_refl _) _
          have k5 := below_cell hal hbos hbox
          have ky0 := below_cell hal hBs y0
          have ky1 := below_cell hal hBs y1
          have ky2 := below_cell hal hBs y2
          have k8 : (wr.alloc (.cells #[.int .i64 15, .int .i64 width, .int .i64 flags, .slice aa args.length ac, .int .u32 imm] 65)).frozen? ⟨w.heap.size, j, none⟩ = false := by rw [← hfree]; exact hal.frozen (p := ⟨w.heap.size, j, none⟩) hBs
          have k9 : (wr.alloc (.cells #[.int .i64 15, .int .i64 width, .int .i64 flags, .slice aa args.length ac, .int .u32 imm] 65)).heap.size = wr.heap.size + 1 := by simp
          have x0 : (wr.alloc (.cells #[.int .i64 15, .int .i64 width, .int .i64 flags, .slice aa args.length ac, .int .u32 imm] 65)).cell? ⟨wr.heap.size, 0, none⟩ = some (.int .i64 15) := by simp [go_sem]
          have x1 : (wr.alloc (.cells #[.int .i64 15, .int .i64 width, .int .i64 flags, .slice aa args.length ac, .int .u32 imm] 65)).cell? ⟨wr.heap.size, 1, none⟩ = some (.int .i64 width) := by simp [go_sem]
          have x3 : (wr.alloc (.cells #[.int .i64 15, .int .i64 width, .int .i64 flags, .slice aa args.length ac, .int .u32 imm] 65)).cell? ⟨wr.heap.size, 3, none⟩ = some (.slice aa args.length ac) := by simp [go_sem]
          have x4 : (wr.alloc (.cells #[.int .i64 15, .int .i64 width, .int .i64 flags, .slice aa args.length ac, .int .u32 imm] 65)).cell? ⟨wr.heap.size, 4, none⟩ = some (.int .u32 imm) := by simp [go_sem]
          have kO := HO.out.alloc (.cells #[.int .i64 15, .int .i64 width, .int .i64 flags, .slice aa args.length ac, .int .u32 imm] 65)
          generalize wr.alloc (.cells #[.int .i64 15, .int .i64 width, .int .i64 flags, .slice aa args.length ac, .int .u32 imm] 65) = W0 at *
          have HKO := Lib.hid kO
          have r5 : ∀ wk, Keep w W0 w.heap.size j wk → wk.cell? ⟨w2.heap.size, 0, none⟩ = some (.slice (some ⟨w.heap.size, 0, none⟩) ts.length ts.length) := fun wk h => h.cell k5 (by omega)
          have ry0 : ∀ wk, Keep w W0 w.heap.size j wk → wk.cell? ⟨w.heap.size, m0, none⟩ = some (.int .u32 1) := fun wk h => h.cell ky0 (by omega)
          have ry1 : ∀ wk, Keep w W0 w.heap.size j wk → wk.cell? ⟨w.heap.size, m1, none⟩ = some (.int .u32 a1) := fun wk h => h.cell ky1 (by omega)
          have ry2 : ∀ wk, Keep w W0 w.heap.size j wk → wk.cell? ⟨w.heap.size, m2, none⟩ = some (.int .u32 a2) := fun wk h => h.cell ky2 (by omega)
          have r8 : ∀ wk, Keep w W0 w.heap.size j wk → wk.frozen? ⟨w.heap.size, j, none⟩ = false := fun wk h => h.free (by omega) k8
          have r0 : ∀ wk, Keep w W0 w.heap.size j wk → wk.cell? ⟨wr.heap.size, 0, none⟩ = some (.int .i64 15) := fun wk h => h.cell x0 (by omega)
          have r1 : ∀ wk, Keep w W0 w.heap.size j wk → wk.cell? ⟨wr.heap.size, 1, none⟩ = some (.int .i64 width) := fun wk h => h.cell x1 (by omega)
          have r3 : ∀ wk, Keep w W0 w.heap.size j wk → wk.cell? ⟨wr.heap.size, 3, none⟩ = some (.slice aa args.length ac) := fun wk h => h.cell x3 (by omega)
          have r4 : ∀ wk, Keep w W0 w.heap.size j wk → wk.cell? ⟨wr.heap.size, 4, none⟩ = some (.int .u32 imm) := fun wk h => h.cell x4 (by omega)
          have rj : ∀ wk, Keep w W0 w.heap.size j wk → wk.cell? ⟨w.heap.size, j, none⟩ = some (cellNow w.heap.size j wk) := fun wk h => h.now
          have rA : ∀ wk, Keep w W0 w.heap.size j wk → Ints .i64 wk (.slice aa args.length ac) args := fun wk h => HAVW.out.stays h.2
          clear k5 k8 x0 x1 x3 x4 kO hal hbox c0 c1 c2 c3 c4 hcellj hfree ky0 y0 ky1 y1 ky2 y2
          have hjl : (j : Int) < ts.length := by omega
          have wI0 : IntKind.i64.wrap 0 = 0 := by decide
          have wI1 : IntKind.i64.wrap 1 = 1 := by decide
          have wI2 : IntKind.i64.wrap 2 = 2 := by decide
          go_region_held3 (fun wk => Keep w W0 w.heap.size j wk) (first | assumption | exact Keep.drew (by assumption) | exact Keep.dr (by assumption) (by assumption) | exact Keep.below (by assumption) (by assumption) | exact Keep.store (by assumption) (Nat.le_refl _) _) (first | (go_at_call 144; (with_reducible refine (varg_0 args m0 ts.length ts.length 1 _ _ _ _ _ (r5 _ (by assumption)) (r3 _ (by assumption)) (rA _ (by assumption)) hn0 HM.out.1 hmt0 ht2 (ry0 _ (by assumption))).mono ?_); rintro e w' ⟨rfl, hd⟩) | (go_at_call 144; (with_reducible refine (varg_1 args m1 ts.length ts.length a1 _ _ _ _ _ (r5 _ (by assumption)) (r3 _ (by assumption)) (rA _ (by assumption)) hn1 HM.out.2.1 hmt1 ht2 (ry1 _ (by assumption))).mono ?_); rintro e w' ⟨rfl, hd⟩))
          clear wI0 wI1 wI2
          go_wp2_with fail
          go_roundw
          case rel => exact ⟨j + 1, by omega, by go_num, by rw [← HS.out, HVN.out]; exact HKO.out.keepset (by assumption) (by rw [HL.out]; exact hlt), r5 _ (by assumption), (show Keep w W0 w.heap.size j _ by assumption).2⟩
          case measure => simp [intOf]; omega
      by_cases o16 : 16 ≤ op
      · have hlen : args.length = 1 := by have := HN.out.len; have := HN.out.ar; simp only at *; rcases arV_cases op with h | h | h | h | h <;> omega
        have HR := Lib.hid HN.out.rng
        simp only at HR
        have hn0 : 0 < args.length := by omega
        have HN2 := Lib.hid hlen
        clear hlen
        have hr0 := HR.out 0 hn0
        obtain ⟨m0, hm0⟩ := Int.eq_ofNat_of_zero_le hr0.1
        have hj0 : m0 < j := by omega
        have hmt0 : m0 < ts.length := by omega
        have y0 := HO.out.cell (i := m0) (by rw [HL.out]; omega)
        rw [HG.out m0 hj0] at y0
        have b0 := HW.out m0 hj0
        have p0 := @pw_le32 (ts.getD m0 default).width (nodeOk HZ.out hmt0).wid.2
        have u0 : 0 ≤ acc.getD m0 0 := b0.1
        have v0 : acc.getD m0 0 ≤ 4294967295 := by omega
        have HVN : Hid (vNode ts env acc ⟨op, width, flags, args, imm⟩ = exX op (wdt ts args 0) width (acc.getD m0 0)) := by
          show _ = _
          simp only [vNode, vArg]
          rw [if_neg (by omega), if_neg (by omega), if_neg (by omega), if_neg (by omega), if_pos o16, hm0]; rfl
        generalize acc.getD m0 0 = a0 at *
        have HM := Lib.hid (And.intro hm0 True.intro)
        clear hr0 b0 p0 hm0
        have z0 : (op == 0) = false := by simpa using o0
        have z33 : (op == 33) = false := by simpa using o33
        have z14 : (op == 14) = false := by simpa using o14
        have z15 : (op == 15) = false := by simpa using o15
        have z16 : decide (16 ≤ op) = true := by simpa using o16
        clear o0 o33 o14 o15 o16
        go_wp2_with fail
        have hal : Below wr.heap.size wr (wr.alloc (.cells #[.int .i64 op, .int .i64 width, .int .i64 flags, .slice aa args.length ac, .int .u32 imm] 65)) := (Below.refl _ _).alloc (Nat.le_refl _) _
        have k5 := below_cell hal hbos hbox
        have ky0 := below_cell hal hBs y0
        have k8 : (wr.alloc (.cells #[.int .i64 op, .int .i64 width, .int .i64 flags, .slice aa args.length ac, .int .u32 imm] 65)).frozen? ⟨w.heap.size, j, none⟩ = false := by rw [← hfree]; exact hal.frozen (p := ⟨w.heap.size, j, none⟩) hBs
        have k9 : (wr.alloc (.cells #[.int .i64 op, .int .i64 width, .int .i64 flags, .slice aa args.length ac, .int .u32 imm] 65)).heap.size = wr.heap.size + 1 := by simp
        have x0 : (wr.alloc (.cells #[.int .i64 op, .int .i64 width, .int .i64 flags, .slice aa args.length ac, .int .u32 imm] 65)).cell? ⟨wr.heap.size, 0, none⟩ = some (.int .i64 op) := by simp [go_sem]
        have x1 : (wr.alloc (.cells #[.int .i64 op, .int .i64 width, .int .i64 flags, .slice aa args.length ac, .int .u32 imm] 65)).cell? ⟨wr.heap.size, 1, none⟩ = some (.int .i64 width) := by simp [go_sem]
        have x3 : (wr.alloc (.cells #[.int .i64 op, .int .i64 width, .int .i64 flags, .slice aa args.length ac, .int .u32 imm] 65)).cell? ⟨wr.heap.size, 3, none⟩ = some (.slice aa args.length ac) := by simp [go_sem]
        have x4 : (wr.alloc (.cells #[.int .i64 op, .int .i64 width, .int .i64 flags, .slice aa args.length ac, .int .u32 imm] 65)).cell? ⟨wr.heap.size, 4, none⟩ = some (.int .u32 imm) := by simp [go_sem]
        have kO := HO.out.alloc (.cells #[.int .i64 op, .int .i64 width, .int .i64 flags, .slice aa args.length ac, .int .u32 imm] 65)
        generalize wr.alloc (.cells #[.int .i64 op, .int .i64 width, .int .i64 flags, .slice aa args.length ac, .int .u32 imm] 65) = W0 at *
        have HKO := Lib.hid kO
        have r5 : ∀ wk, Keep w W0 w.heap.size j wk → wk.cell? ⟨w2.heap.size, 0, none⟩ = some (.slice (some ⟨w.heap.size, 0, none⟩) ts.length ts.length) := fun wk h => h.cell k5 (by omega)
        have ry0 : ∀ wk, Keep w W0 w.heap.size j wk → wk.cell? ⟨w.heap.size, m0, none⟩ = some (.int .u32 a0) := fun wk h => h.cell ky0 (by omega)
        have r8 : ∀ wk, Keep w W0 w.heap.size j wk → wk.frozen? ⟨w.heap.size, j, none⟩ = false := fun wk h => h.free (by omega) k8
        have r0 : ∀ wk, Keep w W0 w.heap.size j wk → wk.cell? ⟨wr.heap.size, 0, none⟩ = some (.int .i64 op) := fun wk h => h.cell x0 (by omega)
        have r1 : ∀ wk, Keep w W0 w.heap.size j wk → wk.cell? ⟨wr.heap.size, 1, none⟩ = some (.int .i64 width) := fun wk h => h.cell x1 (by omega)
        have r3 : ∀ wk, Keep w W0 w.heap.size j wk → wk.cell? ⟨wr.heap.size, 3, none⟩ = some (.slice aa args.length ac) := fun wk h => h.cell x3 (by omega)
        have r4 : ∀ wk, Keep w W0 w.heap.size j wk → wk.cell? ⟨wr.heap.size, 4, none⟩ = some (.int .u32 imm) := fun wk h => h.cell x4 (by omega)
        have rj : ∀ wk, Keep w W0 w.heap.size j wk → wk.cell? ⟨w.heap.size, j, none⟩ = some (cellNow w.heap.size j wk) := fun wk h => h.now
        have rA : ∀ wk, Keep w W0 w.heap.size j wk → Ints .i64 wk (.slice aa args.length ac) args := fun wk h => HAVW.out.stays h.2
        obtain ⟨nb, nq, nc, nav, ne, _, hnb, _, _, _, _⟩ := HT.out.at2 (Below.refl _ _) hmt0
        cases ne
        have rN : ∀ wk, Keep w W0 w.heap.size j wk → wk.cell? ⟨b, q + m0 * 5 + 1, none⟩ = some (.int .i64 (wdt ts args 0)) := fun wk h => by
          obtain ⟨nb', nq', nc', nav', ne', _, _, _, _, hn1, _⟩ := HT.out.at2 h.2 hmt0
          cases ne'
          rw [hn1]
          unfold wdt
          rw [HM.out.1, Int.toNat_natCast]
        obtain ⟨ab, ao, ae, _, _⟩ := HAVW.out.row hn0
        cases ae
        have rM : ∀ wk, Keep w W0 w.heap.size j wk → wk.cell? ⟨ab, ao, none⟩ = some (.int .i64 m0) := fun wk h => by
          obtain ⟨ab', ao', ae', _, hc⟩ := (HAVW.out.stays h.2).row hn0
          cases ae'
          have := hc 0 hn0
          rw [HM.out.1, Nat.add_zero] at this
          exact this
        clear k5 k8 x0 x1 x3 x4 kO hal hbox c0 c1 c2 c3 c4 hcellj hfree ky0 y0
        have hjl : (j : Int) < ts.length := by omega
        go_region_held3 (fun wk => Keep w W0 w.heap.size j wk) (first | assumption | exact Keep.drew (by assumption) | exact Keep.dr (by assumption) (by assumption) | exact Keep.below (by assumption) (by assumption) | exact Keep.store (by assumption) (Nat.le_refl _) _) (first | (go_at_call 144; (with_reducible refine (varg_0 args m0 ts.length ts.length a0 _ _ _ _ _ (r5 _ (by assumption)) (r3 _ (by assumption)) (rA _ (by assumption)) hn0 HM.out.1 hmt0 ht2 (ry0 _ (by assumption))).mono ?_); rintro e w' ⟨rfl, hd⟩) | (go_at_call 146; (with_reducible refine (pExtend op (wdt ts args 0) width a0 u0 v0 _).mono ?_); rintro e w' ⟨rfl, hb⟩))
        go_wp2_with fail
        go_roundw
        case rel => exact ⟨j + 1, by omega, by go_num, by rw [← HS.out, HVN.out]; exact HKO.out.keepset (by assumption) (by rw [HL.out]; exact hlt), r5 _ (by assumption), (show Keep w W0 w.heap.size j _ by assumption).2⟩
        case measure => simp [intOf]; omega
      have hlen : args.length = 2 := by have := HN.out.len; have := HN.out.ar; simp only at *; rcases arV_cases op with h | h | h | h | h <;> omega
      have HR := Lib.hid HN.out.rng
      simp only at HR
      have hn0 : 0 < args.length := by omega
      have hn1 : 1 < args.length := by omega
      have HN2 := Lib.hid hlen
      clear hlen
      have hr0 := HR.out 0 hn0
      obtain ⟨m0, hm0⟩ := Int.eq_ofNat_of_zero_le hr0.1
      have hj0 : m0 < j := by omega
      have hmt0 : m0 < ts.length := by omega
      have y0 := HO.out.cell (i := m0) (by rw [HL.out]; omega)
      rw [HG.out m0 hj0] at y0
      have b0 := HW.out m0 hj0
      have p0 := @pw_le32 (ts.getD m0 default).width (nodeOk HZ.out hmt0).wid.2
      have u0 : 0 ≤ acc.getD m0 0 := b0.1
      have v0 : acc.getD m0 0 ≤ 4294967295 := by omega
      have hr1 := HR.out 1 hn1
      obtain ⟨m1, hm1⟩ := Int.eq_ofNat_of_zero_le hr1.1
      have hj1 : m1 < j := by omega
      have hmt1 : m1 < ts.length := by omega
      have y1 := HO.out.cell (i := m1) (by rw [HL.out]; omega)
      rw [HG.out m1 hj1] at y1
      have b1 := HW.out m1 hj1
      have p1 := @pw_le32 (ts.getD m1 default).width (nodeOk HZ.out hmt1).wid.2
      have u1 : 0 ≤ acc.getD m1 0 := b1.1
      have v1 : acc.getD m1 0 ≤ 4294967295 := by omega
      have HVN : Hid (vNode ts env acc ⟨op, width, flags, args, imm⟩ = toX op width (acc.getD m0 0) (acc.getD m1 0)) := by
        show _ = _
        simp only [vNode, vArg]
        rw [if_neg (by omega), if_neg (by omega), if_neg (by omega), if_neg (by omega), if_neg (by omega), hm0, hm1]; rfl
      generalize acc.getD m0 0 = a0 at *
      generalize acc.getD m1 0 = a1 at *
      have HM := Lib.hid (And.intro hm0 hm1)
      clear hr0 b0 p0 hm0 hr1 b1 p1 hm1
      have z0 : (op == 0) = false := by simpa using o0
      have z33 : (op == 33) = false := by simpa using o33
      have z14 : (op == 14) = false := by simpa using o14
      have z15 : (op == 15) = false := by simpa using o15
      have z16 : decide (16 ≤ op) = false := by simpa using o16
      clear o0 o33 o14 o15 o16
      go_wp2_with fail
      have hal : Below wr.heap.size wr (wr.alloc (.cells #[.int .i64 op, .int .i64 width, .int .i64 flags, .slice aa args.length ac, .int .u32 imm] 65)) := (Below.refl _ _).alloc (Nat.le_refl _) _
      have k5 := below_cell hal hbos hbox
      have ky0 := below_cell hal hBs y0
      have ky1 := below_cell hal hBs y1
      have k8 : (wr.alloc (.cells #[.int .i64 op, .int .i64 width, .int .i64 flags, .slice aa args.length ac, .int .u32 imm] 65)).frozen? ⟨w.heap.size, j, none⟩ = false := by rw [← hfree]; exact hal.frozen (p := ⟨w.heap.size, j, none⟩) hBs
      have k9 : (wr.alloc (.cells #[.int .i64 op, .int .i64 width, .int .i64 flags, .slice aa args.length ac, .int .u32 imm] 65)).heap.size = wr.heap.size + 1 := by simp
      have x0 : (wr.alloc (.cells #[.int .i64 op, .int .i64 width, .int .i64 flags, .slice aa args.length ac, .int .u32 imm] 65)).cell? ⟨wr.heap.size, 0, none⟩ = some (.int .i64 op) := by simp [go_sem]
      have x1 : (wr.alloc (.cells #[.int .i64 op, .int .i64 width, .int .i64 flags, .slice aa args.length ac, .int .u32 imm] 65)).cell? ⟨wr.heap.size, 1, none⟩ = some (.int .i64 width) := by simp [go_sem]
      have x3 : (wr.alloc (.cells #[.int .i64 op, .int .i64 width, .int .i64 flags, .slice aa args.length ac, .int .u32 imm] 65)).cell? ⟨wr.heap.size, 3, none⟩ = some (.slice aa args.length ac) := by simp [go_sem]
      have x4 : (wr.alloc (.cells #[.int .i64 op, .int .i64 width, .int .i64 flags, .slice aa args.length ac, .int .u32 imm] 65)).cell? ⟨wr.heap.size, 4, none⟩ = some (.int .u32 imm) := by simp [go_sem]
      have kO := HO.out.alloc (.cells #[.int .i64 op, .int .i64 width, .int .i64 flags, .slice aa args.length ac, .int .u32 imm] 65)
      generalize wr.alloc (.cells #[.int .i64 op, .int .i64 width, .int .i64 flags, .slice aa args.length ac, .int .u32 imm] 65) = W0 at *
      have HKO := Lib.hid kO
      have r5 : ∀ wk, Keep w W0 w.heap.size j wk → wk.cell? ⟨w2.heap.size, 0, none⟩ = some (.slice (some ⟨w.heap.size, 0, none⟩) ts.length ts.length) := fun wk h => h.cell k5 (by omega)
      have ry0 : ∀ wk, Keep w W0 w.heap.size j wk → wk.cell? ⟨w.heap.size, m0, none⟩ = some (.int .u32 a0) := fun wk h => h.cell ky0 (by omega)
      have ry1 : ∀ wk, Keep w W0 w.heap.size j wk → wk.cell? ⟨w.heap.size, m1, none⟩ = some (.int .u32 a1) := fun wk h => h.cell ky1 (by omega)
      have r8 : ∀ wk, Keep w W0 w.heap.size j wk → wk.frozen? ⟨w.heap.size, j, none⟩ = false := fun wk h => h.free (by omega) k8
      have r0 : ∀ wk, Keep w W0 w.heap.size j wk → wk.cell? ⟨wr.heap.size, 0, none⟩ = some (.int .i64 op) := fun wk h => h.cell x0 (by omega)
      have r1 : ∀ wk, Keep w W0 w.heap.size j wk → wk.cell? ⟨wr.heap.size, 1, none⟩ = some (.int .i64 width) := fun wk h => h.cell x1 (by omega)
      have r3 : ∀ wk, Keep w W0 w.heap.size j wk → wk.cell? ⟨wr.heap.size, 3, none⟩ = some (.slice aa args.length ac) := fun wk h => h.cell x3 (by omega)
      have r4 : ∀ wk, Keep w W0 w.heap.size j wk → wk.cell? ⟨wr.heap.size, 4, none⟩ = some (.int .u32 imm) := fun wk h => h.cell x4 (by omega)
      have rj : ∀ wk, Keep w W0 w.heap.size j wk → wk.cell? ⟨w.heap.size, j, none⟩ = some (cellNow w.heap.size j wk) := fun wk h => h.now
      have rA : ∀ wk, Keep w W0 w.heap.size j wk → Ints .i64 wk (.slice aa args.length ac) args := fun wk h => HAVW.out.stays h.2
      clear k5 k8 x0 x1 x3 x4 kO hal hbox c0 c1 c2 c3 c4 hcellj hfree ky0 y0 ky1 y1
      have hjl : (j : Int) < ts.length := by omega
      go_region_held3 (fun wk => Keep w W0 w.heap.size j wk) (first | assumption | exact Keep.drew (by assumption) | exact Keep.dr (by assumption) (by assumption) | exact Keep.below (by assumption) (by assumption) | exact Keep.store (by assumption) (Nat.le_refl _) _) (first | (go_at_call 144; (with_reducible refine (varg_0 args m0 ts.length ts.length a0 _ _ _ _ _ (r5 _ (by assumption)) (r3 _ (by assumption)) (rA _ (by assumption)) hn0 HM.out.1 hmt0 ht2 (ry0 _ (by assumption))).mono ?_); rintro e w' ⟨rfl, hd⟩) | (go_at_call 144; (with_reducible refine (varg_1 args m1 ts.length ts.length a1 _ _ _ _ _ (r5 _ (by assumption)) (r3 _ (by assumption)) (rA _ (by assumption)) hn1 HM.out.2 hmt1 ht2 (ry1 _ (by assumption))).mono ?_); rintro e w' ⟨rfl, hd⟩) | (go_at_call 100; (with_reducible refine (pTotal op width a0 a1 _ u0 v0 u1 v1).mono ?_); rintro e w' ⟨rfl, hb⟩))
      go_wp2_with fail
      go_roundw
      case rel => exact ⟨j + 1, by omega, by go_num, by rw [← HS.out, HVN.out]; exact HKO.out.keepset (by assumption) (by rw [HL.out]; exact hlt), r5 _ (by assumption), (show Keep w W0 w.heap.size j _ by assumption).2⟩
      case measure => simp [intOf]; omega
    · obtain rfl : j = ts.length := by omega
      have hvl : vL ts env ts.length = vals ts env := by unfold vL vals; rw [List.take_length, Nat.sub_self]; simp
      rw [hvl] at ho
      have hvn : (vals ts env).length = ts.length := valsF_len ts env ts
      have HO2 := Lib.hid (And.intro ho hvn)
      clear ho hvl hvn hb
      go_wp2_with fail
      go_ret
      refine ⟨_, rfl, ?_, HB.out⟩
      have h := HO2.out.1.ints (by rw [HO2.out.2]; omega)
      rw [HO2.out.2] at h
      exact h
end Go.Proofs.YtgcfadnnajahhaaGreatDoor
namespace Go.Proofs.YtgcfadnnajahhaaGreatDoor
open Go.RowKit Go.Maps Wd
set_option linter.unusedVariables false
set_option linter.unusedSimpArgs false
theorem rSameNode (x y : Nd) (xv yv : Value) (w : World) (hx : Ints .i64 w xv x.args) (hy : Ints .i64 w yv y.args) :
    Calls Tryz.prog 92 #[ndA x xv, ndA y yv] w fun e w' => e = .returned (.bool (decide (x = y))) ∧ Below w.heap.size w w' := by
  obtain ⟨a, b, c, d, i⟩ := x
  obtain ⟨a', b', c', d', i'⟩ := y
  simp only [ndA] at hx hy ⊢
  have HX := Lib.hid hx
  have HY := Lib.hid hy
  have hs := fun W (hb : Below w.heap.size w W) => sameInts_any d d' xv yv W (hx.stays hb) (hy.stays hb)
  have HS := Lib.hid hs
  clear hs hx hy
  have HB : Hid (Below w.heap.size w ((w.alloc (.cells #[.int .i64 a, .int .i64 b, .int .i64 c, xv, .int .u32 i] 65)).alloc (.cells #[.int .i64 a', .int .i64 b', .int .i64 c', yv, .int .u32 i'] 65))) := ((Below.refl _ _).alloc (Nat.le_refl _) _).alloc (by simp) _
  cases h1 : (a == a')
  · have HE : Hid (decide ((⟨a, b, c, d, i⟩ : Nd) = ⟨a', b', c', d', i'⟩) = false) := by
      show _ = _
      rw [decide_eq_false_iff_not]; intro e; cases e; simp at h1
    go_enter Tryz.func92, Tryz.ntmps92
    go_wp2_with fail
    go_ret
    exact ⟨ret_b HE.out.symm, HB.out⟩
  cases h2 : (b == b')
  · have HE : Hid (decide ((⟨a, b, c, d, i⟩ : Nd) = ⟨a', b', c', d', i'⟩) = false) := by
      show _ = _
      rw [decide_eq_false_iff_not]; intro e; cases e; simp at h2
    go_enter Tryz.func92, Tryz.ntmps92
    go_wp2_with fail
    go_ret
    exact ⟨ret_b HE.out.symm, HB.out⟩
  cases h3 : (c == c')
  · have HE : Hid (decide ((⟨a, b, c, d, i⟩ : Nd) = ⟨a', b', c', d', i'⟩) = false) := by
      show _ = _
      rw [decide_eq_false_iff_not]; intro e; cases e; simp at h3
    go_enter Tryz.func92, Tryz.ntmps92
    go_wp2_with fail
    go_ret
    exact ⟨ret_b HE.out.symm, HB.out⟩
  cases h4 : (i == i')
  · have HE : Hid (decide ((⟨a, b, c, d, i⟩ : Nd) = ⟨a', b', c', d', i'⟩) = false) := by
      show _ = _
      rw [decide_eq_false_iff_not]; intro e; cases e; simp at h4
    go_enter Tryz.func92, Tryz.ntmps92
    go_wp2_with fail
    go_ret
    exact ⟨ret_b HE.out.symm, HB.out⟩
  have HE : Hid (decide ((⟨a, b, c, d, i⟩ : Nd) = ⟨a', b', c', d', i'⟩) = decide (d = d')) := by
    show _ = _
    simp at h1 h2 h3 h4
    subst h1 h2 h3 h4
    rw [Bool.eq_iff_iff, decide_eq_true_iff, decide_eq_true_iff]
    exact ⟨fun e => by cases e; rfl, fun e => by rw [e]⟩
  have HS2 := Lib.hid (HS.out _ HB.out)
  generalize decide (d = d') = z at *
  go_enter Tryz.func92, Tryz.ntmps92
  go_wp2_with fail
  refine HS2.out.mono ?_
  rintro e w' ⟨rfl, hd⟩
  have HD := Lib.hid hd
  clear hd
  cases z
  all_goals
    go_wp2_with fail
    go_ret
    exact ⟨ret_b HE.out.symm, HB.out.trans (HD.out.below _)⟩
theorem rSameNodes (ts us : List Nd) (tv uv : Value) (w : World) (ht : Nds w tv ts) (hu : Nds w uv us) :
    Calls Tryz.prog 48 #[tv, uv] w fun e w' => e = .returned (.bool (decide (ts = us))) ∧ Below w.heap.size w w' := by
  have HT := Lib.hid ht
  have HU := Lib.hid hu
  obtain ⟨ta, tc, rfl, ht1, ht2⟩ := ht.shape
  obtain ⟨ua, uc, rfl, hu1, hu2⟩ := hu.shape
  clear ht hu
  cases hl : ((ts.length : Int) != us.length)
  · have hll : ts.length = us.length := by
      have h9 : (ts.length : Int) = us.length := by simpa using hl
      omega
    have HLL := Lib.hid hll
    clear hll
    go_enter Tryz.func48, Tryz.ntmps48
    go_wp2_with fail
    go_loopw [5] (fun i wr => ∃ j : Nat, j ≤ ts.length ∧ i = .int .i64 j ∧ Hid (∀ k, k < j → ts.getD k default = us.getD k default) ∧ Below w.heap.size w wr) (fun i _ => ts.length - (intOf i).toNat)
    case atStart => exact ⟨0, Nat.zero_le _, rfl, fun k hk => absurd hk (by omega), Below.refl _ _⟩
    case round =>
      obtain ⟨j, hj, rfl, heq, hb⟩ := hrel
      have HB := Lib.hid hb
      clear hb
      by_cases hlt : j < ts.length
      · have hltu : j < us.length := by have := HLL.out; omega
        obtain ⟨b, q, c', av, e', _, hbq, hav, c0, c1, c2, c3, c4⟩ := HT.out.at2 (Below.refl _ _) hlt
        cases e'
        obtain ⟨b', q', c'', av', e', _, hbq', hav', d0, d1, d2, d3, d4⟩ := HU.out.at2 (Below.refl _ _) hltu
        cases e'
        have HAV := Lib.hid hav
        have HAV' := Lib.hid hav'
        have hs0 : (0 : Int) ≤ (j : Int) := by omega
        have hs1 : (j : Int) < ts.length := by omega
        have hs2 : (j : Int) < us.length := by omega
        have HX : Hid (∀ (P : Nd → Prop), P (ts.getD j default) → P (ts.getD j default)) := fun _ h => h
        generalize hx : ts.getD j default = x at *
        generalize hy : us.getD j default = y at *
        have HXX := Lib.hid hx
        have HYY := Lib.hid hy
        clear hx hy HX hav hav'
        obtain ⟨op, width, flags, args, imm⟩ := x
        obtain ⟨op', width', flags', args', imm'⟩ := y
        simp only at c0 c1 c2 c3 c4 d0 d1 d2 d3 d4
        have hbw := HB.out.size
        have h00 := Since.refl wr
        have r0 : ∀ wk, Since wr wk → wk.cell? ⟨b, q + j * 5, none⟩ = some (.int .i64 op) := fun wk h => h.cell (below_cell HB.out hbq c0)
        have r1 : ∀ wk, Since wr wk → wk.cell? ⟨b, q + j * 5 + 1, none⟩ = some (.int .i64 width) := fun wk h => h.cell (below_cell HB.out hbq c1)
        have r2 : ∀ wk, Since wr wk → wk.cell? ⟨b, q + j * 5 + 2, none⟩ = some (.int .i64 flags) := fun wk h => h.cell (below_cell HB.out hbq c2)
        have r3 : ∀ wk, Since wr wk → wk.cell? ⟨b, q + j * 5 + 3, none⟩ = some av := fun wk h => h.cell (below_cell HB.out hbq c3)
        have r4 : ∀ wk, Since wr wk → wk.cell? ⟨b, q + j * 5 + 4, none⟩ = some (.int .u32 imm) := fun wk h => h.cell (below_cell HB.out hbq c4)
        have s0 : ∀ wk, Since wr wk → wk.cell? ⟨b', q' + j * 5, none⟩ = some (.int .i64 op') := fun wk h => h.cell (below_cell HB.out hbq' d0)
        have s1 : ∀ wk, Since wr wk → wk.cell? ⟨b', q' + j * 5 + 1, none⟩ = some (.int .i64 width') := fun wk h => h.cell (below_cell HB.out hbq' d1)
        have s2 : ∀ wk, Since wr wk → wk.cell? ⟨b', q' + j * 5 + 2, none⟩ = some (.int .i64 flags') := fun wk h => h.cell (below_cell HB.out hbq' d2)
        have s3 : ∀ wk, Since wr wk → wk.cell? ⟨b', q' + j * 5 + 3, none⟩ = some av' := fun wk h => h.cell (below_cell HB.out hbq' d3)
        have s4 : ∀ wk, Since wr wk → wk.cell? ⟨b', q' + j * 5 + 4, none⟩ = some (.int .u32 imm') := fun wk h => h.cell (below_cell HB.out hbq' d4)
        clear c0 c1 c2 c3 c4 d0 d1 d2 d3 d4
        have HC : Hid (∀ wk, Since wr wk → Calls Tryz.prog 92 #[.agg #[.int .i64 op, .int .i64 width, .int .i64 flags, av, .int .u32 imm], .agg #[.int .i64 op', .int .i64 width', .int .i64 flags', av', .int .u32 imm']] wk fun e w' => e = .returned (.bool (decide ((⟨op, width, flags, args, imm⟩ : Nd) = ⟨op', width', flags', args', imm'⟩))) ∧ Below wk.heap.size wk w') :=
          fun wk h => rSameNode ⟨op, width, flags, args, imm⟩ ⟨op', width', flags', args', imm'⟩ av av' wk (HAV.out.stays (below_hop HB.out h)) (HAV'.out.stays (below_hop HB.out h))
        generalize hz : decide ((⟨op, width, flags, args, imm⟩ : Nd) = ⟨op', width', flags', args', imm'⟩) = z at *
        have HZ := Lib.hid hz
        clear hz
        go_wp2_with fail
        go_region_held3 (fun wk => Since wr wk) (first | assumption | exact Since.drew (by assumption) | exact Since.next (by assumption) (by assumption)) (first | (go_at_call 92; (with_reducible refine (HC.out _ (by assumption)).mono ?_); rintro e w' ⟨rfl, hb⟩))
        clear r0 r1 r2 r3 r4 s0 s1 s2 s3 s4 h00
        cases z
        · go_wp2_with fail
          go_ret
          refine ⟨ret_b (Eq.symm ?_), below_hop HB.out (show Since wr _ by assumption)⟩
          rw [decide_eq_false_iff_not]
          intro e
          have hz := HZ.out
          rw [← HXX.out, ← HYY.out, e] at hz
          simp at hz
        · have hxy : ts.getD j default = us.getD j default := by
            rw [HXX.out, HYY.out]; exact of_decide_eq_true HZ.out
          have HXY := Lib.hid hxy
          clear hxy
          go_wp2_with fail
          go_roundw
          case rel => exact ⟨j + 1, by omega, by go_num, fun k hk => by
            by_cases e : k = j
            · subst e; exact HXY.out
            · exact heq.out k (by omega), below_hop HB.out (show Since wr _ by assumption)⟩
          case measure => simp [intOf]; omega
      · obtain rfl : j = ts.length := by omega
        go_wp2_with fail
        go_ret
        refine ⟨ret_b (Eq.symm ?_), HB.out⟩
        rw [decide_eq_true_iff]
        apply List.ext_getElem HLL.out
        intro i h1 h2
        have := heq.out i h1
        rw [List.getD_eq_getElem?_getD, List.getD_eq_getElem?_getD, List.getElem?_eq_getElem h1, List.getElem?_eq_getElem h2] at this
        exact this
  · have HF : Hid (decide (ts = us) = false) := by
      show _ = _
      rw [decide_eq_false_iff_not]; intro e; subst e; simp at hl
    go_enter Tryz.func48, Tryz.ntmps48
    go_wp2_with fail
    go_ret
    exact ⟨ret_b HF.out.symm, Below.refl _ _⟩
theorem IntsF.below {w w' : World} {v : Value} {xs : List Int} (h : IntsF w v xs) (hb : Below w.heap.size w w') : IntsF w' v xs := by
  refine ⟨h.ints.stays hb, fun b q n c e i hi => ?_⟩
  rw [← h.free b q n c e i hi]
  subst e
  obtain ⟨a, c', e', _, _, _, h4⟩ := h.ints
  cases e'
  obtain ⟨b', o', e', h5, h6⟩ := h4 i hi
  cases e'
  exact hb.frozen (p := ⟨b, q + i, none⟩) h5
def stkL (st : List Nat) : List Int := st.reverse.map fun n : Nat => (n : Int)
theorem stkL_cons (n : Nat) (st : List Nat) : stkL (n :: st) = stkL st ++ [(n : Int)] := by unfold stkL; simp
theorem stkL_len (st : List Nat) : (stkL st).length = st.length := by unfold stkL; simp
structure ShR (w0 : World) (st : List Nat) (s : St) (nv sv : Value) (wr : World) : Prop where
  at_ : OInts .i64 wr w0.heap.size s.nos
  stk : RowI wr w0.heap.size 3 .i64 sv (stkL st)
  out : ∃ R avs, OSt w0.heap.size s.out R wr nv avs ∧ ¬ R w0.heap.size ∧ ∀ b, sv.ownBlock = some b → ¬ R b
  nA : nv.ownBlock ≠ some w0.heap.size
  sA : sv.ownBlock ≠ some w0.heap.size
  ns : ∀ b, sv.ownBlock = some b → nv.ownBlock ≠ some b
  bel : Below w0.heap.size w0 wr
theorem OInts.chg {k : IntKind} {T : Nat → Prop} {w w' : World} {B : Nat} {xs : List Int} (h : OInts k w B xs) (hc : Chg T w w') (hT : ¬ T B) : OInts k w' B xs :=
  ⟨Nat.lt_of_lt_of_le h.1 hc.size, fun i hi => ⟨hc.cell hT (h.cell hi), by rw [hc.frozen hT h.1]; exact h.free hi⟩⟩
theorem RowI.chg {T : Nat → Prop} {w w' : World} {base : Nat} {e : TypeId} {k : IntKind} {v : Value} {xs : List Int} (h : RowI w base e k v xs) (hc : Chg T w w') (hT : ∀ b, v.ownBlock = some b → ¬ T b) : RowI w' base e k v xs :=
  own_same (T := fun b => v.ownBlock = some b) h (hc.same fun b hb => ⟨own_lt h b hb, hT b hb⟩) (fun b hb => hb)
theorem ShR.push {w0 wr w2 : World} {st : List Nat} {s : St} {nv sv v' : Value} {m : Nat} (h : ShR w0 st s nv sv wr) (hc : Chg (fun b => sv.ownBlock = some b) wr w2)
    (hown : RowI w2 w0.heap.size 3 .i64 v' (stkL (m :: st))) (hv : v'.ownBlock = sv.ownBlock ∨ ∃ g, v'.ownBlock = some g ∧ wr.heap.size ≤ g) : ShR w0 (m :: st) s nv v' w2 := by
  obtain ⟨R, avs, ho, hA, hs⟩ := h.out
  have hlt := h.at_.1
  exact {
    at_ := h.at_.chg hc h.sA
    stk := hown
    out := ⟨R, avs, ho.chg hc (fun b hb e => h.ns b e hb) (fun b hb e => hs b e hb), hA, fun b hb => by
      rcases hv with e | ⟨g, e, hg⟩
      · exact hs b (by rw [← e]; exact hb)
      · rw [e] at hb; cases hb
        intro hR
        have := (ho.Rlt _ hR).2
        omega⟩
    nA := h.nA
    sA := fun e' => by
      rcases hv with e | ⟨g, e, hg⟩
      · exact h.sA (by rw [← e]; exact e')
      · rw [e] at e'; cases e'; omega
    ns := fun b hb e' => by
      rcases hv with e | ⟨g, e, hg⟩
      · exact h.ns b (by rw [← e]; exact hb) e'
      · rw [e] at hb; cases hb
        have := own_lt ho.row _ e'
        omega
    bel := h.bel.trans (hc.below h.bel.size fun b hb => own_ge h.stk b hb) }
theorem RowI.pop {w : World} {base : Nat} {e : TypeId} {k : IntKind} {b c n : Nat} {l : List Int} {x : Int} (h : RowI w base e k (.slice (some ⟨b, 0, none⟩) n c) (l ++ [x])) (hn : n = l.length + 1) : RowI w base e k (.slice (some ⟨b, 0, none⟩) l.length c) l := by
  obtain ⟨h0, ⟨e1, h1⟩ | ⟨g, cap, cur, e1, hb', hg, h1, h2, h3, h4⟩⟩ := h
  · cases e1
  · cases e1
    rw [List.length_append, List.length_singleton] at h1 h4
    refine ⟨by simp, .inr ⟨_, _, cur, rfl, hb', hg, by omega, h2, h3, ?_⟩⟩
    have e2 : cur.toList.take (l.length * 1) = (cur.toList.take ((l.length + 1) * 1)).take (l.length * 1) := by rw [List.take_take]; congr 1; omega
    rw [e2, h4, List.map_append, List.take_append_of_le_length (by simp), List.take_of_length_le (by simp)]
theorem ShR.told {w0 wr w2 : World} {st st' : List Nat} {s s' : St} {nv sv sv' nv' : Value} (h : ShR w0 st s nv sv wr) (hc : Chg (fun b => b = w0.heap.size ∨ nv.ownBlock = some b) wr w2)
    (hat : OInts .i64 w2 w0.heap.size s'.nos) (hstk : RowI wr w0.heap.size 3 .i64 sv' (stkL st')) (hsv : sv'.ownBlock = sv.ownBlock)
    (hout : ∃ R avs, OSt w0.heap.size s'.out R w2 nv' avs ∧ ∀ b, R b → (∃ R0 avs0, OSt w0.heap.size s.out R0 wr nv avs0 ∧ R0 b ∧ b ≠ w0.heap.size ∧ sv.ownBlock ≠ some b) ∨ wr.heap.size ≤ b)
    (hv : nv'.ownBlock = nv.ownBlock ∨ ∃ g, nv'.ownBlock = some g ∧ wr.heap.size ≤ g) : ShR w0 st' s' nv' sv' w2 := by
  obtain ⟨R, avs, ho, hR⟩ := hout
  have hlt := h.at_.1
  have hsl := own_lt h.stk
  obtain ⟨_, _, ho0, _, _⟩ := h.out
  exact {
    at_ := hat
    stk := hstk.chg hc fun b hb e => by
      rw [hsv] at hb
      rcases e with e | e
      · subst e; exact h.sA hb
      · exact h.ns b hb e
    out := ⟨R, avs, ho, fun hA => by
      rcases hR _ hA with ⟨_, _, _, _, h2, _⟩ | h2
      · exact h2 rfl
      · omega, fun b hb hb' => by
      rw [hsv] at hb
      rcases hR _ hb' with ⟨_, _, _, _, _, h2⟩ | h2
      · exact h2 hb
      · have := hsl b hb; omega⟩
    nA := fun e' => by
      rcases hv with e | ⟨g, e, hg⟩
      · exact h.nA (by rw [← e]; exact e')
      · rw [e] at e'; cases e'; omega
    sA := fun e' => h.sA (by rw [← hsv]; exact e')
    ns := fun b hb e' => by
      rw [hsv] at hb
      rcases hv with e | ⟨g, e, hg⟩
      · exact h.ns b hb (by rw [← e]; exact e')
      · rw [e] at e'; cases e'
        have := hsl _ hb
        omega
    bel := h.bel.trans (hc.below h.bel.size fun b hb => by
      rcases hb with hb | hb
      · omega
      · exact own_ge ho0.row b hb) }
def Fnd (out : List Nd) (y : Nd) (n : Nat) (nos : List Int) (j : Nat) (nos' : List Int) : Prop :=
  (nos' = nos ∧ ∀ k, k < j → out.getD k default ≠ y) ∨ (nos' = nos.set n (out.idxOf y : Int) ∧ y ∈ out)
theorem idxOf_first {out : List Nd} {y : Nd} {j : Nat} (hj : j < out.length) (h : ∀ k, k < j → out.getD k default ≠ y) (he : out.getD j default = y) : y ∈ out ∧ out.idxOf y = j := by
  have hm : y ∈ out := by rw [← he]; exact mem_getD hj
  refine ⟨hm, ?_⟩
  have hl := List.idxOf_lt_length_of_mem hm
  have hg : out.getD (out.idxOf y) default = y := by rw [List.getD_eq_getElem?_getD, List.getElem?_eq_getElem hl, List.getElem_idxOf]; rfl
  rcases Nat.lt_trichotomy (out.idxOf y) j with h1 | h1 | h1
  · exact absurd hg (h _ h1)
  · exact h1
  · exfalso
    have h2 := List.not_of_lt_findIdx (p := (· == y)) (xs := out) (i := j) h1
    rw [List.getD_eq_getElem?_getD, List.getElem?_eq_getElem hj] at he
    have he' : out[j] = y := he
    rw [he', beq_self_eq_true] at h2
    cases h2
theorem not_mem_of {out : List Nd} {y : Nd} (h : ∀ k, k < out.length → out.getD k default ≠ y) : y ∉ out := fun hm => by
  obtain ⟨i, hi, e⟩ := List.getElem_of_mem hm
  exact h i hi (by rw [List.getD_eq_getElem?_getD, List.getElem?_eq_getElem hi]; exact e)
structure YAt (w : World) (B : Nat) (op width flags imm : Int) (v : Value) : Prop where
  c0 : w.cell? ⟨B, 0, none⟩ = some (.int .i64 op)
  c1 : w.cell? ⟨B, 1, none⟩ = some (.int .i64 width)
  c2 : w.cell? ⟨B, 2, none⟩ = some (.int .i64 flags)
  c3 : w.cell? ⟨B, 3, none⟩ = some v
  c4 : w.cell? ⟨B, 4, none⟩ = some (.int .u32 imm)
  f3 : w.frozen? ⟨B, 3, none⟩ = false
theorem YAt.chg {T : Nat → Prop} {w w' : World} {B : Nat} {op width flags imm : Int} {v : Value} (h : YAt w B op width flags imm v) (hc : Chg T w w') (hT : ¬ T B) : YAt w' B op width flags imm v :=
  ⟨hc.cell hT h.c0, hc.cell hT h.c1, hc.cell hT h.c2, hc.cell hT h.c3, hc.cell hT h.c4, by rw [hc.frozen hT (cell_lt h.c0)]; exact h.f3⟩
theorem YAt.set {w : World} {B : Nat} {op width flags imm : Int} {v : Value} (h : YAt w B op width flags imm v) (v' : Value) : YAt (w.setCell ⟨B, 3, none⟩ v') B op width flags imm v' :=
  ⟨by rw [World.cell?_setCell_other _ _ _ _ (by intro e; cases e)]; exact h.c0, by rw [World.cell?_setCell_other _ _ _ _ (by intro e; cases e)]; exact h.c1,
   by rw [World.cell?_setCell_other _ _ _ _ (by intro e; cases e)]; exact h.c2, World.cell?_setCell_same _ _ _ h.c3,
   by rw [World.cell?_setCell_other _ _ _ _ (by intro e; cases e)]; exact h.c4, by rw [World.frozen?_setCell]; exact h.f3⟩
theorem YAt.next {W2 wx w1 : World} {X : Obj} {B base j : Nat} {op width flags imm z : Int} {v v' : Value} {l : List Int} {e : TypeId} (hY : YAt wx B op width flags imm v) (hrow : RowI wx base e .i64 v l) (hc : Chg (fun b => b = B) W2 wx) (hB : B < base)
    (hbs : W2.heap.size ≤ base) (hgrow : ((wx.alloc X).drew).grownBy w1 v.ownBlock) (hown : w1.ownsRow base e 1 v' (j + 1) (l.map (Value.int .i64) ++ [.int .i64 z])) (hl : l.length = j) :
    YAt (w1.setCell ⟨B, 3, none⟩ v') B op width flags imm v' ∧ RowI (w1.setCell ⟨B, 3, none⟩ v') base e .i64 v' (l ++ [z]) ∧ Chg (fun b => b = B) W2 (w1.setCell ⟨B, 3, none⟩ v') := by
  have hc1 : Chg (fun b => v.ownBlock = some b) wx w1 := (Chg.of_below (((Below.refl _ _).alloc (Nat.le_refl _) X).drew)).trans (Chg.of_grown hgrow (fun k hk => hk)) (fun _ _ h => h)
  have hvB : ¬ v.ownBlock = some B := fun e => by have := own_ge hrow B e; omega
  have hset : Chg (fun b => b = B) w1 (w1.setCell ⟨B, 3, none⟩ v') := (Chg.refl (fun b => b = B) w1).setCell (b := B) rfl v'
  have hrow1 : RowI w1 base e .i64 v' (l ++ [z]) := RowI.app1 hown hl rfl
  refine ⟨(hY.chg hc1 hvB).set v', hrow1.chg hset (fun b hb e => by have := own_ge hrow1 b hb; omega), ?_⟩
  refine (hc.trans hc1 ?_).trans hset (fun _ _ h => h)
  intro k hk h
  have := own_ge hrow k h
  omega
theorem gno_getD {l : List Int} {m : Nat} (h : m < l.length) : gno l m = l.getD m 0 := by
  unfold gno; rw [List.getD_eq_getElem?_getD, List.getD_eq_getElem?_getD, List.getElem?_eq_getElem h]; rfl
theorem map_take_succ {α : Type} (f : Int → α) (l : List Int) (j : Nat) (h : j < l.length) : (l.take (j + 1)).map f = (l.take j).map f ++ [f (l.getD j 0)] := by
  rw [List.take_succ_eq_append_getElem h, List.map_append, List.getD_eq_getElem?_getD, List.getElem?_eq_getElem h]; rfl
set_option maxHeartbeats 4000000 in
theorem rShared (ts : List Nd) (tv : Value) (w : World) (k : Nat) (hts : Nds w tv ts) (hd : Down ts) (hk : k < ts.length) (hl : ts.length ≤ 100000) (hn : ∀ k, k < ts.length → (nd ts k).args.length ≤ 1000) :
    Calls Tryz.prog 49 #[tv, .int .i64 (k : Int)] w fun e w' => ∃ v, e = .returned v ∧ Nds w' v (shr ts k) ∧ Below w.heap.size w w' := by
  have HT := Lib.hid hts
  have HD := Lib.hid hd
  have HN := Lib.hid hn
  have HSR := Lib.hid (fun t => stk_run hd hk t)
  obtain ⟨T0, hT1, hT2⟩ := shared_end hd hk
  have HT1 := Lib.hid hT1
  have HT2 := Lib.hid hT2
  obtain ⟨ta, tc, rfl, ht1, ht2⟩ := hts.shape
  clear hts hd hn hT1 hT2
  obtain ⟨i0, hi0, hz0, hz1, hz2⟩ := info_parts info_int
  obtain ⟨n0, hn0, hy0, hy1, hy2⟩ := info_parts info_node
  go_enter Tryz.func49, Tryz.ntmps49
  go_wp2_with (at_make; refine wpList_make_full _ rfl _ _ 63 rfl (w.heap.size) 3 i0 (.int .i64 0) 1 Tryz.underlying63 hi0 hz0 hz1 .i64 .i64 _ _ ts.length rfl rfl rfl rfl ?d1 ?d2 ?d3 ?_)
  case d1 => rw [hz2]; omega
  case d2 => unfold maxLen; omega
  case d3 => exact Nat.le_refl _
  intro w2 hown hgr
  have hO : OInts .i64 w2 w.heap.size (List.replicate 0 (-1) ++ List.replicate (ts.length - 0) 0) := (OInts.made hown : OInts .i64 w2 w.heap.size (List.replicate ts.length 0))
  have hb2 := below_made hgr
  have HO := Lib.hid hO
  have HB2 := Lib.hid hb2
  clear hown hgr hO hb2
  go_wp2_with fail
  go_loopw [7] (fun i wr => ∃ j : Nat, j ≤ ts.length ∧ i = .int .i64 j ∧ OInts .i64 wr w.heap.size (List.replicate j (-1) ++ List.replicate (ts.length - j) 0) ∧ Below w.heap.size w wr) (fun i _ => ts.length - (intOf i).toNat)
  case atStart => exact ⟨0, Nat.zero_le _, rfl, HO.out, HB2.out⟩
  case round =>
    obtain ⟨j, hj, rfl, ho, hb⟩ := hrel
    by_cases hlt : j < ts.length
    · have hlen : (List.replicate j (-1 : Int) ++ List.replicate (ts.length - j) 0).length = ts.length := by simp; omega
      have hjl : j < (List.replicate j (-1 : Int) ++ List.replicate (ts.length - j) 0).length := by omega
      have d0 := ho.cell hjl
      have d1 := ho.free hjl
      have HO1 := Lib.hid ho
      have HB1 := Lib.hid hb
      have HS1 : Hid ((List.replicate j (-1 : Int) ++ List.replicate (ts.length - j) 0).set j (-1) = List.replicate (j + 1) (-1) ++ List.replicate (ts.length - (j + 1)) 0) := by
        show _ = _
        rw [List.set_append_right _ _ (by simp), List.length_replicate, Nat.sub_self, show ts.length - j = (ts.length - (j + 1)) + 1 by omega, List.replicate_succ, List.set_cons_zero, List.replicate_succ', List.append_assoc]
        rfl
      have HJL := Lib.hid hjl
      clear ho hb hlen hjl
      generalize (List.replicate j (-1 : Int) ++ List.replicate (ts.length - j) 0) = L at *
      generalize L.getD j 0 = y at d0
      go_wp2_with fail
      go_roundw
      case rel => exact ⟨j + 1, by omega, by go_num, by rw [← HS1.out]; exact HO1.out.set HJL.out (-1), below_at HB1.out (Nat.le_refl _) _ _⟩
      case measure => simp [intOf]; omega
    · obtain rfl : j = ts.length := by omega
      have ho2 : OInts .i64 wr w.heap.size (st0 ts).nos := by
        rw [Nat.sub_self] at ho
        simpa [st0] using ho
      have HO2 := Lib.hid ho2
      have HB1 := Lib.hid hb
      have hAs := ho2.1
      clear ho ho2 hb
      go_wp2_with fail
      go_loopg [5, 8] T0 (fun g nv0 sv0 wx => ∃ (t : Nat) (nv sv : Value), nv = nv0 ∧ sv = sv0 ∧ t + g = T0 ∧ Hid (ShR w (runS ts t ([k], st0 ts)).1 (runS ts t ([k], st0 ts)).2 nv sv wx))
      case atStart =>
        refine ⟨0, _, _, rfl, rfl, by omega, ?_⟩
        exact {
          at_ := HO2.out.alloc _
          stk := ⟨by simp [stkL, runS], .inr ⟨wr.heap.size, 1, #[.int .i64 k], rfl, by omega, Array.getElem?_push_size, Nat.le_refl _, by unfold maxLen; omega, rfl, by simp [stkL, runS]⟩⟩
          out := ⟨_, _, OSt.nil _ _, fun h => h, fun b _ h => h⟩
          nA := by simp [Value.ownBlock]
          sA := by simp [Value.ownBlock]; omega
          ns := by simp [Value.ownBlock]
          bel := HB1.out.alloc (by omega) _ }
      case round =>
        obtain ⟨t, nv, sv, rfl, rfl, htg, hM⟩ := hrel
        obtain ⟨wo, rfl⟩ : ∃ wo : World, wo = wr := ⟨_, rfl⟩
        have hok := HSR.out t
        have HNX := Lib.hid (runS_add ts t 1 ([k], st0 ts))
        have HEND : Hid ((runS ts t ([k], st0 ts)).1 = [] → t = T0) := fun h => by
          by_cases e : t < T0
          · exact absurd h (HT1.out t e)
          · omega
        have HLAST : Hid (t = T0 → (runS ts t ([k], st0 ts)).1 = []) := fun h => by
          rw [h, HT2.out]
        generalize hrun : runS ts t ([k], st0 ts) = c at *
        have HRUN := Lib.hid hrun
        clear hrun
        obtain ⟨st, s⟩ := c
        simp only at hok
        have HOK := Lib.hid hok
        clear hok
        replace hM : Hid (ShR w st s nv sv wo) := hM
        cases st with
        | nil =>
          have htT := HEND.out rfl
          obtain ⟨sa, sc, hsv⟩ := hM.out.stk.shape
          rw [show (stkL []).length = 0 from rfl] at hsv
          subst hsv
          have hg0 : Hid (t = T0) := htT
          clear htT
          go_wp2_with fail
          go_ret
          obtain ⟨R, avs, ho, _, _⟩ := hM.out.out
          have hsz := HOK.out.sz
          have hsl := cnt_le s.nos
          have hln := HOK.out.len
          refine ⟨nv, rfl, ?_, hM.out.bel⟩
          have e1 := HRUN.out
          rw [hg0.out, HT2.out] at e1
          have e2 : vis ts k (st0 ts) = s := congrArg Prod.snd e1
          show Nds wo nv (vis ts k (st0 ts)).out
          rw [e2]
          exact ho.nds (by omega)
        | cons n rest =>
          have htl : t < T0 := by
            by_cases e : t = T0
            · have := HLAST.out e; cases this
            · omega
          clear HLAST HEND
          have hnl := HOK.out.lt n (List.mem_cons_self ..)
          obtain ⟨sa, sc, hsv⟩ := hM.out.stk.shape
          rw [stkL_len, List.length_cons] at hsv
          subst hsv
          have hsh := HOK.out.short
          rw [List.length_cons] at hsh
          have hrl : rest.length ≤ 100000 := by omega
          obtain ⟨sb, q0, sc', e', hsc, hsbl, dtop⟩ := (hM.out.stk.ints (by rw [stkL_len, List.length_cons]; omega)).at (j := rest.length) (by rw [stkL_len, List.length_cons]; omega)
          rw [stkL_len, List.length_cons] at e'
          cases e'
          have hform : q0 = 0 := by
            obtain ⟨_, ⟨e9, _⟩ | ⟨g9, cap9, cur9, e9, _⟩⟩ := hM.out.stk
            · simp at e9
            · simp at e9; exact e9.1.2
          subst hform
          rw [Nat.zero_add, stkL_cons, List.getD_eq_getElem?_getD, List.getElem?_append_right (by rw [stkL_len]; exact Nat.le_refl _), stkL_len, Nat.sub_self] at dtop
          rw [show ([(n : Int)][0]?).getD 0 = (n : Int) from rfl] at dtop
          rw [stkL_len, List.length_cons] at hsc
          obtain ⟨b, q, c', av, e', _, hbq, hav, c0, c1, c2, c3, c4⟩ := HT.out.at2 hM.out.bel hnl
          cases e'
          have HX : Hid (nd ts n = ts.getD n default) := rfl
          have HDA := Lib.hid (HD.out n hnl)
          have hn20 := HN.out n hnl
          rw [HX.out] at hn20
          generalize ts.getD n default = x at *
          obtain ⟨op, width, flags, args, imm⟩ := x
          simp only at hav c0 c1 c2 c3 c4 hn20
          have HAV := Lib.hid (hav.stays hM.out.bel)
          obtain ⟨aa, ac, rfl, ha1, ha2⟩ := hav.shape
          have hbs := hM.out.bel.size
          have hAs := hM.out.at_.1
          have hnos : s.nos.length = ts.length := HOK.out.len
          have HNOS := Lib.hid hnos
          have HROWA := Lib.hid (fun h0 => HAV.out.row h0)
          clear hav hnos
          go_wp2_with fail
          go_loop [11, 12] (fun mv iv => ∃ (c : Nat) (i1 : Int), iv = .int .i64 i1 ∧ Hid (i1 = (c : Int) - 1) ∧ c ≤ args.length ∧ mv = .int .i64 (misN s (args.drop c))) (fun mv iv => (intOf iv + 1).toNat)
          case atStart => exact ⟨args.length, _, rfl, rfl, Nat.le_refl _, by rw [List.drop_length]; rfl⟩
          case round =>
            obtain ⟨c, i1, rfl, hi1, hc, rfl⟩ := hrel
            by_cases hc0 : 0 < c
            · obtain ⟨c, rfl⟩ : ∃ c', c = c' + 1 := ⟨c - 1, by omega⟩
              obtain rfl : i1 = (c : Int) := by have := hi1.out; omega
              have hcl : c < args.length := hc
              obtain ⟨ab, ao, rfl, hab, hcs⟩ := HROWA.out (by omega)
              have d0 := hcs c hcl
              have hak := HDA.out (args.getD c 0) (by rw [HX.out]; exact mem_getD hcl)
              have HMS := Lib.hid (misN_drop s args c hcl)
              clear hcs
              generalize args.getD c 0 = y at *
              obtain ⟨m, rfl⟩ := Int.eq_ofNat_of_zero_le hak.1
              have hml : m < s.nos.length := by have := HNOS.out; omega
              have e0 := hM.out.at_.cell hml
              have HZ : Hid (gno s.nos m = s.nos.getD m 0) := by
                show gno s.nos m = _
                unfold gno; rw [List.getD_eq_getElem?_getD, List.getD_eq_getElem?_getD, List.getElem?_eq_getElem hml]; rfl
              generalize s.nos.getD m 0 = z at *
              generalize misN s (args.drop (c + 1)) = mm at *
              cases hz : decide (z < 0)
              · have HZ0 := Lib.hid (of_decide_eq_false hz)
                clear hml
                go_wp2_with fail
                go_round
                case rel => exact ⟨c, (c : Int) - 1, by go_num, rfl, by omega, by
                  have h := HMS.out
                  rw [Int.toNat_natCast, HZ.out, if_neg HZ0.out] at h
                  rw [h]⟩
                case measure => simp [intOf] <;> omega
              · have HZ0 := Lib.hid (of_decide_eq_true hz)
                clear hml
                go_wp2_with fail
                go_round
                case rel => exact ⟨c, (c : Int) - 1, by go_num, rfl, by omega, by
                  have h := HMS.out
                  rw [Int.toNat_natCast, HZ.out, if_pos HZ0.out] at h
                  rw [h]⟩
                case measure => simp [intOf] <;> omega
            · obtain rfl : c = 0 := by omega
              obtain rfl : i1 = -1 := by have := hi1.out; omega
              clear hi1 hc0
              have HMI : Hid (misN s (args.drop 0) = misN s args) := rfl
              generalize misN s (args.drop 0) = mi at *
              cases hmis : missing s args with
              | some a =>
                have HMIS := Lib.hid hmis
                have HMEM := Lib.hid (missing_mem hmis).1
                have ham := HDA.out a (by rw [HX.out]; exact (missing_mem hmis).1)
                obtain rfl : mi = a := by rw [HMI.out]; exact misN_some hmis
                obtain ⟨m, rfl⟩ := Int.eq_ofNat_of_zero_le ham.1
                clear hmis
                have HR1 : Hid ((wo.alloc (.cells #[.int .i64 op, .int .i64 width, .int .i64 flags, .slice aa args.length ac, .int .u32 imm] 65)).ownsRow w.heap.size 3 1 (.slice (some ⟨sb, 0, none⟩) (rest.length + 1) sc) (rest.length + 1) ((stkL (n :: rest)).map (Value.int .i64))) := by
                  have h9 := RowI.below hM.out.stk ((Below.refl _ _).alloc (Nat.le_refl _) (.cells #[.int .i64 op, .int .i64 width, .int .i64 flags, .slice aa args.length ac, .int .u32 imm] 65))
                  unfold RowI at h9
                  rw [stkL_len, List.length_cons] at h9
                  exact h9
                go_wp2_with (at_builtin; go_must (refine wpList_append_own_at _ rfl _ _ 63 rfl w.heap.size 3 i0 (.int .i64 0) 1 8 Tryz.underlying63 hi0 hz0 hz1 hz2 rfl (by decide) _ _ _ rfl (HR1.out.alloc _) ⟨wo.heap.size + 1, 0, none⟩ 1 1 [.int .i64 m] rfl rfl ?p1x1 ?p2x1 ?p3x1 ?p4x1 ?p5x1 ?_))
                try case p1x1 =>
                  intro i u h
                  rcases i with _ | i
                  · cases h; simp [go_sem, Addr.add]
                  · cases h
                try case p2x1 => simp [Value.oneCell']
                try case p3x1 => unfold maxLen; omega
                try case p4x1 => omega
                try case p5x1 => first | omega | (simp; done) | (simp; omega)
                intro v' w3 hown' hgrow _ hat
                have HOW := Lib.hid hown'
                have HGR := Lib.hid hgrow
                have HAT := Lib.hid hat
                clear hown' hgrow hat
                go_wp2_with fail
                go_roundg (gk - 1)
                case measure => omega
                case rel =>
                  refine ⟨t + 1, _, _, rfl, rfl, by omega, ?_⟩
                  have e1 := HNX.out
                  rw [runS_one, stp_some (a := (m : Int)) (by rw [HX.out]; exact HMIS.out), Int.toNat_natCast] at e1
                  rw [e1]
                  refine hM.out.push (Chg.trans (Chg.of_below (((Below.refl _ _).alloc (Nat.le_refl _) _).alloc (by simp) _)) (Chg.of_grown HGR.out (fun k hk => hk)) (fun _ _ h => h)) ?_ (HAT.out.elim .inl fun h => .inr ⟨_, h, by first | omega | (simp; done) | (simp; omega)⟩)
                  rw [stkL_cons]
                  exact RowI.app1 HOW.out (by rw [stkL_len, List.length_cons]) rfl
              | none =>
                have HMIS := Lib.hid hmis
                obtain rfl : mi = -1 := by rw [HMI.out]; exact misN_none hmis
                clear hmis
                go_wp2_with fail
                go_loopw [14] (fun iv wx => ∃ (j : Nat) (v : Value), iv = .int .i64 j ∧ j ≤ args.length ∧ YAt wx (wo.heap.size + 1) op width flags imm v ∧ RowI wx (wo.heap.size + 2) 3 .i64 v ((args.take j).map fun a => gno s.nos a.toNat) ∧ Chg (fun b => b = wo.heap.size + 1) ((wo.alloc (.cells #[.int .i64 op, .int .i64 width, .int .i64 flags, .slice aa args.length ac, .int .u32 imm] 65)).alloc (.cells #[.int .i64 op, .int .i64 width, .int .i64 flags, .slice none 0 0, .int .u32 imm] 65)) wx) (fun iv _ => args.length - (intOf iv).toNat)
                case atStart =>
                  refine ⟨0, _, rfl, Nat.zero_le _, ⟨by simp [go_sem], by simp [go_sem], by simp [go_sem], by simp [go_sem], by simp [go_sem], by simp [go_sem]⟩, RowI.nil _ _ _ _, Chg.refl _ _⟩
                case round =>
                  obtain ⟨j, v, rfl, hj, hY, hrow, hcg⟩ := hrel
                  have hz2s := hcg.size
                  simp only [World.size_alloc] at hz2s
                  have hcw : Chg (fun _ => False) wo wr := (Chg.of_below (((Below.refl _ _).alloc (Nat.le_refl _) _).alloc (by simp) _)).trans hcg (fun k hk h => by omega)
                  have q3 : wr.cell? ⟨wo.heap.size, 3, none⟩ = some (.slice aa args.length ac) := hcg.cell (by omega) (by simp [go_sem])
                  have q0 : wr.cell? ⟨wo.heap.size, 0, none⟩ = some (.int .i64 op) := hcg.cell (by omega) (by simp [go_sem])
                  have hAt := hM.out.at_.chg hcw (fun h => h)
                  by_cases hlt : j < args.length
                  · obtain ⟨ab, ao, rfl, hab, hcs⟩ := HROWA.out (by omega)
                    have q1 := hcw.cell (fun h => h) (hcs j hlt)
                    have hak := HDA.out (args.getD j 0) (by rw [HX.out]; exact mem_getD hlt)
                    have HMT := Lib.hid (map_take_succ (fun a => gno s.nos a.toNat) args j hlt)
                    have HLT := Lib.hid (show ((args.take j).map fun a => gno s.nos a.toNat).length = j by rw [List.length_map, List.length_take, Nat.min_eq_left hj])
                    clear hcs
                    generalize args.getD j 0 = y at *
                    obtain ⟨m, rfl⟩ := Int.eq_ofNat_of_zero_le hak.1
                    have hml : m < s.nos.length := by have := HNOS.out; omega
                    have q2 := hAt.cell hml
                    have HZ := Lib.hid (gno_getD hml)
                    have hm1 : m < ts.length := by omega
                    have hm2 : (m : Int) < ts.length := by omega
                    have hj2 : (j : Int) < args.length := by omega
                    obtain ⟨va, vc, rfl⟩ := hrow.shape
                    rw [HLT.out] at hY hrow
                    have q4 := hY.c3
                    have q5 := hY.f3
                    have HROW : Hid (wr.ownsRow (wo.heap.size + 2) 3 1 (.slice va j vc) j (((args.take j).map fun a => gno s.nos a.toNat).map (Value.int .i64))) := by
                      unfold RowI at hrow
                      rw [HLT.out] at hrow
                      exact hrow
                    have hnb : some (wo.heap.size + 1) ≠ (Value.slice va j vc).ownBlock := fun e => by have := own_ge hrow _ e.symm; omega
                    have HY := Lib.hid hY
                    have HRW := Lib.hid hrow
                    have HCG := Lib.hid hcg
                    clear hml hAt hcw hY hrow hcg
                    generalize s.nos.getD m 0 = z at *
                    generalize ((args.take j).map fun a => gno s.nos a.toNat) = gl at *
                    go_wp2_with fail
                    have hfz : ∀ ob, (wr.alloc ob).frozen? ⟨wo.heap.size + 1, 3, none⟩ = false := fun ob => by rw [← q5]; exact ((Below.refl _ _).alloc (Nat.le_refl _) ob).frozen (p := ⟨wo.heap.size + 1, 3, none⟩) (by simp; omega)
                    have hcz : ∀ ob, (wr.alloc ob).drew.cell? ⟨wo.heap.size + 1, 3, none⟩ = some (.slice va j vc) := fun ob => below_cell (B := wr.heap.size) (((Below.refl _ _).alloc (Nat.le_refl _) ob).drew) (by omega) q4
                    have hfz2 : ∀ ob, (wr.alloc ob).drew.frozen? ⟨wo.heap.size + 1, 3, none⟩ = false := hfz
                    go_region_law ((refine step_append_lies _ (by rfl) _ _ _ (by rfl) (wo.heap.size + 2) 3 i0 _ 1 8 Tryz.underlying63 hi0 hz0 hz1 hz2 rfl (by omega) (.slice va j vc) j (gl.map (Value.int .i64)) (by rfl) (((HROW.out).alloc _).drew) ⟨wr.heap.size, 0, none⟩ 1 1 [.int .i64 z] (by rfl) (by rfl) (World.news_of_block (cs := #[.int .i64 z]) (t := 3) (fr := (0, 0)) (heap_alloc_new wr _)) (by simp [Value.oneCell']) (by omega) (by unfold maxLen; omega) (by omega) (by simp; omega) (wr.heap.size + 1) (by simp) ?_; intro gg cap w1 hown1 hgrow hat hlt2; have G0 := (hgrow.cell_far ⟨wo.heap.size + 1, 3, none⟩ (by simp; omega) hnb).trans (hcz _); have G1 := (hgrow.frozen_far ⟨wo.heap.size + 1, 3, none⟩ (by simp; omega) hnb).trans (hfz2 _)))
                    all_goals
                      clear hfz hfz2 hcz
                      go_wp2_with fail
                      go_roundw
                      case rel =>
                        obtain ⟨r1, r2, r3⟩ := HY.out.next HRW.out HCG.out (by omega) (by simp) hgrow hown1 HLT.out
                        rw [Int.toNat_natCast, HZ.out] at HMT
                        exact ⟨j + 1, _, by go_num, by omega, r1, by rw [HMT.out]; exact r2, r3⟩
                      case measure => simp [intOf] <;> omega
                  · obtain rfl : j = args.length := by omega
                    obtain ⟨w5, rfl⟩ : ∃ w5 : World, w5 = wr := ⟨_, rfl⟩
                    have HYN : Hid (mapN s (nd ts n) = ⟨op, width, flags, args.map fun a => gno s.nos a.toNat, imm⟩) := by
                      show _ = _
                      rw [HX.out]; rfl
                    rw [List.take_length] at hrow
                    have HCW := Lib.hid hcw
                    have HRW := Lib.hid hrow
                    have HY := Lib.hid hY
                    have hmz : (args.map fun a => gno s.nos a.toNat).length ≤ 1000 := by rw [List.length_map]; exact hn20
                    generalize (args.map fun a => gno s.nos a.toNat) = yl at *
                    obtain ⟨va, vc, rfl⟩ := hrow.shape
                    have h5s := hcw.size
                    obtain ⟨R, avs, hos, hRA, hsR⟩ := hM.out.out
                    have HOSW := Lib.hid hos
                    have HOS5 := Lib.hid (hos.chg hcw (fun _ _ h => h) (fun _ _ h => h))
                    have HRA := Lib.hid hRA
                    have HSR2 := Lib.hid hsR
                    obtain ⟨na, nc, rfl⟩ := own_shape hos.row
                    have hln := HOK.out.len
                    have hsz5 := HOK.out.sz
                    have hcl5 := cnt_le s.nos
                    have hso : s.out.length ≤ 100000 := by omega
                    have hun := HOK.out.un n (List.mem_cons_self ..)
                    have hnl2 : (n : Int) < ts.length := by omega
                    have HATF := Lib.hid (fun i hi => hAt.cell (i := i) hi)
                    have HAT5 := Lib.hid hAt
                    have HUN := Lib.hid hun
                    have HLN := Lib.hid hln
                    clear hcg hz2s q0 hAt hcw hY hrow hos hRA hsR hln hsz5 hcl5 hun
                    go_wp2_with fail
                    go_loopw [15] (fun iv wx => ∃ (j : Nat) (nos' : List Int), iv = .int .i64 j ∧ j ≤ s.out.length ∧ Hid (Fnd s.out ⟨op, width, flags, yl, imm⟩ n s.nos j nos') ∧ Hid (nos'.length = ts.length) ∧ OInts .i64 wx w.heap.size nos' ∧ Chg (fun b => b = w.heap.size) w5 wx) (fun iv _ => s.out.length - (intOf iv).toNat)
                    case atStart => exact ⟨0, s.nos, rfl, Nat.zero_le _, .inl ⟨rfl, fun k hk => absurd hk (by omega)⟩, HLN.out, HAT5.out, Chg.refl _ _⟩
                    case round =>
                      obtain ⟨j, nos', rfl, hj, hF, HL', ho', hc'⟩ := hrel
                      have hnn : n < nos'.length := by rw [HL'.out]; exact hnl
                      have q2 := ho'.cell hnn
                      have q2f := ho'.free hnn
                      have HZ := Lib.hid (gno_getD hnn)
                      have hcs5 := hc'.size
                      have hYr := HY.out.chg hc' (by omega)
                      have hos := HOS5.out.chg hc' (fun b hb e => by subst e; exact hM.out.nA hb) (fun b hb e => by subst e; exact HRA.out hb)
                      have y0 := hYr.c0
                      have y1 := hYr.c1
                      have y2 := hYr.c2
                      have y3 := hYr.c3
                      have y4 := hYr.c4
                      have HO' := Lib.hid ho'
                      have HC' := Lib.hid hc'
                      have HOSR := Lib.hid hos
                      have HRWR := Lib.hid (HRW.out.chg hc' (fun b hb e => by have := own_ge HRW.out b hb; omega))
                      clear hnn ho' hc' hYr hos
                      rcases hF.out with ⟨e9, hall⟩ | ⟨e9, hmem⟩
                      · subst e9
                        have HALL := Lib.hid hall
                        have hzn : s.nos.getD n 0 < 0 := by rw [← HZ.out]; exact HUN.out
                        clear hall
                        generalize s.nos.getD n 0 = z at *
                        by_cases hlt : j < s.out.length
                        · have hj2 : (j : Int) < s.out.length := by omega
                          have hj3 : (0 : Int) ≤ j := by omega
                          obtain ⟨b5, q5, c5, av5, e', _, hbq5, hav5, d0, d1, d2, d3, d4⟩ := (HOSR.out.nds hso).at2 (Below.refl _ _) hlt
                          cases e'
                          have HXX := Lib.hid (show ∀ P : Nd → Prop, P (s.out.getD j default) → P (s.out.getD j default) from fun _ h => h)
                          generalize hx5 : s.out.getD j default = x5 at *
                          have HX5 := Lib.hid hx5
                          clear hx5 HXX
                          obtain ⟨op', width', flags', args', imm'⟩ := x5
                          simp only at hav5 d0 d1 d2 d3 d4
                          have HAV5 := Lib.hid hav5
                          clear hav5
                          have HIY := Lib.hid (HRWR.out.ints (by omega))
                          have h00 := Since.refl wr
                          have r0 : ∀ wk, Since wr wk → wk.cell? ⟨b5, q5 + j * 5, none⟩ = some (.int .i64 op') := fun wk h => h.cell d0
                          have r1 : ∀ wk, Since wr wk → wk.cell? ⟨b5, q5 + j * 5 + 1, none⟩ = some (.int .i64 width') := fun wk h => h.cell d1
                          have r2 : ∀ wk, Since wr wk → wk.cell? ⟨b5, q5 + j * 5 + 2, none⟩ = some (.int .i64 flags') := fun wk h => h.cell d2
                          have r3 : ∀ wk, Since wr wk → wk.cell? ⟨b5, q5 + j * 5 + 3, none⟩ = some av5 := fun wk h => h.cell d3
                          have r4 : ∀ wk, Since wr wk → wk.cell? ⟨b5, q5 + j * 5 + 4, none⟩ = some (.int .u32 imm') := fun wk h => h.cell d4
                          have s0 : ∀ wk, Since wr wk → wk.cell? ⟨wo.heap.size + 1, 0, none⟩ = some (.int .i64 op) := fun wk h => h.cell y0
                          have s1 : ∀ wk, Since wr wk → wk.cell? ⟨wo.heap.size + 1, 1, none⟩ = some (.int .i64 width) := fun wk h => h.cell y1
                          have s2 : ∀ wk, Since wr wk → wk.cell? ⟨wo.heap.size + 1, 2, none⟩ = some (.int .i64 flags) := fun wk h => h.cell y2
                          have s3 : ∀ wk, Since wr wk → wk.cell? ⟨wo.heap.size + 1, 3, none⟩ = some (.slice va yl.length vc) := fun wk h => h.cell y3
                          have s4 : ∀ wk, Since wr wk → wk.cell? ⟨wo.heap.size + 1, 4, none⟩ = some (.int .u32 imm) := fun wk h => h.cell y4
                          have t0 : ∀ wk, Since wr wk → wk.cell? ⟨w.heap.size, n, none⟩ = some (.int .i64 z) := fun wk h => h.cell q2
                          have hAr := HO'.out.1
                          have t1 : ∀ wk, Since wr wk → wk.frozen? ⟨w.heap.size, n, none⟩ = false := fun wk h => h.free hAr q2f
                          clear d0 d1 d2 d3 d4 y0 y1 y2 y3 y4
                          have HC : Hid (∀ wk, Since wr wk → Calls Tryz.prog 92 #[.agg #[.int .i64 op', .int .i64 width', .int .i64 flags', av5, .int .u32 imm'], .agg #[.int .i64 op, .int .i64 width, .int .i64 flags, .slice va yl.length vc, .int .u32 imm]] wk fun e w' => e = .returned (.bool (decide ((⟨op', width', flags', args', imm'⟩ : Nd) = ⟨op, width, flags, yl, imm⟩))) ∧ Below wk.heap.size wk w') :=
                            fun wk h => rSameNode ⟨op', width', flags', args', imm'⟩ ⟨op, width, flags, yl, imm⟩ av5 (.slice va yl.length vc) wk (HAV5.out.stays h) (HIY.out.stays h)
                          generalize hz : decide ((⟨op', width', flags', args', imm'⟩ : Nd) = ⟨op, width, flags, yl, imm⟩) = zb at *
                          have HZB := Lib.hid hz
                          clear hz
                          go_wp2_with fail
                          go_region_held3 (fun wk => Since wr wk) (first | assumption | exact Since.drew (by assumption) | exact Since.next (by assumption) (by assumption)) (first | (go_at_call 92; (with_reducible refine (HC.out _ (by assumption)).mono ?_); rintro e w' ⟨rfl, hb⟩))
                          clear r0 r1 r2 r3 r4 s0 s1 s2 s3 s4 h00
                          cases zb
                          · clear t0 t1
                            go_wp2_with fail
                            go_roundw
                            case rel => exact ⟨j + 1, s.nos, by go_num, by omega, .inl ⟨rfl, fun k hk => by
                              by_cases e : k = j
                              · subst e; rw [HX5.out]; exact of_decide_eq_false HZB.out
                              · exact HALL.out k (by omega)⟩, HL'.out, HO'.out.below (show Since wr _ by assumption), HC'.out.trans (Chg.of_below (T := fun _ => False) (show Since wr _ by assumption)) (fun _ _ h => h.elim)⟩
                            case measure => simp [intOf] <;> omega
                          · go_wp2_with fail
                            go_roundw
                            case rel =>
                              have hi := idxOf_first hlt HALL.out (by rw [HX5.out]; exact of_decide_eq_true HZB.out)
                              refine ⟨j + 1, s.nos.set n (j : Int), by go_num, by omega, .inr ⟨by rw [hi.2], hi.1⟩, by show (s.nos.set n _).length = _; rw [List.length_set]; exact HL'.out, ?_, ?_⟩
                              · exact (HO'.out.below (show Since wr _ by assumption)).set (by rw [HL'.out]; exact hnl) _
                              · exact (HC'.out.trans (Chg.of_below (T := fun _ => False) (show Since wr _ by assumption)) (fun _ _ h => h.elim)).setCell rfl _
                            case measure => simp [intOf] <;> omega
                        · obtain rfl : j = s.out.length := by omega
                          have HNM := Lib.hid (not_mem_of HALL.out)
                          have hAr := HO'.out.1
                          have hset : Chg (fun b => b = w.heap.size) wr (wr.setCell ⟨w.heap.size, n, none⟩ (.int .i64 (s.out.length : Int))) := (Chg.refl (fun b => b = w.heap.size) wr).setCell (b := w.heap.size) rfl _
                          have hos6 := HOSR.out.chg hset (fun b hb e => by subst e; exact hM.out.nA hb) (fun b hb e => by subst e; exact HRA.out hb)
                          have HOS6 := Lib.hid hos6
                          have HROW : Hid ((wr.setCell ⟨w.heap.size, n, none⟩ (.int .i64 (s.out.length : Int))).ownsRow w.heap.size 65 5 (.slice na s.out.length nc) s.out.length (rowsC s.out avs)) := hos6.row
                          have HRW6 := Lib.hid (HRWR.out.chg hset (fun b hb e => by have := own_ge HRW.out b hb; omega))
                          have HSET := Lib.hid hset
                          have hne : ¬ wo.heap.size + 1 = w.heap.size := by omega
                          clear hset hos6
                          go_wp2_with (at_builtin; go_must (refine wpList_append_own_at _ rfl _ _ 27 rfl w.heap.size 65 n0 _ 5 56 Tryz.underlying27 hn0 hy0 hy1 hy2 rfl (by decide) _ _ _ rfl (HROW.out.alloc _) ⟨_, 0, none⟩ 1 1 [.int .i64 op, .int .i64 width, .int .i64 flags, .slice va yl.length vc, .int .u32 imm] rfl rfl ?d1x5 ?d2x5 ?d3x5 ?d4x5 ?d5x5 ?_))
                          try case d1x5 =>
                            intro i u h
                            rcases i with _ | _ | _ | _ | _ | i <;> first | (cases h; simp [go_sem, Addr.add]) | cases h
                          try case d2x5 => simp [Value.oneCell']
                          try case d3x5 => unfold maxLen; omega
                          try case d4x5 => omega
                          try case d5x5 => first | omega | (simp; done) | (simp; omega)
                          intro v' w7 hown' hgrow _ hat
                          have HOW := Lib.hid hown'
                          have HGR := Lib.hid hgrow
                          have HATV := Lib.hid hat
                          clear hown' hgrow hat
                          go_wp2_with fail
                          go_roundg (gk - 1)
                          case measure => omega
                          case rel =>
                            refine ⟨t + 1, _, _, rfl, rfl, by omega, ?_⟩
                            have e1 := HNX.out
                            rw [runS_one, stp_none (by rw [HX.out]; exact HMIS.out)] at e1
                            rw [e1]
                            have ht : tell ts n s = ⟨s.out ++ [⟨op, width, flags, yl, imm⟩], s.nos.set n (s.out.length : Int)⟩ := by unfold tell; rw [HYN.out]; unfold addN; rw [if_neg HNM.out]
                            show ShR w rest (tell ts n s) v' _ w7
                            rw [ht]
                            have hz6 : (wr.setCell ⟨w.heap.size, n, none⟩ (.int .i64 (s.out.length : Int))).heap.size = wr.heap.size := by simp [World.setCell]
                            have hgr : Chg (fun b => (Value.slice na s.out.length nc).ownBlock = some b) (wr.setCell ⟨w.heap.size, n, none⟩ (.int .i64 (s.out.length : Int))) w7 := (Chg.of_below ((Below.refl _ _).alloc (Nat.le_refl _) _)).trans (Chg.of_grown HGR.out (fun k hk => hk)) (fun _ _ h => h)
                            have hstk := hM.out.stk
                            rw [stkL_cons] at hstk
                            have hstk2 := hstk.pop (by rw [stkL_len])
                            rw [stkL_len] at hstk2
                            have hno := own_lt HOSW.out.row
                            have hAT7 : (v'.ownBlock = (Value.slice na s.out.length nc).ownBlock ∨ ∃ g, v'.ownBlock = some g ∧ wr.heap.size ≤ g) := HATV.out.elim .inl fun h => .inr ⟨_, h, by first | omega | (simp; done) | (simp; omega)⟩
                            refine hM.out.told (((HCW.out.mono (T := fun b => b = w.heap.size ∨ (Value.slice na s.out.length nc).ownBlock = some b) (fun _ _ h => h.elim)).trans (HC'.out.trans HSET.out (fun _ _ h => h)) (fun _ _ h => .inl h)).trans hgr (fun _ _ h => .inr h)) (((HO'.out.set (by rw [HLN.out]; exact hnl) _).chg hgr hM.out.nA)) hstk2 rfl ⟨_, _, OSt.add HOS6.out (HRW6.out.intsF (by omega)) (fun b hb => ⟨fun e => by have := hno b e; have := own_ge HRW.out b hb; omega, by have := own_ge HRW.out b hb; omega, own_lt HRW6.out b hb⟩) hgr HOW.out (by rw [hz6]; exact hAT7), ?_⟩ (hAT7.imp_right fun ⟨g, h1, h2⟩ => ⟨g, h1, by omega⟩)
                            rintro b (hb | hb)
                            · exact .inl ⟨R, avs, HOSW.out, hb, fun e => HRA.out (e ▸ hb), fun e => HSR2.out b e hb⟩
                            · exact .inr (by have := own_ge HRW.out b hb; omega)
                      · subst e9
                        have hzn : ¬ (s.nos.set n (s.out.idxOf ⟨op, width, flags, yl, imm⟩ : Int)).getD n 0 < 0 := by
                          rw [List.getD_eq_getElem?_getD, List.getElem?_set_self (by rw [HLN.out]; exact hnl)]
                          simp
                        have HMEM := Lib.hid hmem
                        clear hmem
                        generalize (s.nos.set n (s.out.idxOf ⟨op, width, flags, yl, imm⟩ : Int)).getD n 0 = z at *
                        generalize hxs : s.nos.set n (s.out.idxOf ⟨op, width, flags, yl, imm⟩ : Int) = xs at *
                        have HXS := Lib.hid hxs
                        clear hxs
                        by_cases hlt : j < s.out.length
                        all_goals
                          go_wp2_with fail
                          go_roundg (gk - 1)
                          case measure => omega
                          case rel =>
                            refine ⟨t + 1, _, _, rfl, rfl, by omega, ?_⟩
                            have e1 := HNX.out
                            rw [runS_one, stp_none (by rw [HX.out]; exact HMIS.out)] at e1
                            rw [e1]
                            have ht : tell ts n s = ⟨s.out, xs⟩ := by unfold tell; rw [HYN.out]; unfold addN; rw [if_pos HMEM.out, HXS.out]
                            show ShR w rest (tell ts n s) _ _ wr
                            rw [ht]
                            have hstk := hM.out.stk
                            rw [stkL_cons] at hstk
                            have hstk2 := hstk.pop (by rw [stkL_len])
                            rw [stkL_len] at hstk2
                            exact hM.out.told ((HCW.out.mono (T := fun b => b = w.heap.size ∨ (Value.slice na s.out.length nc).ownBlock = some b) (fun _ _ h => h.elim)).trans HC'.out (fun _ _ h => .inl h)) HO'.out hstk2 rfl ⟨R, avs, HOSR.out, fun b hb => .inl ⟨R, avs, HOSW.out, hb, fun e => HRA.out (e ▸ hb), fun e => HSR2.out b e hb⟩⟩ (.inl rfl)
end Go.Proofs.YtgcfadnnajahhaaGreatDoor
namespace Go.Proofs.YtgcfadnnajahhaaGreatDoor
open Go.RowKit Wd
set_option linter.unusedVariables false
set_option linter.unusedSimpArgs false
theorem valid_down {ts : List Nd} (h : valE ts = 0) : Down ts := fun k hk a ha => (shaped_facts (okS_at (valid_facts h).2.2.1 hk)).2.1 a ha
theorem shr_node {ts : List Nd} (hd : Down ts) {k : Nat} (hk : k < ts.length) {i : Nat} (hi : i < (shr ts k).length) : ∃ j, j < ts.length ∧ (vis ts k (st0 ts)).told j ∧ (vis ts k (st0 ts)).no j = i ∧ (shr ts k).getD i default = mapN (vis ts k (st0 ts)) (nd ts j) := by
  obtain ⟨w, t⟩ := vis_inv hd hk (st0_inv ts)
  obtain ⟨j, h1, h2⟩ := w.inv.src i hi
  refine ⟨j, told_lt w.inv h1, h1, h2, ?_⟩
  have := w.inv.node j h1
  rw [h2, Int.toNat_natCast] at this
  exact this
theorem shaped_map {s : St} {x : Nd} {j i : Nat} (h : shaped j x = true) (ha : ∀ a ∈ x.args, 0 ≤ s.no a.toNat ∧ s.no a.toNat < i) : shaped i (mapN s x) = true := by
  unfold shaped at h ⊢
  simp only [Bool.and_eq_true] at h ⊢
  obtain ⟨⟨⟨⟨⟨⟨⟨h1, h2⟩, h3⟩, h4⟩, h5⟩, h6⟩, h7⟩, h8⟩ := h
  refine ⟨⟨⟨⟨⟨⟨⟨h1, h2⟩, h3⟩, h4⟩, ?_⟩, h6⟩, h7⟩, ?_⟩
  · show (!(((x.args.map _).length : Int) != arV x.op)) = true
    rw [List.length_map]; exact h5
  · rw [Bool.not_eq_true', List.any_eq_false]
    intro a hm
    obtain ⟨b, hb, rfl⟩ := List.mem_map.1 (show a ∈ x.args.map _ from hm)
    have := ha b hb
    simp [bad]; omega
theorem shr_okS {ts : List Nd} (h : valE ts = 0) {k : Nat} (hk : k < ts.length) : okS (shr ts k) = true := by
  have hd := valid_down h
  obtain ⟨w, t⟩ := vis_inv hd hk (st0_inv ts)
  refine okS_good fun i hi => ?_
  obtain ⟨j, hj, ht, hn, he⟩ := shr_node hd hk hi
  rw [he]
  refine shaped_map (okS_at (valid_facts h).2.2.1 hj) fun a ha => ?_
  have h1 := w.inv.low i hi ((vis ts k (st0 ts)).no a.toNat) (by
    show _ ∈ ((shr ts k).getD i default).args
    rw [he]
    exact List.mem_map.2 ⟨a, ha, rfl⟩)
  exact h1
theorem wdt_map {ts : List Nd} (hd : Down ts) {k : Nat} (hk : k < ts.length) {j : Nat} (hj : (vis ts k (st0 ts)).told j) (hjl : j < ts.length) {i : Nat} (hi : i < (nd ts j).args.length) :
    wdt (shr ts k) (mapN (vis ts k (st0 ts)) (nd ts j)).args i = wdt ts (nd ts j).args i := by
  obtain ⟨w, t⟩ := vis_inv hd hk (st0_inv ts)
  have hm := getD_mem0 hi
  have ht := w.inv.cls j hj _ hm
  have hnode := w.inv.node _ ht
  unfold wdt
  have e : (mapN (vis ts k (st0 ts)) (nd ts j)).args.getD i 0 = (vis ts k (st0 ts)).no ((nd ts j).args.getD i 0).toNat := by
    show ((nd ts j).args.map _).getD i 0 = _
    rw [List.getD_eq_getElem?_getD, List.getElem?_map, List.getElem?_eq_getElem hi, List.getD_eq_getElem?_getD, List.getElem?_eq_getElem hi]; rfl
  rw [e]
  show ((vis ts k (st0 ts)).out.getD _ default).width = _
  rw [hnode]; rfl
theorem shr_okT {ts : List Nd} (h : valE ts = 0) {k : Nat} (hk : k < ts.length) : okT (shr ts k) = true := by
  have hd := valid_down h
  refine okT_good fun i hi => ?_
  obtain ⟨j, hj, ht, hn, he⟩ := shr_node hd hk hi
  rw [he]
  have hok := nodeOk h hj
  have hty := hok.typ
  have hlen := hok.len
  have har := hok.ar
  have hw := fun i (hi : i < (nd ts j).args.length) => wdt_map hd hk ht hj hi
  have e1 : (mapN (vis ts k (st0 ts)) (nd ts j)).op = (nd ts j).op := rfl
  have e2 : (mapN (vis ts k (st0 ts)) (nd ts j)).width = (nd ts j).width := rfl
  change typed ts (nd ts j) = true at hty
  change ((nd ts j).args.length : Int) = arV (nd ts j).op at hlen
  change arV (nd ts j).op ≠ -1 at har
  unfold typed at hty ⊢
  rw [e1, e2]
  rcases arV_cases (nd ts j).op with ⟨c | c, e0⟩ | ⟨⟨c1, c2⟩, e0⟩ | ⟨c, e0⟩ | ⟨⟨c1, c2⟩, e0⟩ | ⟨c, e0⟩
  · rw [c]; simp
  · rw [c]; simp
  · rw [hw 0 (by omega), hw 1 (by omega)]
    by_cases c14 : (nd ts j).op = 14
    · rw [c14] at hty ⊢; simpa using hty
    · rw [if_pos ⟨c1, by omega⟩] at hty ⊢; exact hty
  · rw [hw 0 (by omega), hw 1 (by omega), hw 2 (by omega)]; exact hty
  · have c3 : (nd ts j).op = 16 ∨ (nd ts j).op = 17 ∨ (nd ts j).op = 18 := by omega
    rw [hw 0 (by omega)]
    rcases c3 with c | c | c <;> rw [c] at hty ⊢ <;> simpa using hty
  · exact absurd e0 har
theorem shr_imm {ts : List Nd} (hd : Down ts) (hI : ∀ x ∈ ts, 0 ≤ x.imm ∧ x.imm ≤ 4294967295) {k : Nat} (hk : k < ts.length) : ∀ x ∈ shr ts k, 0 ≤ x.imm ∧ x.imm ≤ 4294967295 := by
  intro x hx
  obtain ⟨i, hi, rfl⟩ := List.getElem_of_mem hx
  obtain ⟨j, hj, _, _, he⟩ := shr_node hd hk hi
  rw [List.getD_eq_getElem?_getD, List.getElem?_eq_getElem hi] at he
  have he' : (shr ts k)[i] = mapN (vis ts k (st0 ts)) (nd ts j) := he
  rw [he']
  have := hI _ (mem_getD hj)
  exact this
theorem shr_len {ts : List Nd} (hd : Down ts) {k : Nat} (hk : k < ts.length) : (shr ts k).length ≤ ts.length := by
  obtain ⟨w, t⟩ := vis_inv hd hk (st0_inv ts)
  have hsub : (List.range (shr ts k).length) ⊆ ((List.range ts.length).map fun j => ((vis ts k (st0 ts)).no j).toNat) := by
    intro i hi
    obtain ⟨j, hj, _, hn, _⟩ := shr_node hd hk (List.mem_range.1 hi)
    exact List.mem_map.2 ⟨j, List.mem_range.2 hj, by rw [hn]; simp⟩
  have := (List.nodup_range (n := (shr ts k).length)).length_le_of_subset hsub
  simpa using this
theorem shr_valid {ts : List Nd} (h : valE ts = 0) (hI : ∀ x ∈ ts, 0 ≤ x.imm ∧ x.imm ≤ 4294967295) {k : Nat} (hk : k < ts.length) : valE (shr ts k) = 0 := by
  have hd := valid_down h
  obtain ⟨v1, v2, hS, hT, l, hl⟩ := valid_facts h
  have hlen := shr_len hd hk
  have hroot := shr_root hd hk
  refine valE_0 (by omega) (shr_okS h hk) (shr_okT h hk) (wmap_calm (fun x hx => (shr_imm hd hI hk x hx).1) (fun i hi => okS_at (shr_okS h hk) hi) ?_)
  intro k2 hk2 i2 hi2
  rw [Bool.eq_false_iff]
  intro hc
  obtain ⟨c1, c2, c3, c4⟩ := (clash_iff _ _).1 hc
  obtain ⟨j, hj, _, _, he⟩ := shr_node hd hk hk2
  obtain ⟨j2, hj2, _, _, he2⟩ := shr_node hd hk (show i2 < (shr ts k).length by omega)
  rw [he, he2] at c3 c4
  rw [he] at c2
  rw [he2] at c1
  have inv := (wmap_inv (fun x hx => (hI x hx).1) (fun i hi => okS_at hS hi) ts.length l (Nat.le_refl _) (by rw [List.take_length]; exact hl)).1
  have w1 := inv j hj c2
  have w2 := inv j2 hj2 c1
  apply c4
  show (ts.getD j2 default).width = (ts.getD j default).width
  rw [← w1, ← w2]
  have : (ts.getD j2 default).imm = (ts.getD j default).imm := c3
  rw [this]
def envG (ts : List Nd) (env : List Int) (v : Nat) : Bool := ((widL ts).getD v 0 == 0) || decide (env.getD v 0 < pw ((widL ts).getD v 0))
def envB (ts : List Nd) (env : List Int) : Bool := decide (env.length = 4) && (List.range 4).all (envG ts env)
def vaE (ts : List Nd) (env : List Int) : Int := if valE ts = 0 then (if envB ts env = true then 0 else 1) else valE ts
def vaL (ts : List Nd) (env : List Int) : List Int := if vaE ts env = 0 then vals ts env else []
def evV (ts : List Nd) (env : List Int) : Int := if vaE ts env = 0 then (vals ts env).getD (ts.length - 1) 0 else 0
theorem widL_bd {ts : List Nd} (h : valE ts = 0) (hI : ∀ x ∈ ts, 0 ≤ x.imm ∧ x.imm ≤ 4294967295) (v : Nat) : 0 ≤ (widL ts).getD v 0 ∧ (widL ts).getD v 0 ≤ 32 := by
  obtain ⟨_, _, hS, _, _⟩ := valid_facts h
  have hl := (widL_ok h).1
  have hinv := (wmap_inv (fun x hx => (hI x hx).1) (fun i hi => okS_at hS hi) ts.length (widL ts) (Nat.le_refl _) (by rw [List.take_length]; exact hl)).2 v
  by_cases c : (widL ts).getD v 0 = 0
  · omega
  · obtain ⟨i, hi, _, _, hw⟩ := hinv c
    have := (nodeOk h hi).wid
    omega
theorem envOk_of {ts : List Nd} {env : List Int} (hE : ∀ x ∈ env, 0 ≤ x ∧ x ≤ 4294967295) (h : envB ts env = true) : EnvOk ts env := by
  unfold envB at h
  simp only [Bool.and_eq_true, decide_eq_true_eq, List.all_eq_true, List.mem_range] at h
  refine ⟨h.1, fun v hv => ?_⟩
  have h1 := hE _ (getD_mem0 (show v < env.length by omega))
  have h2 := h.2 v hv
  unfold envG at h2
  simp only [Bool.or_eq_true, beq_iff_eq, decide_eq_true_eq] at h2
  exact ⟨h1.1, h1.2, fun hn => by rcases h2 with h2 | h2; exact absurd h2 hn; exact h2⟩
theorem envB_bad {ts : List Nd} {env : List Int} {v : Nat} (hv : v < 4) (h : envG ts env v = false) : envB ts env = false := by
  unfold envB
  rw [Bool.and_eq_false_iff]
  right
  rw [List.all_eq_false]
  exact ⟨v, List.mem_range.2 hv, by rw [h]; decide⟩
theorem envB_good {ts : List Nd} {env : List Int} (h4 : env.length = 4) (h : ∀ v, v < 4 → envG ts env v = true) : envB ts env = true := by
  unfold envB
  rw [Bool.and_eq_true, List.all_eq_true]
  exact ⟨by simpa using h4, fun v hv => h v (List.mem_range.1 hv)⟩
theorem envB_len {ts : List Nd} {env : List Int} (h : env.length ≠ 4) : envB ts env = false := by
  unfold envB
  rw [show decide (env.length = 4) = false by simpa using h, Bool.false_and]
theorem vaE_bad {ts : List Nd} {env : List Int} (h : valE ts ≠ 0) : vaE ts env = valE ts := if_neg h
theorem vaE_env {ts : List Nd} {env : List Int} (h : valE ts = 0) (h2 : envB ts env = false) : vaE ts env = 1 := by unfold vaE; rw [if_pos h, if_neg (by rw [h2]; decide)]
theorem vaE_ok {ts : List Nd} {env : List Int} (h : valE ts = 0) (h2 : envB ts env = true) : vaE ts env = 0 := by unfold vaE; rw [if_pos h, if_pos h2]
theorem vaL_bad {ts : List Nd} {env : List Int} (h : vaE ts env ≠ 0) : vaL ts env = [] := if_neg h
theorem vaL_ok {ts : List Nd} {env : List Int} (h : vaE ts env = 0) : vaL ts env = vals ts env := if_pos h
theorem vaE_zero {ts : List Nd} {env : List Int} (h : vaE ts env = 0) : valE ts = 0 ∧ envB ts env = true := by
  unfold vaE at h
  by_cases c : valE ts = 0
  · rw [if_pos c] at h
    refine ⟨c, ?_⟩
    by_cases d : envB ts env = true
    · exact d
    · rw [if_neg d] at h; omega
  · rw [if_neg c] at h; exact absurd h c
theorem vals_len (ts : List Nd) (env : List Int) : (vals ts env).length = ts.length := valsF_len ts env ts
theorem pValues (ts : List Nd) (env : List Int) (tv ev : Value) (w : World) (hts : Nds w tv ts) (hev : Ints .u32 w ev env) (hi : ∀ x ∈ ts, 0 ≤ x.imm ∧ x.imm ≤ 4294967295) (hE : ∀ x ∈ env, 0 ≤ x ∧ x ≤ 4294967295) : Calls Tryz.prog 84 #[tv, ev] w fun e w' => ∃ v, e = .returned (.tuple #[v, .int .i64 (vaE ts env)]) ∧ Ints .u32 w' v (vaL ts env) ∧ Below w.heap.size w w' := by
  have HT := Lib.hid hts
  have HI := Lib.hid hi
  have HEV := Lib.hid hev
  have HE := Lib.hid hE
  obtain ⟨ta, tc, rfl, ht1, ht2⟩ := hts.shape
  obtain ⟨ea, ec, rfl, he1, he2⟩ := hev.shape
  clear hi hts hev hE
  cases hz : (valE ts != 0)
  rotate_left
  · have HZ : Hid (valE ts ≠ 0) := by
      have h : ¬ valE ts = 0 := by simpa using hz
      exact h
    go_enter Tryz.func84, Tryz.ntmps84
    go_wp2_with fail
    refine (pWidths ts _ _ HT.out HI.out).mono ?_
    rintro e w1 ⟨v1, rfl, hv1, hb1⟩
    go_wp2_with fail
    go_ret2
    exact ⟨_, by rw [vaE_bad HZ.out]; rfl, by rw [vaL_bad (by rw [vaE_bad HZ.out]; exact HZ.out)]; exact Ints.nil _ _, hb1⟩
  have hz' : valE ts = 0 := by simpa using hz
  have HZ := Lib.hid hz'
  clear hz hz'
  go_enter Tryz.func84, Tryz.ntmps84
  go_wp2_with fail
  refine (pWidths ts _ _ HT.out HI.out).mono ?_
  rintro e w1 ⟨v1, rfl, hv1, hb1⟩
  rw [HZ.out]
  have HB1 := Lib.hid hb1
  have HWI := Lib.hid hv1
  obtain ⟨wa, wc, rfl, hw1, hw2⟩ := hv1.shape
  have HW4 := Lib.hid (widL_ok HZ.out).2
  rw [HW4.out]
  clear hb1 hv1
  cases h4 : ((env.length : Int) != 4)
  rotate_left
  · have HV : Hid (vaE ts env = 1) := vaE_env HZ.out (envB_len (by intro h; rw [h] at h4; simp at h4))
    go_wp2_with fail
    go_ret2
    exact ⟨_, by rw [HV.out]; rfl, by rw [vaL_bad (by rw [HV.out]; decide)]; exact Ints.nil _ _, HB1.out⟩
  have h4' : env.length = 4 := by
    have : (env.length : Int) = 4 := by simpa using h4
    omega
  have H4 := Lib.hid h4'
  clear h4'
  go_wp2_with fail
  clear h4
  go_loop [25] (fun i => ∃ j : Nat, j ≤ 4 ∧ i = .int .i64 j ∧ Hid (∀ v, v < j → envG ts env v = true)) (fun i => 4 - (intOf i).toNat)
  case atStart => exact ⟨0, Nat.zero_le _, rfl, (fun i hi => absurd hi (by omega))⟩
  case round =>
    obtain ⟨j, hj, rfl, hg⟩ := hrel
    by_cases hlt : j < 4
    · obtain ⟨b1, o1, c1, e1, _, _, d1⟩ := HWI.out.at (show j < (widL ts).length by rw [HW4.out]; exact hlt)
      rw [HW4.out] at e1
      cases e1
      obtain ⟨b2, o2, c2, e2, _, _, d2⟩ := (HEV.out.stays HB1.out).at (show j < env.length by rw [H4.out]; exact hlt)
      cases e2
      have hwb := widL_bd HZ.out HI.out j
      have heb := HE.out _ (getD_mem0 (show j < env.length by rw [H4.out]; exact hlt))
      have HGD : Hid (envG ts env j = (((widL ts).getD j 0 == 0) || decide (env.getD j 0 < pw ((widL ts).getD j 0)))) := rfl
      generalize (widL ts).getD j 0 = n at *
      generalize env.getD j 0 = y at *
      have h4l : (j : Int) < env.length := by have := H4.out; omega
      cases hn : (n == 0)
      · have HN : Hid ((n == 0) = false) := hn
        have hn1 : 1 ≤ n := by
          have : ¬ n = 0 := by simpa using hn
          omega
        have hmk : mkX n = pw n - 1 := by unfold mkX; rw [if_pos (by unfold isW; simp; omega)]
        have hpn := pw_le32 hwb.2
        have hpp := pw_pos n
        cases hgt : decide (pw n - 1 < y)
        · have HG2 : Hid (envG ts env j = true) := by
            have := of_decide_eq_false hgt
            show _ = _
            rw [HGD.out, HN.out, Bool.false_or, decide_eq_true_iff]; omega
          have HMK := Lib.hid hmk
          clear hmk
          go_wp2_with fail
          refine (pMask n _).mono ?_
          rintro e w' ⟨rfl, rfl⟩
          rw [HMK.out]
          go_wp2_with fail
          go_round
          case rel => exact ⟨j + 1, by omega, by go_num, (fun v hv => by
            by_cases e : v = j
            · rw [e]; exact HG2.out
            · exact hg.out v (by omega))⟩
          case measure => simp [intOf]; omega
        · have HV : Hid (vaE ts env = 1) := vaE_env HZ.out (envB_bad hlt (by
            have := of_decide_eq_true hgt
            rw [HGD.out, HN.out, Bool.false_or, decide_eq_false_iff_not]; omega))
          have HMK := Lib.hid hmk
          clear hmk
          go_wp2_with fail
          refine (pMask n _).mono ?_
          rintro e w' ⟨rfl, rfl⟩
          rw [HMK.out]
          go_wp2_with fail
          go_ret2
          exact ⟨_, by rw [HV.out]; rfl, by rw [vaL_bad (by rw [HV.out]; decide)]; exact Ints.nil _ _, HB1.out⟩
      · have HG2 : Hid (envG ts env j = true) := by show _ = _; rw [HGD.out, hn]; rfl
        go_wp2_with fail
        go_round
        case rel => exact ⟨j + 1, by omega, by go_num, (fun v hv => by
          by_cases e : v = j
          · rw [e]; exact HG2.out
          · exact hg.out v (by omega))⟩
        case measure => simp [intOf]; omega
    · obtain rfl : j = 4 := by omega
      have HB : Hid (envB ts env = true) := envB_good H4.out hg.out
      go_wp2_with fail
      refine (values_any ts env _ _ _ (HT.out.stays HB1.out) (HEV.out.stays HB1.out) HZ.out HI.out (envOk_of HE.out HB.out)).mono ?_
      rintro e w' ⟨v2, rfl, hv2, hb2⟩
      have HV2 := Lib.hid (And.intro hv2 hb2)
      clear hv2 hb2
      go_wp2_with fail
      go_ret2
      exact ⟨_, by rw [vaE_ok HZ.out HB.out]; rfl, by rw [vaL_ok (vaE_ok HZ.out HB.out)]; exact HV2.out.1, below_next HB1.out HB1.out.size HV2.out.2⟩
theorem pEval (ts : List Nd) (env : List Int) (tv ev : Value) (w : World) (hts : Nds w tv ts) (hev : Ints .u32 w ev env) (hi : ∀ x ∈ ts, 0 ≤ x.imm ∧ x.imm ≤ 4294967295) (hE : ∀ x ∈ env, 0 ≤ x ∧ x ≤ 4294967295) : Calls Tryz.prog 41 #[tv, ev] w fun e w' => e = .returned (.tuple #[.int .u32 (evV ts env), .int .i64 (vaE ts env)]) ∧ Below w.heap.size w w' := by
  have HT := Lib.hid hts
  have HI := Lib.hid hi
  have HEV := Lib.hid hev
  have HE := Lib.hid hE
  obtain ⟨ta, tc, rfl, ht1, ht2⟩ := hts.shape
  obtain ⟨ea, ec, rfl, he1, he2⟩ := hev.shape
  clear hi hts hev hE
  cases hz : (vaE ts env != 0)
  rotate_left
  · have HZ : Hid (vaE ts env ≠ 0) := by
      have h : ¬ vaE ts env = 0 := by simpa using hz
      exact h
    have HV : Hid (evV ts env = 0) := if_neg HZ.out
    go_enter Tryz.func41, Tryz.ntmps41
    go_wp2_with fail
    refine (pValues ts env _ _ _ HT.out HEV.out HI.out HE.out).mono ?_
    rintro e w1 ⟨v1, rfl, hv1, hb1⟩
    go_wp2_with fail
    go_ret2
    exact ⟨by rw [HV.out]; rfl, hb1⟩
  have hz' : vaE ts env = 0 := by simpa using hz
  have HZ := Lib.hid hz'
  clear hz hz'
  have hl1 := (valid_facts (vaE_zero HZ.out).1).1
  have HV : Hid (evV ts env = (vals ts env).getD (ts.length - 1) 0) := if_pos HZ.out
  go_enter Tryz.func41, Tryz.ntmps41
  go_wp2_with fail
  refine (pValues ts env _ _ _ HT.out HEV.out HI.out HE.out).mono ?_
  rintro e w1 ⟨v1, rfl, hv1, hb1⟩
  rw [HZ.out]
  rw [vaL_ok HZ.out] at hv1
  obtain ⟨wa, wc, rfl, hw1, hw2⟩ := hv1.shape
  have hvl := vals_len ts env
  obtain ⟨b3, q3, rfl, _, hcs⟩ := hv1.row (by omega)
  have e1 := hcs (ts.length - 1) (by omega)
  rw [← HV.out] at e1
  rw [hvl] at *
  have HB1 := Lib.hid hb1
  clear hv1 hcs hb1 hvl
  go_wp2_with fail
  go_ret2
  exact ⟨by rw [HZ.out]; rfl, HB1.out⟩
def knownT : List Nd := [⟨33, 8, 0, [], 0⟩, ⟨0, 8, 0, [], 1⟩, ⟨1, 8, 0, [0, 1], 0⟩]
theorem known_facts : valE knownT = 0 ∧ depV knownT = 2 ∧ envB knownT [255, 0, 0, 0] = true ∧ vaE knownT [255, 0, 0, 0] = 0 ∧ evV knownT [255, 0, 0, 0] = 0 := by decide +kernel
theorem kn_ints (w : World) : Ints .i64 (((w.alloc (.cells #[.int .i64 0, .int .i64 1] 3)).alloc (.cells #[.int .i64 33, .int .i64 8, .int .i64 0, .slice none 0 0, .int .u32 0, .int .i64 0, .int .i64 8, .int .i64 0, .slice none 0 0, .int .u32 1, .int .i64 1, .int .i64 8, .int .i64 0, .slice (some ⟨w.heap.size, 0, none⟩) 2 2, .int .u32 0] 65)).alloc (.cells #[.int .u32 255, .int .u32 0, .int .u32 0, .int .u32 0] 31)) (.slice (some ⟨w.heap.size, 0, none⟩) 2 2) [0, 1] := by
  refine ⟨_, _, rfl, Nat.le_refl _, ⟨by simp, by omega⟩, (fun hh => by cases hh), fun i hi => ⟨_, _, rfl, by simp; omega, ?_⟩⟩
  have : i = 0 ∨ i = 1 := by simp at hi; omega
  rcases this with rfl | rfl <;> simp [go_sem]
theorem kn_nds (w : World) : Nds (((w.alloc (.cells #[.int .i64 0, .int .i64 1] 3)).alloc (.cells #[.int .i64 33, .int .i64 8, .int .i64 0, .slice none 0 0, .int .u32 0, .int .i64 0, .int .i64 8, .int .i64 0, .slice none 0 0, .int .u32 1, .int .i64 1, .int .i64 8, .int .i64 0, .slice (some ⟨w.heap.size, 0, none⟩) 2 2, .int .u32 0] 65)).alloc (.cells #[.int .u32 255, .int .u32 0, .int .u32 0, .int .u32 0] 31)) (.slice (some ⟨w.heap.size + 1, 0, none⟩) 3 3) knownT := by
  refine ⟨_, _, rfl, Nat.le_refl _, ⟨by simp [knownT], by omega⟩, (fun hh => by cases hh), fun i hi => ⟨_, _, rfl, by simp, ?_⟩⟩
  have : i = 0 ∨ i = 1 ∨ i = 2 := by simp [knownT] at hi; omega
  rcases this with rfl | rfl | rfl
  · exact ⟨by simp [go_sem, knownT], by simp [go_sem, knownT], by simp [go_sem, knownT], ⟨_, by simp [go_sem], Ints.nil _ _⟩, by simp [go_sem, knownT]⟩
  · exact ⟨by simp [go_sem, knownT], by simp [go_sem, knownT], by simp [go_sem, knownT], ⟨_, by simp [go_sem], Ints.nil _ _⟩, by simp [go_sem, knownT]⟩
  · exact ⟨by simp [go_sem, knownT], by simp [go_sem, knownT], by simp [go_sem, knownT], ⟨_, by simp [go_sem], kn_ints w⟩, by simp [go_sem, knownT]⟩
theorem kn_env (w : World) : Ints .u32 (((w.alloc (.cells #[.int .i64 0, .int .i64 1] 3)).alloc (.cells #[.int .i64 33, .int .i64 8, .int .i64 0, .slice none 0 0, .int .u32 0, .int .i64 0, .int .i64 8, .int .i64 0, .slice none 0 0, .int .u32 1, .int .i64 1, .int .i64 8, .int .i64 0, .slice (some ⟨w.heap.size, 0, none⟩) 2 2, .int .u32 0] 65)).alloc (.cells #[.int .u32 255, .int .u32 0, .int .u32 0, .int .u32 0] 31)) (.slice (some ⟨w.heap.size + 1 + 1, 0, none⟩) 4 4) [255, 0, 0, 0] := by
  refine ⟨_, _, rfl, Nat.le_refl _, ⟨by simp, by omega⟩, (fun hh => by cases hh), fun i hi => ⟨_, _, rfl, by simp, ?_⟩⟩
  have : i = 0 ∨ i = 1 ∨ i = 2 ∨ i = 3 := by simp at hi; omega
  rcases this with rfl | rfl | rfl | rfl <;> simp [go_sem]
theorem kn_imm : ∀ x ∈ knownT, 0 ≤ x.imm ∧ x.imm ≤ 4294967295 := by decide
theorem kn_wds : ∀ x ∈ ([255, 0, 0, 0] : List Int), 0 ≤ x ∧ x ≤ 4294967295 := by decide
theorem known7 (w : World) : Calls Tryz.prog 17 #[] w fun e w' => e = .returned (.bool true) ∧ Below w.heap.size w w' := by
  have HK := Lib.hid known_facts
  have HN := Lib.hid (kn_nds w)
  have HE := Lib.hid (kn_env w)
  have HB0 : Hid (Below w.heap.size w (((w.alloc (.cells #[.int .i64 0, .int .i64 1] 3)).alloc (.cells #[.int .i64 33, .int .i64 8, .int .i64 0, .slice none 0 0, .int .u32 0, .int .i64 0, .int .i64 8, .int .i64 0, .slice none 0 0, .int .u32 1, .int .i64 1, .int .i64 8, .int .i64 0, .slice (some ⟨w.heap.size, 0, none⟩) 2 2, .int .u32 0] 65)).alloc (.cells #[.int .u32 255, .int .u32 0, .int .u32 0, .int .u32 0] 31))) := (((Below.refl _ _).alloc (Nat.le_refl _) _).alloc (by simp) _).alloc (by simp; omega) _
  go_enter Tryz.func17, Tryz.ntmps17
  go_wp2_with fail
  refine (pEval knownT [255, 0, 0, 0] _ _ _ HN.out HE.out kn_imm kn_wds).mono ?_
  rintro e w1 ⟨rfl, hb1⟩
  rw [HK.out.2.2.2.1, HK.out.2.2.2.2]
  have HB1 := Lib.hid hb1
  clear hb1
  go_wp2_with fail
  refine (pDepth knownT _ _ (HN.out.stays HB1.out) kn_imm).mono ?_
  rintro e w2 ⟨rfl, hb2⟩
  rw [HK.out.1, HK.out.2.1]
  have HB2 := Lib.hid hb2
  clear hb2
  go_wp2_with fail
  go_ret
  exact ⟨rfl, below_hop (below_hop HB0.out HB1.out) HB2.out⟩
end Go.Proofs.YtgcfadnnajahhaaGreatDoor
namespace Go.Proofs.YtgcfadnnajahhaaGreatDoor
open Go.RowKit Go.Maps Wd
set_option linter.unusedVariables false
set_option linter.unusedSimpArgs false
theorem ndV_of {ts : List Nd} (h : valE ts = 0) (hI : ∀ x ∈ ts, 0 ≤ x.imm ∧ x.imm ≤ 4294967295) : ∀ k, k < ts.length → NdV (nd ts k) := fun k hk => by
  have ho := nodeOk h hk
  obtain ⟨_, _, hS, _, _⟩ := valid_facts h
  have hs := shaped_facts (okS_at hS hk)
  have hc := arV_cases (nd ts k).op
  have h1 := ho.len
  have h2 := ho.ar
  have h3 := ho.wid
  change ((nd ts k).args.length : Int) = arV (nd ts k).op at h1
  change arV (nd ts k).op ≠ -1 at h2
  change 1 ≤ (nd ts k).width ∧ (nd ts k).width ≤ 32 at h3
  exact { op := ⟨by omega, by omega⟩, width := ⟨by omega, by omega⟩, flags := hs.2.2.2.1, len := by omega, imm := hI _ (mem_getD hk) }
theorem args_le {ts : List Nd} (h : valE ts = 0) (hI : ∀ x ∈ ts, 0 ≤ x.imm ∧ x.imm ≤ 4294967295) : ∀ k, k < ts.length → (nd ts k).args.length ≤ 1000 := fun k hk => by
  have := (ndV_of h hI k hk).len
  omega
theorem ShrIs.hop {w w1 w2 : World} {v : Value} {o : List Nd} (hb : Below w.heap.size w w1) (h : ShrIs w1 w2 v o) : ShrIs w w2 v o := by
  obtain ⟨bb, W, R, fv, avs, h1, h2, h3⟩ := h
  have := hb.size
  exact ⟨bb, W, R, fv, avs, h1, fun b hb => by have := h2 b hb; omega, below_hop hb h3⟩
theorem ShrIs.bel {w w2 : World} {v : Value} {o : List Nd} (h : ShrIs w w2 v o) : Below w.heap.size w w2 := by
  obtain ⟨bb, W, R, fv, avs, h1, h2, h3⟩ := h
  exact h3
theorem ShrIs.nds {w w2 : World} {v : Value} {o : List Nd} (h : ShrIs w w2 v o) (hl : o.length ≤ 100000) : Nds w2 v o := by
  obtain ⟨bb, W, R, fv, avs, h1, h2, h3⟩ := h
  exact h1.nds hl
theorem Nds.nil (w : World) : Nds w (.slice none 0 0) [] := ⟨none, 0, rfl, Nat.le_refl _, ⟨by simp, by omega⟩, fun _ => rfl, fun i hi => absurd hi (by simp)⟩
section
variable {ts : List Nd} {tv : Value} {w : World}
theorem share_last (h : valE ts = 0) (hI : ∀ x ∈ ts, 0 ≤ x.imm ∧ x.imm ≤ 4294967295) (hts : Nds w tv ts) :
    Calls Tryz.prog 45 #[tv, .int .i64 ((ts.length : Int) - 1)] w fun e w' => ∃ v, e = .returned v ∧ ShrIs w w' v (shr ts (ts.length - 1)) := by
  obtain ⟨h1, h2, _⟩ := valid_facts h
  have hc := share_any ts tv w (ts.length - 1) hts (valid_down h) (ndV_of h hI) (by omega) (by omega)
  rwa [show ((ts.length - 1 : Nat) : Int) = (ts.length : Int) - 1 by omega] at hc
theorem rShared_last (h : valE ts = 0) (hI : ∀ x ∈ ts, 0 ≤ x.imm ∧ x.imm ≤ 4294967295) (hts : Nds w tv ts) :
    Calls Tryz.prog 49 #[tv, .int .i64 ((ts.length : Int) - 1)] w fun e w' => ∃ v, e = .returned v ∧ Nds w' v (shr ts (ts.length - 1)) ∧ Below w.heap.size w w' := by
  obtain ⟨h1, h2, _⟩ := valid_facts h
  have hc := rShared ts tv w (ts.length - 1) hts (valid_down h) (by omega) (by omega) (args_le h hI)
  rwa [show ((ts.length - 1 : Nat) : Int) = (ts.length : Int) - 1 by omega] at hc
end
theorem pShare_ok (ts : List Nd) (tv : Value) (w : World) (h : valE ts = 0) (hI : ∀ x ∈ ts, 0 ≤ x.imm ∧ x.imm ≤ 4294967295) (hts : Nds w tv ts) :
    Calls Tryz.prog 50 #[tv] w fun e w' => ∃ v, e = .returned (.tuple #[v, .int .i64 0]) ∧ ShrIs w w' v (shr ts (ts.length - 1)) := by
  obtain ⟨h1, h2, _⟩ := valid_facts h
  have HT := Lib.hid hts
  have HE := Lib.hid h
  have HS := Lib.hid (fun W (hb : Below w.heap.size w W) => share_last h hI (hts.stays hb))
  have HP := Lib.hid (pValidate ts tv w hts hI)
  obtain ⟨ta, tc, rfl, ht1, ht2⟩ := hts.shape
  clear hts h hI
  go_enter Tryz.func50, Tryz.ntmps50
  go_wp2_with fail
  refine (HP.out).mono ?_
  rintro e w1 ⟨rfl, hb1⟩
  rw [HE.out]
  have HB1 := Lib.hid hb1
  clear hb1
  go_wp2_with fail
  refine (HS.out _ HB1.out).mono ?_
  rintro e w2 ⟨v, rfl, hs⟩
  have HSS := Lib.hid hs
  clear hs
  go_wp2_with fail
  go_ret2
  exact ⟨v, rfl, HSS.out.hop HB1.out⟩
-- Part.
-- Part.
end Go.Proofs.YtgcfadnnajahhaaGreatDoor
namespace Go.Proofs.YtgcfadnnajahhaaGreatDoor
open Go.RowKit Go.Maps Go.Lib
set_option linter.unusedVariables false
set_option linter.unusedSimpArgs false
theorem nDig_le : ∀ (k u : Nat), u < 10 ^ (k + 1) → nDigits u ≤ k + 1
  | 0, u, h => by rw [nDigits_small (by simpa using h)]; exact Nat.le_refl _
  | k + 1, u, h => by
    by_cases hs : u < 10
    · rw [nDigits_small hs]; omega
    · rw [nDigits_big hs]
      have := nDig_le k (u / 10) (by rw [Nat.pow_succ] at h; omega)
      omega
theorem dgs_len {n : Nat} (h : n < 10000000000) : (decDigits n).length ≤ 10 := by
  rw [decDigits_length]; exact nDig_le 9 n h
structure TxB (x : Nd) : Prop where
  op : 0 ≤ x.op ∧ x.op ≤ 33
  width : 0 ≤ x.width ∧ x.width ≤ 32
  imm : 0 ≤ x.imm ∧ x.imm ≤ 4294967295
  len : x.args.length ≤ 3
  args : ∀ a ∈ x.args, 0 ≤ a ∧ a < 300
theorem txb_of {o : List Nd} (h : valE o = 0) (hI : ∀ x ∈ o, 0 ≤ x.imm ∧ x.imm ≤ 4294967295) {i : Nat} (hi : i < o.length) : TxB (nd o i) ∧ TxN (nd o i) := by
  obtain ⟨v1, v2, hS, hT, _⟩ := valid_facts h
  obtain ⟨s1, s2, s3, s4, s5, s6, s7, s8⟩ := shaped_facts (okS_at hS hi)
  have hm := hI _ (mem_getD hi)
  have ha := arV_cases (o.getD i default).op
  have e : nd o i = o.getD i default := rfl
  rw [e]
  generalize o.getD i default = x at *
  refine ⟨⟨by omega, by omega, hm, by omega, fun a ha => ?_⟩, ⟨by omega, by omega, s4, hm.1, fun a ha => (s2 a ha).1, fun hn => ?_⟩⟩
  · have := s2 a ha; omega
  · unfold immT at hn
    simp only [Bool.or_eq_false_iff, beq_eq_false_iff_ne] at hn
    unfold immOk at s5
    rw [if_neg hn.1, if_neg hn.2.1, if_neg hn.2.2] at s5
    simpa using s5
theorem argT_len : ∀ (l : List Int), (∀ a ∈ l, 0 ≤ a ∧ a < 300) → (argT l).length ≤ 11 * l.length
  | [], _ => by simp [argT]
  | a :: l, h => by
    have h1 := h a (by simp)
    have h2 := argT_len l fun b hb => h b (by simp [hb])
    have h3 := dgs_len (n := a.toNat) (by omega)
    show ((44 :: decDigits a.toNat) ++ argT l).length ≤ _
    rw [List.length_append, List.length_cons, List.length_cons]
    omega
theorem ndT_len {x : Nd} (h : TxB x) : (ndT x).length ≤ 80 := by
  have h1 := dgs_len (n := x.op.toNat) (by have := h.op; omega)
  have h2 := dgs_len (n := x.width.toNat) (by have := h.width; omega)
  have h3 := dgs_len (n := x.imm.toNat) (by have := h.imm; omega)
  have h4 := argT_len x.args h.args
  have h5 := h.len
  have h6 : (immW x).length ≤ 11 := by
    unfold immW; split
    · rw [List.length_cons]; omega
    · simp
  unfold ndT
  simp only [List.length_append, List.length_cons]
  omega
theorem joinB_len : ∀ (l : List (List UInt8)), (∀ u ∈ l, u.length ≤ 80) → (joinB l).length ≤ 81 * l.length
  | [], _ => by simp [joinB]
  | [u], h => by have := h u (by simp); simp [joinB]; omega
  | u :: v :: l, h => by
    have h1 := h u (by simp)
    have h2 := joinB_len (v :: l) fun w hw => h w (by simp [hw])
    show (u ++ 32 :: joinB (v :: l)).length ≤ _
    simp only [List.length_append, List.length_cons] at h2 ⊢
    omega
theorem argT_snoc (l : List Int) (a : Int) : argT (l ++ [a]) = argT l ++ 44 :: decDigits a.toNat := by
  unfold argT; rw [List.flatMap_append]; simp
theorem rowS_at {w w' : World} {base : Nat} {e : TypeId} {z : Nat} {v : Value} {n : Nat} {xs : List Value} (h : w.ownsRow base e z v n xs) (hb : ∀ g, base ≤ g → g < w.heap.size → w'.heap[g]? = w.heap[g]?) : w'.ownsRow base e z v n xs := by
  obtain ⟨h0, ⟨e, h1⟩ | ⟨g, cap, cur, e, hb', hg, h1, h2, h3, h4⟩⟩ := h
  · exact ⟨h0, Or.inl ⟨e, h1⟩⟩
  · have hlt : g < w.heap.size := by
      rcases Nat.lt_or_ge g w.heap.size with h | h
      · exact h
      · rw [Array.getElem?_eq_none h] at hg; cases hg
    exact ⟨h0, Or.inr ⟨g, cap, cur, e, hb', by rw [hb g hb' hlt]; exact hg, h1, h2, h3, h4⟩⟩
theorem rowS_own {w : World} {base : Nat} {e : TypeId} {z : Nat} {v : Value} {n : Nat} {xs : List Value} (h : w.ownsRow base e z v n xs) (g : Nat) (hg : v.ownBlock = some g) : base ≤ g := by
  obtain ⟨h0, ⟨e, h1⟩ | ⟨g', cap, cur, e, hb', hg', h1, h2, h3, h4⟩⟩ := h
  · rw [e] at hg; cases hg
  · rw [e] at hg; injection hg with hg; subst hg; exact hb'
theorem rowS_get {w : World} {base : Nat} {e : TypeId} {v : Value} {n : Nat} {xs : List Value} (h : w.ownsRow base e 1 v n xs) (h0 : 0 < n) : ∃ g c, v = .slice (some ⟨g, 0, none⟩) n c ∧ n ≤ c ∧ g < w.heap.size ∧ ∀ (j : Nat) (x : Value), j < n → xs[j]? = some x → w.cell? ⟨g, 0 + j, none⟩ = some x := by
  obtain ⟨_, ⟨e, h1⟩ | ⟨g, cap, cur, e, hb', hg, h1, h2, h3, h4⟩⟩ := h
  · omega
  · refine ⟨g, cap, e, h1, ?_, fun j x hj hx => ?_⟩
    · rcases Nat.lt_or_ge g w.heap.size with h | h
      · exact h
      · rw [Array.getElem?_eq_none h] at hg; cases hg
    · rw [← h4, Nat.mul_one, List.getElem?_take, if_pos hj] at hx
      rw [Nat.zero_add]
      simpa [World.cell?, hg] using hx
def strV (l : List UInt8) : Value := .string ⟨l.toArray⟩
theorem imm_way (op : Int) : ((op == 0) = true ∧ immT op = true) ∨ ((op == 0) = false ∧ (op == 33) = true ∧ immT op = true) ∨ ((op == 0) = false ∧ (op == 33) = false ∧ (op == 14) = true ∧ immT op = true) ∨ ((op == 0) = false ∧ (op == 33) = false ∧ (op == 14) = false ∧ immT op = false) := by
  unfold immT
  cases op == 0 <;> cases op == 33 <;> cases op == 14 <;> simp
theorem str_add (a b c : List UInt8) (h : a ++ b = c) (hl : c.length ≤ 1000000) : ∀ w, (Op.stringOp .add ⟨a.toArray⟩ ⟨b.toArray⟩).run Tryz.prog w = .ok (.string ⟨c.toArray⟩) w := fun w => by
  have hs : (⟨a.toArray⟩ : ByteArray).size + (⟨b.toArray⟩ : ByteArray).size ≤ 9223372036854775807 := by
    show a.toArray.size + b.toArray.size ≤ _
    rw [← h, List.length_append] at hl
    simp only [List.size_toArray]
    omega
  rw [run_string_add_sum w _ _ hs, ByteArray.mk_append_mk, h]
theorem info_str : (Tryz.prog.info? 9).map (fun i => (i.zero, i.size, i.bytes)) = some (some (.string ⟨#[]⟩), 1, 16) := by kernel_rfl
set_option maxHeartbeats 2000000 in
theorem pText_ok (ts : List Nd) (tv : Value) (w : World) (h : valE ts = 0) (hI : ∀ x ∈ ts, 0 ≤ x.imm ∧ x.imm ≤ 4294967295) (hts : Nds w tv ts) (hT : Tab10 w) :
    Calls Tryz.prog 20 #[tv] w fun e w' => e = .returned (.tuple #[strV (txtL (shr ts (ts.length - 1))), .int .i64 0]) ∧ Below w.heap.size w w' := by
  obtain ⟨v1, v2, _⟩ := valid_facts h
  have hk : ts.length - 1 < ts.length := by omega
  have HVO := Lib.hid (shr_valid h hI hk)
  have HIO := Lib.hid (shr_imm (valid_down h) hI hk)
  have CS := Lib.hid (pShare_ok ts tv w h hI hts)
  generalize shr ts (ts.length - 1) = o at *
  obtain ⟨o1, o2, _⟩ := valid_facts HVO.out
  obtain ⟨is, his0, hz0, hz1, hz2⟩ := info_parts info_str
  have HI0 := Lib.hid his0
  have HT : Hid (∀ W, Below w.heap.size w W → Tab10 W) := Lib.hid fun W hb => tab10_stays hT hb
  clear h hI hts hT his0 hk v1 v2
  go_enter Tryz.func20, Tryz.ntmps20
  go_upto_region 4 with (go_at_call 50; with_reducible refine CS.out.mono ?_; rintro e w1 ⟨lv, rfl, hsh⟩; have HB1 := Lib.hid hsh.bel; have HO := Lib.hid (hsh.nds (by omega)); clear hsh)
  obtain ⟨la, lc, rfl, _, _⟩ := HO.out.shape
  go_wp2_with fail
  go_loopw [6, 8, 9, 11, 22, 57] (fun v6 _ _ _ i _ wr => ∃ j : Nat, j ≤ o.length ∧ i = .int .i64 j ∧ wr.ownsRow w1.heap.size 9 1 v6 j ((o.take j).map fun x => strV (ndT x)) ∧ Below w1.heap.size w1 wr) (fun _ _ _ _ i _ _ => o.length - (RowKit.intOf i).toNat)
  case atStart => exact ⟨0, Nat.zero_le _, rfl, World.ownsRow_nil _ _ _ _, Below.refl _ _⟩
  case round =>
    obtain ⟨j, hj, rfl, hrow, hb⟩ := hrel
    obtain ⟨wo, rfl⟩ : ∃ wo : World, wo = wr := ⟨_, rfl⟩
    have HROW := Lib.hid hrow
    have HB := Lib.hid hb
    have hbw := hb.size
    by_cases hjl : j < o.length
    · obtain ⟨b, q, c', av, e', _, hbq, hav, c0, c1, c2, c3, c4⟩ := HO.out.at2 hb hjl
      cases e'
      obtain ⟨xb, xn⟩ := txb_of HVO.out HIO.out hjl
      have HXB := Lib.hid xb
      have HTK : Hid ((o.take (j + 1)).map (fun x => strV (ndT x)) = (o.take j).map (fun x => strV (ndT x)) ++ [strV (ndT (o.getD j default))]) := Lib.hid (by rw [List.take_succ_eq_append_getElem hjl, List.map_append, List.getD_eq_getElem?_getD, List.getElem?_eq_getElem hjl]; rfl)
      obtain ⟨aa, ac, rfl, _, _⟩ := hav.shape
      have hal : (nd o j).args.length ≤ 3 := xb.len
      unfold nd at HXB xb hal
      generalize o.getD j default = x at *
      obtain ⟨op, width, flags, args, imm⟩ := x
      simp only at c0 c1 c2 c3 c4 hal hav
      have hop := xb.op
      have hwd := xb.width
      have him := xb.imm
      simp only at hop hwd him
      have hn1 : ¬ b = wo.heap.size := by omega
      have hl1 : b < wo.heap.size := by omega
      have i0 : (0 : Int) ≤ (j : Int) := by omega
      have i1 : (j : Int) < (o.length : Int) := by omega
      obtain ⟨W3, hW3⟩ : ∃ W, wo.alloc (.cells #[.int .i64 op, .int .i64 width, .int .i64 flags, .slice aa args.length ac, .int .u32 imm] 65) = W := ⟨_, rfl⟩
      have HB3 : Hid (Below wo.heap.size wo W3) := by rw [← hW3]; exact (Below.refl _ _).alloc (Nat.le_refl _) _
      have q0 : W3.cell? ⟨wo.heap.size, 0, none⟩ = some (.int .i64 op) ∧ W3.cell? ⟨wo.heap.size, 1, none⟩ = some (.int .i64 width) ∧ W3.cell? ⟨wo.heap.size, 3, none⟩ = some (.slice aa args.length ac) ∧ W3.cell? ⟨wo.heap.size, 4, none⟩ = some (.int .u32 imm) := by rw [← hW3]; simp [go_sem]
      obtain ⟨k0, k1, k3, k4⟩ := q0
      have HAV := Lib.hid (hav.stays (below_hop hb HB3.out))
      have HB13 := Lib.hid (below_next HB1.out HB1.out.size (below_next hb hbw HB3.out))
      go_upto_region 8 with fail
      clear hW3 hrow hb hav c0 c1 c2 c3 c4 xb xn
      have r0 : ∀ wk, Since W3 wk → wk.cell? ⟨wo.heap.size, 0, none⟩ = some (.int .i64 op) := fun wk h => h.cell k0
      have r1 : ∀ wk, Since W3 wk → wk.cell? ⟨wo.heap.size, 1, none⟩ = some (.int .i64 width) := fun wk h => h.cell k1
      have CI : Hid (∀ n, 0 ≤ n → n ≤ 4294967295 → ∀ wk, Since W3 wk → Calls Tryz.prog 51 #[.int .i64 n] wk fun e w' => e = .returned (.string ⟨(decDigits n.toNat).toArray⟩) ∧ Below wk.heap.size wk w') := Lib.hid fun n h0 h1 wk hs => itoa_any n wk h0 (by omega) (HT.out wk (below_next HB13.out HB13.out.size hs))
      have C1 := Lib.hid (CI.out op hop.1 (by omega))
      have C2 := Lib.hid (CI.out width hwd.1 (by omega))
      have l1 := dgs_len (n := op.toNat) (by omega)
      have l2 := dgs_len (n := width.toNat) (by omega)
      obtain ⟨d1, hd1⟩ : ∃ l, decDigits op.toNat = l := ⟨_, rfl⟩
      obtain ⟨d2, hd2⟩ : ∃ l, decDigits width.toNat = l := ⟨_, rfl⟩
      obtain ⟨s1, hs1⟩ : ∃ l, d1 ++ [58] = l := ⟨_, rfl⟩
      obtain ⟨s2, hs2⟩ : ∃ l, s1 ++ d2 = l := ⟨_, rfl⟩
      rw [hd1] at C1 l1
      rw [hd2] at C2 l2
      have ls1 : s1.length ≤ 11 := by rw [← hs1, List.length_append]; simp; omega
      have ls2 : s2.length ≤ 21 := by rw [← hs2, List.length_append]; omega
      have E1 := str_add d1 [58] s1 hs1 (by omega)
      have E2 := str_add s1 d2 s2 hs2 (by omega)
      have HD1 := Lib.hid hd1
      have HD2 := Lib.hid hd2
      have HS1 := Lib.hid hs1
      have HS2 := Lib.hid hs2
      have h00 := Since.refl W3
      clear hd1 hd2 hs1 hs2
      go_region_held3 (fun wk => Since W3 wk) (first | assumption | exact Since.drew (by assumption) | exact Since.next (by assumption) (by assumption)) (first | ((go_at_call 51; first | (with_reducible refine (C1.out _ (by assumption)).mono ?_) | (with_reducible refine (C2.out _ (by assumption)).mono ?_)); rintro e w' ⟨rfl, hb⟩))
      rename_i hsq
      have HSQ := Lib.hid hsq
      clear h00 hsq
      go_upto_region 9 with fail
      have l3 := dgs_len (n := imm.toNat) (by omega)
      obtain ⟨d3, hd3⟩ : ∃ l, decDigits imm.toNat = l := ⟨_, rfl⟩
      obtain ⟨s3, hs3⟩ : ∃ l, [46] ++ d3 = l := ⟨_, rfl⟩
      obtain ⟨s4, hs4⟩ : ∃ l, s2 ++ s3 = l := ⟨_, rfl⟩
      rw [hd3] at l3
      have ls3 : s3.length ≤ 11 := by rw [← hs3, List.length_append]; simp; omega
      have ls4 : s4.length ≤ 32 := by rw [← hs4, List.length_append]; omega
      have E3 := str_add [46] d3 s3 hs3 (by omega)
      have E4 := str_add s2 s3 s4 hs4 (by omega)
      have HD3 := Lib.hid hd3
      have HS3 := Lib.hid hs3
      have HS4 := Lib.hid hs4
      have x0 : w'.cell? ⟨wo.heap.size, 0, none⟩ = some (.int .i64 op) := HSQ.out.cell k0
      have x3 : w'.cell? ⟨wo.heap.size, 3, none⟩ = some (.slice aa args.length ac) := HSQ.out.cell k3
      have x4 : w'.cell? ⟨wo.heap.size, 4, none⟩ = some (.int .u32 imm) := HSQ.out.cell k4
      clear hd3 hs3 hs4 r0 r1
      rcases imm_way op with ⟨g0, hm⟩ | ⟨g0, g1, hm⟩ | ⟨g0, g1, g2, hm⟩ | ⟨g0, g1, g2, hm⟩
      · have C3 := Lib.hid (CI.out imm him.1 him.2)
        rw [HD3.out] at C3
        go_upto_region 11 with (go_at_call 51; (with_reducible refine (C3.out _ HSQ.out).mono ?_); rintro e wz ⟨rfl, hbz⟩; have HBZ : Hid (Since W3 wz) := Lib.hid (below_hop HSQ.out hbz); clear hbz)
        obtain ⟨S, hS⟩ : ∃ S, s4 = S := ⟨_, rfl⟩
        have HSS : Hid (S = decDigits op.toNat ++ 58 :: (decDigits width.toNat ++ immW ⟨op, width, flags, args, imm⟩)) := Lib.hid (by
          unfold immW
          rw [if_pos hm, ← hS, ← HS4.out, ← HS3.out, ← HS2.out, ← HS1.out, HD1.out, HD2.out, HD3.out]
          simp [List.append_assoc])
        have lS : S.length ≤ 40 := by rw [← hS]; omega
        rw [hS]
        clear hS
        clear x0 x3 x4
        have y3 : wz.cell? ⟨wo.heap.size, 3, none⟩ = some (.slice aa args.length ac) := HBZ.out.cell k3
        have HAZ := Lib.hid (HAV.out.stays HBZ.out)
        have hszz : wo.heap.size < wz.heap.size := cell_lt y3
        go_wp2_with fail
        go_loopw [9, 11, 57] (fun sv _ iv wr => ∃ i : Nat, ∃ L, i ≤ args.length ∧ iv = .int .i64 i ∧ sv = .string ⟨L.toArray⟩ ∧ L = S ++ argT (args.take i) ∧ Since wz wr) (fun _ _ iv _ => args.length - (RowKit.intOf iv).toNat)
        case atStart => exact ⟨0, S, Nat.zero_le _, rfl, rfl, by simp [argT], Since.refl _⟩
        case round =>
          obtain ⟨i, L, hi, rfl, rfl, hL, hsr⟩ := hrel
          have HL := Lib.hid hL
          have HSR := Lib.hid hsr
          clear hL
          by_cases hil : i < args.length
          · obtain ⟨ba, qa, ca, ea, _, hba, ha⟩ := Ints.at (HAZ.out.stays hsr) hil
            cases ea
            have hax := HXB.out.args _ (getD_mem0 hil)
            have HTA : Hid (args.take (i + 1) = args.take i ++ [args.getD i 0]) := Lib.hid (by rw [List.take_succ_eq_append_getElem hil, List.getD_eq_getElem?_getD, List.getElem?_eq_getElem hil]; rfl)
            generalize args.getD i 0 = a at *
            have l5 := dgs_len (n := a.toNat) (by omega)
            obtain ⟨d5, hd5⟩ : ∃ l, decDigits a.toNat = l := ⟨_, rfl⟩
            obtain ⟨s5, hs5⟩ : ∃ l, [44] ++ d5 = l := ⟨_, rfl⟩
            obtain ⟨s6, hs6⟩ : ∃ l, L ++ s5 = l := ⟨_, rfl⟩
            have lL : L.length ≤ 80 := by
              have h1 := argT_len (args.take i) fun b hb => HXB.out.args b (List.mem_of_mem_take hb)
              have h2 : (args.take i).length ≤ 3 := by rw [List.length_take]; omega
              rw [HL.out, List.length_append]; omega
            rw [hd5] at l5
            have ls5 : s5.length ≤ 11 := by rw [← hs5, List.length_append]; simp; omega
            have ls6 : s6.length ≤ 91 := by rw [← hs6, List.length_append]; omega
            have E5 := str_add [44] d5 s5 hs5 (by omega)
            have E6 := str_add L s5 s6 hs6 (by omega)
            have C5 := Lib.hid (CI.out a hax.1 (by omega) wr (below_hop HBZ.out hsr))
            rw [hd5] at C5
            have HF : Hid (s6 = S ++ argT (args.take (i + 1))) := Lib.hid (by rw [HTA.out, argT_snoc, ← List.append_assoc, ← HL.out, ← hs6, ← hs5, hd5]; rfl)
            have ii0 : (0 : Int) ≤ (i : Int) := by omega
            have ii1 : (i : Int) < (args.length : Int) := by omega
            clear hd5 hs5 hs6 hsr
            go_wp2_with (go_at_call 51; (with_reducible refine C5.out.mono ?_); rintro e wy ⟨rfl, hby⟩; have HBY : Hid (Since wz wy) := Lib.hid (below_hop HSR.out hby); clear hby)
            go_roundw
            case rel => exact ⟨i + 1, s6, by omega, by go_num, rfl, HF.out, HBY.out⟩
            case measure => simp [RowKit.intOf]; omega
          · obtain rfl : i = args.length := by omega
            have HLN : Hid (strV (ndT ⟨op, width, flags, args, imm⟩) = .string ⟨L.toArray⟩) := Lib.hid (by
              unfold strV ndT
              rw [HL.out, List.take_length, HSS.out]
              simp [List.append_assoc])
            have HBW : Hid (Below wo.heap.size wo wr) := Lib.hid (below_hop HB3.out (below_hop HBZ.out hsr))
            have HROWR : Hid (∀ ob, (wr.alloc ob).ownsRow w1.heap.size 9 1 u6 j ((o.take j).map fun x => strV (ndT x))) := Lib.hid fun ob => rowS_at HROW.out fun g hg hlt => ((HBW.out.alloc HBW.out.size ob).block g hlt)
            have HNW : Hid (∀ ob, (wr.alloc ob).heap[wr.heap.size]? = some ob) := Lib.hid fun ob => Array.getElem?_push_size
            have hws := HBW.out.size
            have hjle : ((o.take j).map fun x => strV (ndT x)).length = j := by simp; omega
            have HJL := Lib.hid hjle
            clear hsr hjle
            generalize hXS : ((o.take j).map fun x => strV (ndT x)) = XS at *
            have HXS := Lib.hid hXS
            clear hXS
            go_wp2_with (at_builtin; go_must (refine wpList_append_lies _ rfl _ _ _ rfl w1.heap.size 9 is (.string ⟨#[]⟩) 1 16 Tryz.underlying94 HI0.out hz0 hz1 hz2 rfl (by decide) u6 j XS rfl (HROWR.out _) ⟨wr.heap.size, 0, none⟩ 1 1 [.string ⟨L.toArray⟩] rfl rfl (World.news_of_block (cs := #[.string ⟨L.toArray⟩]) (t := 9) (fr := (0, 0)) (HNW.out _)) (by simp [Value.oneCell']) (by decide) (by unfold maxLen; omega) (by omega) (by simp; omega) (wr.heap.size + 1) (by simp) (fun gc capc w6 ho6 hg6 hat6 hl6 => ?_)); have HO6 := Lib.hid ho6; have HG6 := Lib.hid hg6; clear ho6 hg6 hat6 hl6)
            go_roundw
            case rel => exact ⟨j + 1, by omega, by go_num, by rw [HTK.out, HLN.out]; exact HO6.out, (below_next HB.out HB.out.size (HBW.out.alloc HBW.out.size _)).grown HG6.out (by simp; omega) fun k hk => rowS_own HROW.out k hk⟩
            case measure => simp [RowKit.intOf]; omega
      · have C3 := Lib.hid (CI.out imm him.1 him.2)
        rw [HD3.out] at C3
        go_upto_region 11 with (go_at_call 51; (with_reducible refine (C3.out _ HSQ.out).mono ?_); rintro e wz ⟨rfl, hbz⟩; have HBZ : Hid (Since W3 wz) := Lib.hid (below_hop HSQ.out hbz); clear hbz)
        obtain ⟨S, hS⟩ : ∃ S, s4 = S := ⟨_, rfl⟩
        have HSS : Hid (S = decDigits op.toNat ++ 58 :: (decDigits width.toNat ++ immW ⟨op, width, flags, args, imm⟩)) := Lib.hid (by
          unfold immW
          rw [if_pos hm, ← hS, ← HS4.out, ← HS3.out, ← HS2.out, ← HS1.out, HD1.out, HD2.out, HD3.out]
          simp [List.append_assoc])
        have lS : S.length ≤ 40 := by rw [← hS]; omega
        rw [hS]
        clear hS
        clear x0 x3 x4
        have y3 : wz.cell? ⟨wo.heap.size, 3, none⟩ = some (.slice aa args.length ac) := HBZ.out.cell k3
        have HAZ := Lib.hid (HAV.out.stays HBZ.out)
        have hszz : wo.heap.size < wz.heap.size := cell_lt y3
        go_wp2_with fail
        go_loopw [9, 11, 57] (fun sv _ iv wr => ∃ i : Nat, ∃ L, i ≤ args.length ∧ iv = .int .i64 i ∧ sv = .string ⟨L.toArray⟩ ∧ L = S ++ argT (args.take i) ∧ Since wz wr) (fun _ _ iv _ => args.length - (RowKit.intOf iv).toNat)
        case atStart => exact ⟨0, S, Nat.zero_le _, rfl, rfl, by simp [argT], Since.refl _⟩
        case round =>
          obtain ⟨i, L, hi, rfl, rfl, hL, hsr⟩ := hrel
          have HL := Lib.hid hL
          have HSR := Lib.hid hsr
          clear hL
          by_cases hil : i < args.length
          · obtain ⟨ba, qa, ca, ea, _, hba, ha⟩ := Ints.at (HAZ.out.stays hsr) hil
            cases ea
            have hax := HXB.out.args _ (getD_mem0 hil)
            have HTA : Hid (args.take (i + 1) = args.take i ++ [args.getD i 0]) := Lib.hid (by rw [List.take_succ_eq_append_getElem hil, List.getD_eq_getElem?_getD, List.getElem?_eq_getElem hil]; rfl)
            generalize args.getD i 0 = a at *
            have l5 := dgs_len (n := a.toNat) (by omega)
            obtain ⟨d5, hd5⟩ : ∃ l, decDigits a.toNat = l := ⟨_, rfl⟩
            obtain ⟨s5, hs5⟩ : ∃ l, [44] ++ d5 = l := ⟨_, rfl⟩
            obtain ⟨s6, hs6⟩ : ∃ l, L ++ s5 = l := ⟨_, rfl⟩
            have lL : L.length ≤ 80 := by
              have h1 := argT_len (args.take i) fun b hb => HXB.out.args b (List.mem_of_mem_take hb)
              have h2 : (args.take i).length ≤ 3 := by rw [List.length_take]; omega
              rw [HL.out, List.length_append]; omega
            rw [hd5] at l5
            have ls5 : s5.length ≤ 11 := by rw [← hs5, List.length_append]; simp; omega
            have ls6 : s6.length ≤ 91 := by rw [← hs6, List.length_append]; omega
            have E5 := str_add [44] d5 s5 hs5 (by omega)
            have E6 := str_add L s5 s6 hs6 (by omega)
            have C5 := Lib.hid (CI.out a hax.1 (by omega) wr (below_hop HBZ.out hsr))
            rw [hd5] at C5
            have HF : Hid (s6 = S ++ argT (args.take (i + 1))) := Lib.hid (by rw [HTA.out, argT_snoc, ← List.append_assoc, ← HL.out, ← hs6, ← hs5, hd5]; rfl)
            have ii0 : (0 : Int) ≤ (i : Int) := by omega
            have ii1 : (i : Int) < (args.length : Int) := by omega
            clear hd5 hs5 hs6 hsr
            go_wp2_with (go_at_call 51; (with_reducible refine C5.out.mono ?_); rintro e wy ⟨rfl, hby⟩; have HBY : Hid (Since wz wy) := Lib.hid (below_hop HSR.out hby); clear hby)
            go_roundw
            case rel => exact ⟨i + 1, s6, by omega, by go_num, rfl, HF.out, HBY.out⟩
            case measure => simp [RowKit.intOf]; omega
          · obtain rfl : i = args.length := by omega
            have HLN : Hid (strV (ndT ⟨op, width, flags, args, imm⟩) = .string ⟨L.toArray⟩) := Lib.hid (by
              unfold strV ndT
              rw [HL.out, List.take_length, HSS.out]
              simp [List.append_assoc])
            have HBW : Hid (Below wo.heap.size wo wr) := Lib.hid (below_hop HB3.out (below_hop HBZ.out hsr))
            have HROWR : Hid (∀ ob, (wr.alloc ob).ownsRow w1.heap.size 9 1 u6 j ((o.take j).map fun x => strV (ndT x))) := Lib.hid fun ob => rowS_at HROW.out fun g hg hlt => ((HBW.out.alloc HBW.out.size ob).block g hlt)
            have HNW : Hid (∀ ob, (wr.alloc ob).heap[wr.heap.size]? = some ob) := Lib.hid fun ob => Array.getElem?_push_size
            have hws := HBW.out.size
            have hjle : ((o.take j).map fun x => strV (ndT x)).length = j := by simp; omega
            have HJL := Lib.hid hjle
            clear hsr hjle
            generalize hXS : ((o.take j).map fun x => strV (ndT x)) = XS at *
            have HXS := Lib.hid hXS
            clear hXS
            go_wp2_with (at_builtin; go_must (refine wpList_append_lies _ rfl _ _ _ rfl w1.heap.size 9 is (.string ⟨#[]⟩) 1 16 Tryz.underlying94 HI0.out hz0 hz1 hz2 rfl (by decide) u6 j XS rfl (HROWR.out _) ⟨wr.heap.size, 0, none⟩ 1 1 [.string ⟨L.toArray⟩] rfl rfl (World.news_of_block (cs := #[.string ⟨L.toArray⟩]) (t := 9) (fr := (0, 0)) (HNW.out _)) (by simp [Value.oneCell']) (by decide) (by unfold maxLen; omega) (by omega) (by simp; omega) (wr.heap.size + 1) (by simp) (fun gc capc w6 ho6 hg6 hat6 hl6 => ?_)); have HO6 := Lib.hid ho6; have HG6 := Lib.hid hg6; clear ho6 hg6 hat6 hl6)
            go_roundw
            case rel => exact ⟨j + 1, by omega, by go_num, by rw [HTK.out, HLN.out]; exact HO6.out, (below_next HB.out HB.out.size (HBW.out.alloc HBW.out.size _)).grown HG6.out (by simp; omega) fun k hk => rowS_own HROW.out k hk⟩
            case measure => simp [RowKit.intOf]; omega
      · have C3 := Lib.hid (CI.out imm him.1 him.2)
        rw [HD3.out] at C3
        go_upto_region 11 with (go_at_call 51; (with_reducible refine (C3.out _ HSQ.out).mono ?_); rintro e wz ⟨rfl, hbz⟩; have HBZ : Hid (Since W3 wz) := Lib.hid (below_hop HSQ.out hbz); clear hbz)
        obtain ⟨S, hS⟩ : ∃ S, s4 = S := ⟨_, rfl⟩
        have HSS : Hid (S = decDigits op.toNat ++ 58 :: (decDigits width.toNat ++ immW ⟨op, width, flags, args, imm⟩)) := Lib.hid (by
          unfold immW
          rw [if_pos hm, ← hS, ← HS4.out, ← HS3.out, ← HS2.out, ← HS1.out, HD1.out, HD2.out, HD3.out]
          simp [List.append_assoc])
        have lS : S.length ≤ 40 := by rw [← hS]; omega
        rw [hS]
        clear hS
        clear x0 x3 x4
        have y3 : wz.cell? ⟨wo.heap.size, 3, none⟩ = some (.slice aa args.length ac) := HBZ.out.cell k3
        have HAZ := Lib.hid (HAV.out.stays HBZ.out)
        have hszz : wo.heap.size < wz.heap.size := cell_lt y3
        go_wp2_with fail
        go_loopw [9, 11, 57] (fun sv _ iv wr => ∃ i : Nat, ∃ L, i ≤ args.length ∧ iv = .int .i64 i ∧ sv = .string ⟨L.toArray⟩ ∧ L = S ++ argT (args.take i) ∧ Since wz wr) (fun _ _ iv _ => args.length - (RowKit.intOf iv).toNat)
        case atStart => exact ⟨0, S, Nat.zero_le _, rfl, rfl, by simp [argT], Since.refl _⟩
        case round =>
          obtain ⟨i, L, hi, rfl, rfl, hL, hsr⟩ := hrel
          have HL := Lib.hid hL
          have HSR := Lib.hid hsr
          clear hL
          by_cases hil : i < args.length
          · obtain ⟨ba, qa, ca, ea, _, hba, ha⟩ := Ints.at (HAZ.out.stays hsr) hil
            cases ea
            have hax := HXB.out.args _ (getD_mem0 hil)
            have HTA : Hid (args.take (i + 1) = args.take i ++ [args.getD i 0]) := Lib.hid (by rw [List.take_succ_eq_append_getElem hil, List.getD_eq_getElem?_getD, List.getElem?_eq_getElem hil]; rfl)
            generalize args.getD i 0 = a at *
            have l5 := dgs_len (n := a.toNat) (by omega)
            obtain ⟨d5, hd5⟩ : ∃ l, decDigits a.toNat = l := ⟨_, rfl⟩
            obtain ⟨s5, hs5⟩ : ∃ l, [44] ++ d5 = l := ⟨_, rfl⟩
            obtain ⟨s6, hs6⟩ : ∃ l, L ++ s5 = l := ⟨_, rfl⟩
            have lL : L.length ≤ 80 := by
              have h1 := argT_len (args.take i) fun b hb => HXB.out.args b (List.mem_of_mem_take hb)
              have h2 : (args.take i).length ≤ 3 := by rw [List.length_take]; omega
              rw [HL.out, List.length_append]; omega
            rw [hd5] at l5
            have ls5 : s5.length ≤ 11 := by rw [← hs5, List.length_append]; simp; omega
            have ls6 : s6.length ≤ 91 := by rw [← hs6, List.length_append]; omega
            have E5 := str_add [44] d5 s5 hs5 (by omega)
            have E6 := str_add L s5 s6 hs6 (by omega)
            have C5 := Lib.hid (CI.out a hax.1 (by omega) wr (below_hop HBZ.out hsr))
            rw [hd5] at C5
            have HF : Hid (s6 = S ++ argT (args.take (i + 1))) := Lib.hid (by rw [HTA.out, argT_snoc, ← List.append_assoc, ← HL.out, ← hs6, ← hs5, hd5]; rfl)
            have ii0 : (0 : Int) ≤ (i : Int) := by omega
            have ii1 : (i : Int) < (args.length : Int) := by omega
            clear hd5 hs5 hs6 hsr
            go_wp2_with (go_at_call 51; (with_reducible refine C5.out.mono ?_); rintro e wy ⟨rfl, hby⟩; have HBY : Hid (Since wz wy) := Lib.hid (below_hop HSR.out hby); clear hby)
            go_roundw
            case rel => exact ⟨i + 1, s6, by omega, by go_num, rfl, HF.out, HBY.out⟩
            case measure => simp [RowKit.intOf]; omega
          · obtain rfl : i = args.length := by omega
            have HLN : Hid (strV (ndT ⟨op, width, flags, args, imm⟩) = .string ⟨L.toArray⟩) := Lib.hid (by
              unfold strV ndT
              rw [HL.out, List.take_length, HSS.out]
              simp [List.append_assoc])
            have HBW : Hid (Below wo.heap.size wo wr) := Lib.hid (below_hop HB3.out (below_hop HBZ.out hsr))
            have HROWR : Hid (∀ ob, (wr.alloc ob).ownsRow w1.heap.size 9 1 u6 j ((o.take j).map fun x => strV (ndT x))) := Lib.hid fun ob => rowS_at HROW.out fun g hg hlt => ((HBW.out.alloc HBW.out.size ob).block g hlt)
            have HNW : Hid (∀ ob, (wr.alloc ob).heap[wr.heap.size]? = some ob) := Lib.hid fun ob => Array.getElem?_push_size
            have hws := HBW.out.size
            have hjle : ((o.take j).map fun x => strV (ndT x)).length = j := by simp; omega
            have HJL := Lib.hid hjle
            clear hsr hjle
            generalize hXS : ((o.take j).map fun x => strV (ndT x)) = XS at *
            have HXS := Lib.hid hXS
            clear hXS
            go_wp2_with (at_builtin; go_must (refine wpList_append_lies _ rfl _ _ _ rfl w1.heap.size 9 is (.string ⟨#[]⟩) 1 16 Tryz.underlying94 HI0.out hz0 hz1 hz2 rfl (by decide) u6 j XS rfl (HROWR.out _) ⟨wr.heap.size, 0, none⟩ 1 1 [.string ⟨L.toArray⟩] rfl rfl (World.news_of_block (cs := #[.string ⟨L.toArray⟩]) (t := 9) (fr := (0, 0)) (HNW.out _)) (by simp [Value.oneCell']) (by decide) (by unfold maxLen; omega) (by omega) (by simp; omega) (wr.heap.size + 1) (by simp) (fun gc capc w6 ho6 hg6 hat6 hl6 => ?_)); have HO6 := Lib.hid ho6; have HG6 := Lib.hid hg6; clear ho6 hg6 hat6 hl6)
            go_roundw
            case rel => exact ⟨j + 1, by omega, by go_num, by rw [HTK.out, HLN.out]; exact HO6.out, (below_next HB.out HB.out.size (HBW.out.alloc HBW.out.size _)).grown HG6.out (by simp; omega) fun k hk => rowS_own HROW.out k hk⟩
            case measure => simp [RowKit.intOf]; omega
      · go_upto_region 11 with fail
        obtain ⟨S, hS⟩ : ∃ S, s2 = S := ⟨_, rfl⟩
        have HSS : Hid (S = decDigits op.toNat ++ 58 :: (decDigits width.toNat ++ immW ⟨op, width, flags, args, imm⟩)) := Lib.hid (by
          unfold immW
          rw [if_neg (by simp only; rw [hm]; decide), ← hS, ← HS2.out, ← HS1.out, HD1.out, HD2.out]
          simp [List.append_assoc])
        have lS : S.length ≤ 40 := by rw [← hS]; omega
        have HBZ := Lib.hid HSQ.out
        rw [hS]
        clear hS
        generalize w' = wz at *
        clear x0 x3 x4
        have y3 : wz.cell? ⟨wo.heap.size, 3, none⟩ = some (.slice aa args.length ac) := HBZ.out.cell k3
        have HAZ := Lib.hid (HAV.out.stays HBZ.out)
        have hszz : wo.heap.size < wz.heap.size := cell_lt y3
        go_wp2_with fail
        go_loopw [9, 11, 57] (fun sv _ iv wr => ∃ i : Nat, ∃ L, i ≤ args.length ∧ iv = .int .i64 i ∧ sv = .string ⟨L.toArray⟩ ∧ L = S ++ argT (args.take i) ∧ Since wz wr) (fun _ _ iv _ => args.length - (RowKit.intOf iv).toNat)
        case atStart => exact ⟨0, S, Nat.zero_le _, rfl, rfl, by simp [argT], Since.refl _⟩
        case round =>
          obtain ⟨i, L, hi, rfl, rfl, hL, hsr⟩ := hrel
          have HL := Lib.hid hL
          have HSR := Lib.hid hsr
          clear hL
          by_cases hil : i < args.length
          · obtain ⟨ba, qa, ca, ea, _, hba, ha⟩ := Ints.at (HAZ.out.stays hsr) hil
            cases ea
            have hax := HXB.out.args _ (getD_mem0 hil)
            have HTA : Hid (args.take (i + 1) = args.take i ++ [args.getD i 0]) := Lib.hid (by rw [List.take_succ_eq_append_getElem hil, List.getD_eq_getElem?_getD, List.getElem?_eq_getElem hil]; rfl)
            generalize args.getD i 0 = a at *
            have l5 := dgs_len (n := a.toNat) (by omega)
            obtain ⟨d5, hd5⟩ : ∃ l, decDigits a.toNat = l := ⟨_, rfl⟩
            obtain ⟨s5, hs5⟩ : ∃ l, [44] ++ d5 = l := ⟨_, rfl⟩
            obtain ⟨s6, hs6⟩ : ∃ l, L ++ s5 = l := ⟨_, rfl⟩
            have lL : L.length ≤ 80 := by
              have h1 := argT_len (args.take i) fun b hb => HXB.out.args b (List.mem_of_mem_take hb)
              have h2 : (args.take i).length ≤ 3 := by rw [List.length_take]; omega
              rw [HL.out, List.length_append]; omega
            rw [hd5] at l5
            have ls5 : s5.length ≤ 11 := by rw [← hs5, List.length_append]; simp; omega
            have ls6 : s6.length ≤ 91 := by rw [← hs6, List.length_append]; omega
            have E5 := str_add [44] d5 s5 hs5 (by omega)
            have E6 := str_add L s5 s6 hs6 (by omega)
            have C5 := Lib.hid (CI.out a hax.1 (by omega) wr (below_hop HBZ.out hsr))
            rw [hd5] at C5
            have HF : Hid (s6 = S ++ argT (args.take (i + 1))) := Lib.hid (by rw [HTA.out, argT_snoc, ← List.append_assoc, ← HL.out, ← hs6, ← hs5, hd5]; rfl)
            have ii0 : (0 : Int) ≤ (i : Int) := by omega
            have ii1 : (i : Int) < (args.length : Int) := by omega
            clear hd5 hs5 hs6 hsr
            go_wp2_with (go_at_call 51; (with_reducible refine C5.out.mono ?_); rintro e wy ⟨rfl, hby⟩; have HBY : Hid (Since wz wy) := Lib.hid (below_hop HSR.out hby); clear hby)
            go_roundw
            case rel => exact ⟨i + 1, s6, by omega, by go_num, rfl, HF.out, HBY.out⟩
            case measure => simp [RowKit.intOf]; omega
          · obtain rfl : i = args.length := by omega
            have HLN : Hid (strV (ndT ⟨op, width, flags, args, imm⟩) = .string ⟨L.toArray⟩) := Lib.hid (by
              unfold strV ndT
              rw [HL.out, List.take_length, HSS.out]
              simp [List.append_assoc])
            have HBW : Hid (Below wo.heap.size wo wr) := Lib.hid (below_hop HB3.out (below_hop HBZ.out hsr))
            have HROWR : Hid (∀ ob, (wr.alloc ob).ownsRow w1.heap.size 9 1 u6 j ((o.take j).map fun x => strV (ndT x))) := Lib.hid fun ob => rowS_at HROW.out fun g hg hlt => ((HBW.out.alloc HBW.out.size ob).block g hlt)
            have HNW : Hid (∀ ob, (wr.alloc ob).heap[wr.heap.size]? = some ob) := Lib.hid fun ob => Array.getElem?_push_size
            have hws := HBW.out.size
            have hjle : ((o.take j).map fun x => strV (ndT x)).length = j := by simp; omega
            have HJL := Lib.hid hjle
            clear hsr hjle
            generalize hXS : ((o.take j).map fun x => strV (ndT x)) = XS at *
            have HXS := Lib.hid hXS
            clear hXS
            go_wp2_with (at_builtin; go_must (refine wpList_append_lies _ rfl _ _ _ rfl w1.heap.size 9 is (.string ⟨#[]⟩) 1 16 Tryz.underlying94 HI0.out hz0 hz1 hz2 rfl (by decide) u6 j XS rfl (HROWR.out _) ⟨wr.heap.size, 0, none⟩ 1 1 [.string ⟨L.toArray⟩] rfl rfl (World.news_of_block (cs := #[.string ⟨L.toArray⟩]) (t := 9) (fr := (0, 0)) (HNW.out _)) (by simp [Value.oneCell']) (by decide) (by unfold maxLen; omega) (by omega) (by simp; omega) (wr.heap.size + 1) (by simp) (fun gc capc w6 ho6 hg6 hat6 hl6 => ?_)); have HO6 := Lib.hid ho6; have HG6 := Lib.hid hg6; clear ho6 hg6 hat6 hl6)
            go_roundw
            case rel => exact ⟨j + 1, by omega, by go_num, by rw [HTK.out, HLN.out]; exact HO6.out, (below_next HB.out HB.out.size (HBW.out.alloc HBW.out.size _)).grown HG6.out (by simp; omega) fun k hk => rowS_own HROW.out k hk⟩
            case measure => simp [RowKit.intOf]; omega
    · obtain rfl : j = o.length := by omega
      obtain ⟨g, gc, rfl, hgc, hgl, hcell⟩ := rowS_get hrow (by omega)
      have hml : (o.map ndT).length = o.length := by simp
      have CJ := join_any g 0 gc (o.map ndT) wo (fun j x hx => by
        have hjl := (List.getElem?_eq_some_iff.1 hx).1
        rw [List.getElem?_map] at hx
        obtain ⟨y, hy, rfl⟩ := Option.map_eq_some_iff.1 hx
        refine hcell j _ (by omega) ?_
        rw [List.take_length, List.getElem?_map, hy]; rfl) hgl (by omega) (by omega) (by
        have h1 := joinB_len (o.map ndT) (fun u hu => by
          obtain ⟨x, hx, rfl⟩ := List.mem_map.1 hu
          obtain ⟨k, hk, rfl⟩ := List.getElem_of_mem hx
          have := (txb_of HVO.out HIO.out hk).1
          unfold nd at this
          rw [List.getD_eq_getElem?_getD, List.getElem?_eq_getElem hk] at this
          exact ndT_len this)
        omega)
      rw [hml] at CJ
      have HJ := Lib.hid CJ
      clear CJ hcell hrow hb
      go_wp2_with (go_at_call 52; (with_reducible refine HJ.out.mono ?_); rintro e wy ⟨rfl, hby⟩; have HBY := Lib.hid (below_hop HB1.out (below_hop HB.out hby)); clear hby)
      go_ret2
      exact ⟨rfl, HBY.out⟩
end Go.Proofs.YtgcfadnnajahhaaGreatDoor
namespace Go.Proofs.YtgcfadnnajahhaaGreatDoor
open Go.RowKit Go.Maps Wd
set_option linter.unusedVariables false
set_option linter.unusedSimpArgs false
set_option maxHeartbeats 4000000 in
theorem eqI_any (xs ys : List Int) (v u : Value) (w : World) (hv : Ints .i64 w v xs) (hu : Ints .i64 w u ys) : Calls Tryz.prog 90 #[v, u] w fun e w' => e = .returned (.bool (decide (xs = ys))) ∧ Dr w w' := by
  have HX := Lib.hid hv
  have HY := Lib.hid hu
  obtain ⟨a, c, rfl, h1, h2⟩ := hv.shape
  obtain ⟨a2, c2, rfl, k1, k2⟩ := hu.shape
  clear hv hu
  cases hne : ((xs.length : Int) != ys.length)
  · have hl : xs.length = ys.length := by
      have h : (xs.length : Int) = ys.length := by simpa using hne
      omega
    have HL := Lib.hid hl
    clear hl
    go_enter Tryz.func90, Tryz.ntmps90
    go_wp2_with fail
    go_loopw [5, 13] (fun _ i wr => ∃ j : Nat, j ≤ xs.length ∧ i = .int .i64 j ∧ Hid (∀ i, i < j → xs.getD i 0 = ys.getD i 0) ∧ Dr w wr) (fun _ i _ => xs.length - (intOf i).toNat)
    case atStart => exact ⟨0, Nat.zero_le _, rfl, (fun i hi => absurd hi (by omega)), Dr.refl _⟩
    case round =>
      obtain ⟨j, hj, rfl, hno, n, rfl⟩ := hrel
      by_cases hlt : j < xs.length
      · have hlt2 : j < ys.length := by have := HL.out; omega
        obtain ⟨b, q, c', e', _, _, d0⟩ := HX.out.at hlt
        cases e'
        obtain ⟨b2, q2, c2', e', _, _, d1⟩ := HY.out.at hlt2
        cases e'
        generalize hx : xs.getD j 0 = x at *
        generalize hy : ys.getD j 0 = y at *
        have HXJ := Lib.hid hx
        have HYJ := Lib.hid hy
        clear hx hy
        cases hc : (x != y)
        · have HC : Hid (x = y) := by
            have : x = y := by simpa using hc
            exact this
          go_wp2_with fail
          go_quiet (fail)
          go_wp2_with fail
          go_roundw
          case rel => exact ⟨j + 1, by omega, by go_num, (fun i hi => by
            by_cases e : i = j
            · rw [e, HXJ.out, HYJ.out]; exact HC.out
            · exact hno.out i (by omega)), _, rfl⟩
          case measure => simp [intOf]; omega
        · have HV : Hid (decide (xs = ys) = false) := by
            have hc' : x ≠ y := by simpa using hc
            show _ = _
            rw [decide_eq_false_iff_not]
            intro e
            exact hc' (by rw [← HXJ.out, ← HYJ.out, e])
          go_wp2_with fail
          go_quiet (fail)
          go_wp2_with fail
          go_ret
          exact ⟨ret_b HV.out.symm, _, by first | rfl | exact World.drewN_drewN _ _ _⟩
      · have HV : Hid (decide (xs = ys) = true) := by
          show _ = _
          rw [decide_eq_true_iff]
          exact ext_getD HL.out (fun i hi => hno.out i (by omega))
        go_wp2_with fail
        go_ret
        exact ⟨ret_b HV.out.symm, _, rfl⟩
  · have HV : Hid (decide (xs = ys) = false) := by
      have hl : xs.length ≠ ys.length := by intro e; rw [e] at hne; simp at hne
      show _ = _
      rw [decide_eq_false_iff_not]
      intro e
      exact hl (by rw [e])
    go_enter Tryz.func90, Tryz.ntmps90
    go_wp2_with fail
    go_ret
    exact ⟨ret_b HV.out.symm, Dr.refl _⟩
theorem pSameNode (x y : Nd) (xv yv : Value) (w : World) (hx : Ints .i64 w xv x.args) (hy : Ints .i64 w yv y.args) :
    Calls Tryz.prog 46 #[ndA x xv, ndA y yv] w fun e w' => e = .returned (.bool (decide (x = y))) ∧ Below w.heap.size w w' := by
  obtain ⟨a, b, c, d, i⟩ := x
  obtain ⟨a', b', c', d', i'⟩ := y
  simp only [ndA] at hx hy ⊢
  have HX := Lib.hid hx
  have HY := Lib.hid hy
  have hs := fun W (hb : Below w.heap.size w W) => eqI_any d d' xv yv W (hx.stays hb) (hy.stays hb)
  have HS := Lib.hid hs
  clear hs hx hy
  have HB : Hid (Below w.heap.size w ((w.alloc (.cells #[.int .i64 a, .int .i64 b, .int .i64 c, xv, .int .u32 i] 65)).alloc (.cells #[.int .i64 a', .int .i64 b', .int .i64 c', yv, .int .u32 i'] 65))) := ((Below.refl _ _).alloc (Nat.le_refl _) _).alloc (by simp) _
  cases h1 : (a == a')
  · have HE : Hid (decide ((⟨a, b, c, d, i⟩ : Nd) = ⟨a', b', c', d', i'⟩) = false) := by
      show _ = _
      rw [decide_eq_false_iff_not]; intro e; cases e; simp at h1
    go_enter Tryz.func46, Tryz.ntmps46
    go_wp2_with fail
    go_ret
    exact ⟨ret_b HE.out.symm, HB.out⟩
  cases h2 : (b == b')
  · have HE : Hid (decide ((⟨a, b, c, d, i⟩ : Nd) = ⟨a', b', c', d', i'⟩) = false) := by
      show _ = _
      rw [decide_eq_false_iff_not]; intro e; cases e; simp at h2
    go_enter Tryz.func46, Tryz.ntmps46
    go_wp2_with fail
    go_ret
    exact ⟨ret_b HE.out.symm, HB.out⟩
  cases h3 : (c == c')
  · have HE : Hid (decide ((⟨a, b, c, d, i⟩ : Nd) = ⟨a', b', c', d', i'⟩) = false) := by
      show _ = _
      rw [decide_eq_false_iff_not]; intro e; cases e; simp at h3
    go_enter Tryz.func46, Tryz.ntmps46
    go_wp2_with fail
    go_ret
    exact ⟨ret_b HE.out.symm, HB.out⟩
  cases h4 : (i == i')
  · have HE : Hid (decide ((⟨a, b, c, d, i⟩ : Nd) = ⟨a', b', c', d', i'⟩) = false) := by
      show _ = _
      rw [decide_eq_false_iff_not]; intro e; cases e; simp at h4
    go_enter Tryz.func46, Tryz.ntmps46
    go_wp2_with fail
    go_ret
    exact ⟨ret_b HE.out.symm, HB.out⟩
  have HE : Hid (decide ((⟨a, b, c, d, i⟩ : Nd) = ⟨a', b', c', d', i'⟩) = decide (d = d')) := by
    show _ = _
    simp at h1 h2 h3 h4
    subst h1 h2 h3 h4
    rw [Bool.eq_iff_iff, decide_eq_true_iff, decide_eq_true_iff]
    exact ⟨fun e => by cases e; rfl, fun e => by rw [e]⟩
  have HS2 := Lib.hid (HS.out _ HB.out)
  generalize decide (d = d') = z at *
  go_enter Tryz.func46, Tryz.ntmps46
  go_wp2_with (go_at_call 90; with_reducible refine HS2.out.mono ?_; rintro e w' ⟨rfl, hd⟩; have HD := Lib.hid hd; clear hd)
  go_ret
  exact ⟨ret_b HE.out.symm, HB.out.trans (HD.out.below _)⟩
theorem eqF_any (ts us : List Nd) (tv uv : Value) (w : World) (ht : Nds w tv ts) (hu : Nds w uv us) :
    Calls Tryz.prog 44 #[tv, uv, .func (.func 46) #[] #[]] w fun e w' => e = .returned (.bool (decide (ts = us))) ∧ Below w.heap.size w w' := by
  have HT := Lib.hid ht
  have HU := Lib.hid hu
  obtain ⟨ta, tc, rfl, ht1, ht2⟩ := ht.shape
  obtain ⟨ua, uc, rfl, hu1, hu2⟩ := hu.shape
  clear ht hu
  cases hl : ((ts.length : Int) != us.length)
  · have hll : ts.length = us.length := by
      have h9 : (ts.length : Int) = us.length := by simpa using hl
      omega
    have HLL := Lib.hid hll
    clear hll
    go_enter Tryz.func44, Tryz.ntmps44
    go_wp2_with fail
    go_loopw [7, 8, 9, 17] (fun _ _ _ i wr => ∃ j : Nat, j ≤ ts.length ∧ i = .int .i64 j ∧ Hid (∀ k, k < j → ts.getD k default = us.getD k default) ∧ Below w.heap.size w wr) (fun _ _ _ i _ => ts.length - (intOf i).toNat)
    case atStart => exact ⟨0, Nat.zero_le _, rfl, fun k hk => absurd hk (by omega), Below.refl _ _⟩
    case round =>
      obtain ⟨j, hj, rfl, heq, hb⟩ := hrel
      have HB := Lib.hid hb
      clear hb
      by_cases hlt : j < ts.length
      · have hltu : j < us.length := by have := HLL.out; omega
        obtain ⟨b, q, c', av, e', _, hbq, hav, c0, c1, c2, c3, c4⟩ := HT.out.at2 HB.out hlt
        cases e'
        obtain ⟨b', q', c'', av', e', _, hbq', hav', d0, d1, d2, d3, d4⟩ := HU.out.at2 HB.out hltu
        cases e'
        obtain ⟨xa, xc, rfl, _, _⟩ := hav.shape
        obtain ⟨ya, yc, rfl, _, _⟩ := hav'.shape
        obtain ⟨xn, hxn⟩ : ∃ n, (ts.getD j default).args.length = n := ⟨_, rfl⟩
        obtain ⟨yn, hyn⟩ : ∃ n, (us.getD j default).args.length = n := ⟨_, rfl⟩
        rw [hxn] at hav c3
        rw [hyn] at hav' d3
        clear hxn hyn
        have HAV := Lib.hid hav
        have HAV' := Lib.hid hav'
        have hs0 : (0 : Int) ≤ (j : Int) := by omega
        have hs1 : (j : Int) < ts.length := by omega
        have hs2 : (j : Int) < us.length := by omega
        generalize hx : ts.getD j default = x at *
        generalize hy : us.getD j default = y at *
        have HXX := Lib.hid hx
        have HYY := Lib.hid hy
        clear hx hy hav hav'
        obtain ⟨op, width, flags, args, imm⟩ := x
        obtain ⟨op', width', flags', args', imm'⟩ := y
        simp only at c0 c1 c2 c3 c4 d0 d1 d2 d3 d4
        have hbw := HB.out.size
        have hn1 : ¬ b = wr.heap.size := by omega
        have hn2 : ¬ b' = wr.heap.size := by omega
        have hl1 : b < wr.heap.size := by omega
        have hl2 : b' < wr.heap.size := by omega
        obtain ⟨W3, hW3⟩ : ∃ W, (wr.alloc (.cells #[.int .i64 op, .int .i64 width, .int .i64 flags, (.slice xa xn xc), .int .u32 imm] 65)).alloc (.cells #[.int .i64 op', .int .i64 width', .int .i64 flags', (.slice ya yn yc), .int .u32 imm'] 65) = W := ⟨_, rfl⟩
        have HB3 : Hid (Below wr.heap.size wr W3) := by rw [← hW3]; exact ((Below.refl _ _).alloc (Nat.le_refl _) _).alloc (by simp) _
        have HC : Hid (Calls Tryz.prog 46 #[.agg #[.int .i64 op, .int .i64 width, .int .i64 flags, (.slice xa xn xc), .int .u32 imm], .agg #[.int .i64 op', .int .i64 width', .int .i64 flags', (.slice ya yn yc), .int .u32 imm']] W3 fun e w' => e = .returned (.bool (decide ((⟨op, width, flags, args, imm⟩ : Nd) = ⟨op', width', flags', args', imm'⟩))) ∧ Below W3.heap.size W3 w') :=
          pSameNode ⟨op, width, flags, args, imm⟩ ⟨op', width', flags', args', imm'⟩ (.slice xa xn xc) (.slice ya yn yc) W3 (HAV.out.stays (below_hop HB.out HB3.out)) (HAV'.out.stays (below_hop HB.out HB3.out))
        have q0 : W3.cell? ⟨wr.heap.size, 0, none⟩ = some (.int .i64 op) ∧ W3.cell? ⟨wr.heap.size, 1, none⟩ = some (.int .i64 width) ∧ W3.cell? ⟨wr.heap.size, 2, none⟩ = some (.int .i64 flags) ∧ W3.cell? ⟨wr.heap.size, 3, none⟩ = some (.slice xa xn xc) ∧ W3.cell? ⟨wr.heap.size, 4, none⟩ = some (.int .u32 imm) := by rw [← hW3]; simp [go_sem]
        have q1 : W3.cell? ⟨wr.heap.size + 1, 0, none⟩ = some (.int .i64 op') ∧ W3.cell? ⟨wr.heap.size + 1, 1, none⟩ = some (.int .i64 width') ∧ W3.cell? ⟨wr.heap.size + 1, 2, none⟩ = some (.int .i64 flags') ∧ W3.cell? ⟨wr.heap.size + 1, 3, none⟩ = some (.slice ya yn yc) ∧ W3.cell? ⟨wr.heap.size + 1, 4, none⟩ = some (.int .u32 imm') := by rw [← hW3]; simp [go_sem]
        obtain ⟨m0, m1, m2, m3, m4⟩ := q0
        obtain ⟨n0, n1, n2, n3, n4⟩ := q1
        generalize hz : decide ((⟨op, width, flags, args, imm⟩ : Nd) = ⟨op', width', flags', args', imm'⟩) = z at *
        have HZ := Lib.hid hz
        clear hz
        go_upto_region 7 with fail
        clear hW3
        cases z
        · go_wp2_with (go_at_call 46; with_reducible refine HC.out.mono ?_; rintro e w9 ⟨rfl, hb9⟩; have HB9 := Lib.hid (below_hop HB.out (below_hop HB3.out hb9)); clear hb9)
          go_ret
          refine ⟨ret_b (Eq.symm ?_), HB9.out⟩
          rw [decide_eq_false_iff_not]
          intro e
          have hz := HZ.out
          rw [← HXX.out, ← HYY.out, e] at hz
          simp at hz
        · have HXY : Hid (ts.getD j default = us.getD j default) := Lib.hid (by rw [HXX.out, HYY.out]; exact of_decide_eq_true HZ.out)
          go_wp2_with (go_at_call 46; with_reducible refine HC.out.mono ?_; rintro e w9 ⟨rfl, hb9⟩; have HB9 := Lib.hid (below_hop HB.out (below_hop HB3.out hb9)); clear hb9)
          go_roundw
          case rel => exact ⟨j + 1, by omega, by go_num, fun k hk => by
            by_cases e : k = j
            · subst e; exact HXY.out
            · exact heq.out k (by omega), HB9.out⟩
          case measure => simp [intOf]; omega
      · obtain rfl : j = ts.length := by omega
        go_wp2_with fail
        go_ret
        refine ⟨ret_b (Eq.symm ?_), HB.out⟩
        rw [decide_eq_true_iff]
        apply List.ext_getElem HLL.out
        intro i h1 h2
        have := heq.out i h1
        rw [List.getD_eq_getElem?_getD, List.getD_eq_getElem?_getD, List.getElem?_eq_getElem h1, List.getElem?_eq_getElem h2] at this
        exact this
  · have HF : Hid (decide (ts = us) = false) := by
      show _ = _
      rw [decide_eq_false_iff_not]; intro e; subst e; simp at hl
    go_enter Tryz.func44, Tryz.ntmps44
    go_wp2_with fail
    go_ret
    exact ⟨ret_b HF.out.symm, Below.refl _ _⟩
end Go.Proofs.YtgcfadnnajahhaaGreatDoor
namespace Go.Proofs.YtgcfadnnajahhaaGreatDoor
open Go.RowKit Go.Maps
set_option linter.unusedVariables false
set_option linter.unusedSimpArgs false
def smE (ts us : List Nd) : Int := if valE ts ≠ 0 then valE ts else valE us
def smB (ts us : List Nd) : Bool := if smE ts us = 0 then decide (shr ts (ts.length - 1) = shr us (us.length - 1)) else false
def ImmOk (ts : List Nd) : Prop := ∀ x ∈ ts, 0 ≤ x.imm ∧ x.imm ≤ 4294967295
theorem smE_ok {ts us : List Nd} (h1 : valE ts = 0) (h2 : valE us = 0) : smE ts us = 0 := by unfold smE; rw [if_neg (by simp [h1]), h2]
theorem smB_ok {ts us : List Nd} (h1 : valE ts = 0) (h2 : valE us = 0) : smB ts us = decide (shr ts (ts.length - 1) = shr us (us.length - 1)) := by unfold smB; rw [if_pos (smE_ok h1 h2)]
theorem sm_no {ts us : List Nd} {n : Int} (h : smE ts us = n) (hn : n ≠ 0) : smB ts us = false := by unfold smB; rw [if_neg (by rw [h]; exact hn)]
theorem pSame (ts us : List Nd) (tv uv : Value) (w : World) (h1 : ImmOk ts) (h2 : ImmOk us) (ht : Nds w tv ts) (hu : Nds w uv us) :
    Calls Tryz.prog 18 #[tv, uv] w fun e w' => e = .returned (.tuple #[.bool (smB ts us), .int .i64 (smE ts us)]) ∧ Below w.heap.size w w' := by
  have V1 : Hid (∀ W, Below w.heap.size w W → Calls Tryz.prog 43 #[tv] W fun e w' => e = .returned (.int .i64 (valE ts)) ∧ Below W.heap.size W w') := Lib.hid fun W hb => pValidate ts tv W (ht.stays hb) h1
  have V2 : Hid (∀ W, Below w.heap.size w W → Calls Tryz.prog 43 #[uv] W fun e w' => e = .returned (.int .i64 (valE us)) ∧ Below W.heap.size W w') := Lib.hid fun W hb => pValidate us uv W (hu.stays hb) h2
  have HT := Lib.hid ht
  have HU := Lib.hid hu
  have HI1 := Lib.hid h1
  have HI2 := Lib.hid h2
  have R0 := Below.refl w.heap.size w
  by_cases e1 : valE ts = 0
  · by_cases e2 : valE us = 0
    · rw [smE_ok e1 e2, smB_ok e1 e2]
      obtain ⟨t1, t2, _⟩ := valid_facts e1
      obtain ⟨u1, u2, _⟩ := valid_facts e2
      have L1 := Lib.hid (shr_len (valid_down e1) (k := ts.length - 1) (by omega))
      have L2 := Lib.hid (shr_len (valid_down e2) (k := us.length - 1) (by omega))
      have S1 : Hid (∀ W, Below w.heap.size w W → Calls Tryz.prog 45 #[tv, .int .i64 ((ts.length : Int) - 1)] W fun e w' => ∃ v, e = .returned v ∧ ShrIs W w' v (shr ts (ts.length - 1))) := Lib.hid fun W hb => share_last e1 HI1.out (HT.out.stays hb)
      have S2 : Hid (∀ W, Below w.heap.size w W → Calls Tryz.prog 45 #[uv, .int .i64 ((us.length : Int) - 1)] W fun e w' => ∃ v, e = .returned v ∧ ShrIs W w' v (shr us (us.length - 1))) := Lib.hid fun W hb => share_last e2 HI2.out (HU.out.stays hb)
      obtain ⟨ta, tc, rfl, _, _⟩ := ht.shape
      obtain ⟨ua, uc, rfl, _, _⟩ := hu.shape
      rw [e1] at V1
      rw [e2] at V2
      generalize shr ts (ts.length - 1) = o at *
      generalize shr us (us.length - 1) = p at *
      clear e1 e2 ht hu h1 h2
      have RR := Lib.hid R0
      clear R0
      go_enter Tryz.func18, Tryz.ntmps18
      go_upto_region 4 with (go_at_call 43; (with_reducible refine (V1.out _ RR.out).mono ?_); rintro e w1 ⟨rfl, hb⟩; have B1 := Lib.hid hb; clear hb)
      go_upto_region 7 with (go_at_call 43; (with_reducible refine (V2.out _ B1.out).mono ?_); rintro e w2 ⟨rfl, hb⟩; have B2 := Lib.hid (below_hop B1.out hb); clear hb)
      go_wp2_with (first | (go_at_call 45; (with_reducible refine (S1.out _ B2.out).mono ?_); rintro e w3 ⟨v3, rfl, hs⟩; have N3 := Lib.hid (hs.nds (by have := L1.out; omega)); have B3 := Lib.hid (below_hop B2.out hs.bel); clear hs) | (go_at_call 45; (with_reducible refine (S2.out _ B3.out).mono ?_); rintro e w4 ⟨v4, rfl, hs⟩; have N4 := Lib.hid (hs.nds (by have := L2.out; omega)); have N34 := Lib.hid (N3.out.stays hs.bel); have B4 := Lib.hid (below_hop B3.out hs.bel); clear hs) | (go_at_call 44; (with_reducible refine (eqF_any o p v3 v4 w4 N34.out N4.out).mono ?_); rintro e w5 ⟨rfl, hb⟩; have B5 := Lib.hid (below_hop B4.out hb); clear hb))
      go_ret2
      exact ⟨rfl, B5.out⟩
    · have HE : Hid (smE ts us = valE us) := Lib.hid (by unfold smE; rw [if_neg (by simp [e1])])
      have HB : Hid (smB ts us = false) := Lib.hid (sm_no HE.out e2)
      rw [HE.out, HB.out]
      rw [e1] at V1
      generalize valE us = n at *
      have hz : (n != 0) = true := by simpa using e2
      have RR := Lib.hid R0
      clear R0 e1 e2 HE HB ht hu h1 h2
      go_enter Tryz.func18, Tryz.ntmps18
      go_upto_region 4 with (go_at_call 43; (with_reducible refine (V1.out _ RR.out).mono ?_); rintro e w1 ⟨rfl, hb⟩; have B1 := Lib.hid hb; clear hb)
      go_wp2_with (go_at_call 43; (with_reducible refine (V2.out _ B1.out).mono ?_); rintro e w2 ⟨rfl, hb⟩; have B2 := Lib.hid (below_hop B1.out hb); clear hb)
      go_ret2
      exact ⟨rfl, B2.out⟩
  · have HE : Hid (smE ts us = valE ts) := Lib.hid (by unfold smE; rw [if_pos e1])
    have HB : Hid (smB ts us = false) := Lib.hid (sm_no HE.out e1)
    rw [HE.out, HB.out]
    generalize valE ts = n at *
    have hz : (n != 0) = true := by simpa using e1
    have RR := Lib.hid R0
    clear R0 e1 HE HB ht hu h1 h2
    go_enter Tryz.func18, Tryz.ntmps18
    go_wp2_with (go_at_call 43; (with_reducible refine (V1.out _ RR.out).mono ?_); rintro e w1 ⟨rfl, hb⟩; have B1 := Lib.hid hb; clear hb)
    go_ret2
    exact ⟨rfl, B1.out⟩
theorem rSame (ts us : List Nd) (tv uv : Value) (w : World) (h1 : ImmOk ts) (h2 : ImmOk us) (ht : Nds w tv ts) (hu : Nds w uv us) :
    Calls Tryz.prog 19 #[tv, uv] w fun e w' => e = .returned (.tuple #[.bool (smB ts us), .int .i64 (smE ts us)]) ∧ Below w.heap.size w w' := by
  have V1 : Hid (∀ W, Below w.heap.size w W → Calls Tryz.prog 47 #[tv] W fun e w' => e = .returned (.int .i64 (valE ts)) ∧ Below W.heap.size W w') := Lib.hid fun W hb => rValidate ts tv W (ht.stays hb) h1
  have V2 : Hid (∀ W, Below w.heap.size w W → Calls Tryz.prog 47 #[uv] W fun e w' => e = .returned (.int .i64 (valE us)) ∧ Below W.heap.size W w') := Lib.hid fun W hb => rValidate us uv W (hu.stays hb) h2
  have HT := Lib.hid ht
  have HU := Lib.hid hu
  have HI1 := Lib.hid h1
  have HI2 := Lib.hid h2
  have R0 := Below.refl w.heap.size w
  by_cases e1 : valE ts = 0
  · by_cases e2 : valE us = 0
    · rw [smE_ok e1 e2, smB_ok e1 e2]
      obtain ⟨t1, t2, _⟩ := valid_facts e1
      obtain ⟨u1, u2, _⟩ := valid_facts e2
      have L1 := Lib.hid (shr_len (valid_down e1) (k := ts.length - 1) (by omega))
      have L2 := Lib.hid (shr_len (valid_down e2) (k := us.length - 1) (by omega))
      have S1 : Hid (∀ W, Below w.heap.size w W → Calls Tryz.prog 49 #[tv, .int .i64 ((ts.length : Int) - 1)] W fun e w' => ∃ v, e = .returned v ∧ Nds w' v (shr ts (ts.length - 1)) ∧ Below W.heap.size W w') := Lib.hid fun W hb => rShared_last e1 HI1.out (HT.out.stays hb)
      have S2 : Hid (∀ W, Below w.heap.size w W → Calls Tryz.prog 49 #[uv, .int .i64 ((us.length : Int) - 1)] W fun e w' => ∃ v, e = .returned v ∧ Nds w' v (shr us (us.length - 1)) ∧ Below W.heap.size W w') := Lib.hid fun W hb => rShared_last e2 HI2.out (HU.out.stays hb)
      obtain ⟨ta, tc, rfl, _, _⟩ := ht.shape
      obtain ⟨ua, uc, rfl, _, _⟩ := hu.shape
      rw [e1] at V1
      rw [e2] at V2
      generalize shr ts (ts.length - 1) = o at *
      generalize shr us (us.length - 1) = p at *
      clear e1 e2 ht hu h1 h2
      have RR := Lib.hid R0
      clear R0
      go_enter Tryz.func19, Tryz.ntmps19
      go_upto_region 4 with (go_at_call 47; (with_reducible refine (V1.out _ RR.out).mono ?_); rintro e w1 ⟨rfl, hb⟩; have B1 := Lib.hid hb; clear hb)
      go_upto_region 7 with (go_at_call 47; (with_reducible refine (V2.out _ B1.out).mono ?_); rintro e w2 ⟨rfl, hb⟩; have B2 := Lib.hid (below_hop B1.out hb); clear hb)
      go_wp2_with (first | (go_at_call 49; (with_reducible refine (S1.out _ B2.out).mono ?_); rintro e w3 ⟨v3, rfl, hn, hb⟩; have N3 := Lib.hid hn; have B3 := Lib.hid (below_hop B2.out hb); clear hn hb) | (go_at_call 49; (with_reducible refine (S2.out _ B3.out).mono ?_); rintro e w4 ⟨v4, rfl, hn, hb⟩; have N4 := Lib.hid hn; have N34 := Lib.hid (N3.out.stays hb); have B4 := Lib.hid (below_hop B3.out hb); clear hn hb) | (go_at_call 48; (with_reducible refine (rSameNodes o p v3 v4 w4 N34.out N4.out).mono ?_); rintro e w5 ⟨rfl, hb⟩; have B5 := Lib.hid (below_hop B4.out hb); clear hb))
      go_ret2
      exact ⟨rfl, B5.out⟩
    · have HE : Hid (smE ts us = valE us) := Lib.hid (by unfold smE; rw [if_neg (by simp [e1])])
      have HB : Hid (smB ts us = false) := Lib.hid (sm_no HE.out e2)
      rw [HE.out, HB.out]
      rw [e1] at V1
      generalize valE us = n at *
      have hz : (n != 0) = true := by simpa using e2
      have RR := Lib.hid R0
      clear R0 e1 e2 HE HB ht hu h1 h2
      go_enter Tryz.func19, Tryz.ntmps19
      go_upto_region 4 with (go_at_call 47; (with_reducible refine (V1.out _ RR.out).mono ?_); rintro e w1 ⟨rfl, hb⟩; have B1 := Lib.hid hb; clear hb)
      go_wp2_with (go_at_call 47; (with_reducible refine (V2.out _ B1.out).mono ?_); rintro e w2 ⟨rfl, hb⟩; have B2 := Lib.hid (below_hop B1.out hb); clear hb)
      go_ret2
      exact ⟨rfl, B2.out⟩
  · have HE : Hid (smE ts us = valE ts) := Lib.hid (by unfold smE; rw [if_pos e1])
    have HB : Hid (smB ts us = false) := Lib.hid (sm_no HE.out e1)
    rw [HE.out, HB.out]
    generalize valE ts = n at *
    have hz : (n != 0) = true := by simpa using e1
    have RR := Lib.hid R0
    clear R0 e1 HE HB ht hu h1 h2
    go_enter Tryz.func19, Tryz.ntmps19
    go_wp2_with (go_at_call 47; (with_reducible refine (V1.out _ RR.out).mono ?_); rintro e w1 ⟨rfl, hb⟩; have B1 := Lib.hid hb; clear hb)
    go_ret2
    exact ⟨rfl, B1.out⟩
theorem txt_ok {ts : List Nd} (h : valE ts = 0) (hI : ImmOk ts) : shr ts (ts.length - 1) ≠ [] ∧ ∀ x ∈ shr ts (ts.length - 1), TxN x := by
  obtain ⟨t1, t2, _⟩ := valid_facts h
  have h1 := shr_valid h hI (k := ts.length - 1) (by omega)
  have h2 := shr_imm (valid_down h) hI (k := ts.length - 1) (by omega)
  obtain ⟨l1, _, _⟩ := valid_facts h1
  refine ⟨fun e => by rw [e] at l1; simp at l1, fun x hx => ?_⟩
  obtain ⟨i, hi, rfl⟩ := List.getElem_of_mem hx
  have := (txb_of h1 h2 hi).2
  unfold nd at this
  rwa [List.getD_eq_getElem?_getD, List.getElem?_eq_getElem hi] at this
theorem txt_eq {ts us : List Nd} (h1 : valE ts = 0) (i1 : ImmOk ts) (h2 : valE us = 0) (i2 : ImmOk us) : ((⟨(txtL (shr ts (ts.length - 1))).toArray⟩ : ByteArray).toList == (⟨(txtL (shr us (us.length - 1))).toArray⟩ : ByteArray).toList) = decide (shr ts (ts.length - 1) = shr us (us.length - 1)) := by
  obtain ⟨n1, x1⟩ := txt_ok h1 i1
  obtain ⟨n2, x2⟩ := txt_ok h2 i2
  have := txt_iff n1 n2 x1 x2
  rw [Bool.eq_iff_iff, beq_iff_eq, decide_eq_true_iff, ← this]
  constructor
  · intro h
    have e : (⟨(txtL (shr ts (ts.length - 1))).toArray⟩ : ByteArray).toList = (⟨(txtL (shr us (us.length - 1))).toArray⟩ : ByteArray).toList := h
    rw [Lib.toList_data, Lib.toList_data] at e
    simpa using e
  · intro h; rw [h]
set_option maxHeartbeats 2000000 in
theorem wTermTexts (ts us : List Nd) (tv uv : Value) (w : World) (ht : Nds w tv ts) (hu : Nds w uv us) (h1 : ImmOk ts) (h2 : ImmOk us) (hT : Tab10 w) : Calls Tryz.prog 4 #[tv, uv] w fun e w' => e = .returned (.bool true) ∧ Below w.heap.size w w' := by
  have L1 := Lib.hid (long_any ts tv w ht)
  have L2 := Lib.hid (long_any us uv w hu)
  have KN : Hid (∀ W, Below w.heap.size w W → Calls Tryz.prog 17 #[] W fun e w' => e = .returned (.bool true) ∧ Below W.heap.size W w') := Lib.hid fun W _ => known7 W
  have PS := Lib.hid (pSame ts us tv uv w h1 h2 ht hu)
  have RS : Hid (∀ W, Below w.heap.size w W → Calls Tryz.prog 19 #[tv, uv] W fun e w' => e = .returned (.tuple #[.bool (smB ts us), .int .i64 (smE ts us)]) ∧ Below W.heap.size W w') := Lib.hid fun W hb => rSame ts us tv uv W h1 h2 (ht.stays hb) (hu.stays hb)
  have R0 := Lib.hid (Below.refl w.heap.size w)
  by_cases hE : smE ts us = 0
  · have e1 : valE ts = 0 := by
      unfold smE at hE
      by_cases e : valE ts = 0
      · exact e
      · rw [if_pos e] at hE; exact hE
    have e2 : valE us = 0 := by unfold smE at hE; rw [if_neg (by simp [e1])] at hE; exact hE
    have P1 : Hid (∀ W, Below w.heap.size w W → Calls Tryz.prog 20 #[tv] W fun e w' => e = .returned (.tuple #[strV (txtL (shr ts (ts.length - 1))), .int .i64 0]) ∧ Below W.heap.size W w') := Lib.hid fun W hb => pText_ok ts tv W e1 h1 (ht.stays hb) (tab10_stays hT hb)
    have P2 : Hid (∀ W, Below w.heap.size w W → Calls Tryz.prog 20 #[uv] W fun e w' => e = .returned (.tuple #[strV (txtL (shr us (us.length - 1))), .int .i64 0]) ∧ Below W.heap.size W w') := Lib.hid fun W hb => pText_ok us uv W e2 h2 (hu.stays hb) (tab10_stays hT hb)
    have hq := txt_eq e1 h1 e2 h2
    rw [hE, smB_ok e1 e2] at PS RS
    unfold strV at P1 P2
    generalize txtL (shr ts (ts.length - 1)) = a at *
    generalize txtL (shr us (us.length - 1)) = b at *
    generalize decide (shr ts (ts.length - 1) = shr us (us.length - 1)) = z at *
    have HQ := Lib.hid hq
    clear hq hE e1 e2 ht hu h1 h2 hT
    cases hl1 : longB ts
    · rw [hl1] at L1
      cases hl2 : longB us
      · rw [hl2] at L2
        have hq := HQ.out
        have hq2 : (a == b) = z := by rw [← hq]; simp only [Lib.toList_data]
        clear hl1 hl2
        go_enter Tryz.func4, Tryz.ntmps4
        go_upto_region 3 with (first | (go_at_call 6; (with_reducible refine L1.out.mono ?_); rintro e w1 ⟨rfl, rfl⟩) | (go_at_call 6; (with_reducible refine L2.out.mono ?_); rintro e w1 ⟨rfl, rfl⟩))
        go_upto_region 4 with (go_at_call 18; (with_reducible refine PS.out.mono ?_); rintro e w1 ⟨rfl, hb⟩; have B1 := Lib.hid hb; clear hb)
        go_upto_region 5 with (go_at_call 19; (with_reducible refine (RS.out _ B1.out).mono ?_); rintro e w2 ⟨rfl, hb⟩; have B2 := Lib.hid (below_hop B1.out hb); clear hb)
        cases z
        all_goals
          go_upto_region 10 with (go_at_call 20; (with_reducible refine (P1.out _ B2.out).mono ?_); rintro e w3 ⟨rfl, hb⟩; have B3 := Lib.hid (below_hop B2.out hb); clear hb)
          go_upto_region 11 with (go_at_call 20; (with_reducible refine (P2.out _ B3.out).mono ?_); rintro e w4 ⟨rfl, hb⟩; have B4 := Lib.hid (below_hop B3.out hb); clear hb)
          go_wp2_with (go_at_call 17; (with_reducible refine (KN.out _ B4.out).mono ?_); rintro e w5 ⟨rfl, hb⟩; have B5 := Lib.hid (below_hop B4.out hb); clear hb)
          go_ret
          exact ⟨rfl, B5.out⟩
      · rw [hl2] at L2
        clear hl1 hl2 HQ
        go_enter Tryz.func4, Tryz.ntmps4
        go_wp2_with (first | (go_at_call 6; (with_reducible refine L1.out.mono ?_); rintro e w1 ⟨rfl, rfl⟩) | (go_at_call 6; (with_reducible refine L2.out.mono ?_); rintro e w1 ⟨rfl, rfl⟩) | (go_at_call 17; (with_reducible refine (KN.out _ R0.out).mono ?_); rintro e w5 ⟨rfl, hb⟩; have B5 := Lib.hid hb; clear hb))
        go_ret
        exact ⟨rfl, B5.out⟩
    · rw [hl1] at L1
      clear hl1 HQ
      go_enter Tryz.func4, Tryz.ntmps4
      go_wp2_with (first | (go_at_call 6; (with_reducible refine L1.out.mono ?_); rintro e w1 ⟨rfl, rfl⟩) | (go_at_call 6; (with_reducible refine L2.out.mono ?_); rintro e w1 ⟨rfl, rfl⟩) | (go_at_call 17; (with_reducible refine (KN.out _ R0.out).mono ?_); rintro e w5 ⟨rfl, hb⟩; have B5 := Lib.hid hb; clear hb))
      go_ret
      exact ⟨rfl, B5.out⟩
  · generalize smE ts us = n at *
    generalize smB ts us = z at *
    have hz : (n != 0) = true := by simpa using hE
    clear hE ht hu h1 h2 hT
    cases hl1 : longB ts
    · rw [hl1] at L1
      cases hl2 : longB us
      · rw [hl2] at L2
        clear hl1 hl2
        go_enter Tryz.func4, Tryz.ntmps4
        go_upto_region 3 with (first | (go_at_call 6; (with_reducible refine L1.out.mono ?_); rintro e w1 ⟨rfl, rfl⟩) | (go_at_call 6; (with_reducible refine L2.out.mono ?_); rintro e w1 ⟨rfl, rfl⟩))
        go_upto_region 4 with (go_at_call 18; (with_reducible refine PS.out.mono ?_); rintro e w1 ⟨rfl, hb⟩; have B1 := Lib.hid hb; clear hb)
        go_upto_region 5 with (go_at_call 19; (with_reducible refine (RS.out _ B1.out).mono ?_); rintro e w2 ⟨rfl, hb⟩; have B2 := Lib.hid (below_hop B1.out hb); clear hb)
        cases z
        all_goals
          go_wp2_with (go_at_call 17; (with_reducible refine (KN.out _ B2.out).mono ?_); rintro e w5 ⟨rfl, hb⟩; have B5 := Lib.hid (below_hop B2.out hb); clear hb)
          go_ret
          exact ⟨rfl, B5.out⟩
      · rw [hl2] at L2
        clear hl1 hl2
        go_enter Tryz.func4, Tryz.ntmps4
        go_wp2_with (first | (go_at_call 6; (with_reducible refine L1.out.mono ?_); rintro e w1 ⟨rfl, rfl⟩) | (go_at_call 6; (with_reducible refine L2.out.mono ?_); rintro e w1 ⟨rfl, rfl⟩) | (go_at_call 17; (with_reducible refine (KN.out _ R0.out).mono ?_); rintro e w5 ⟨rfl, hb⟩; have B5 := Lib.hid hb; clear hb))
        go_ret
        exact ⟨rfl, B5.out⟩
    · rw [hl1] at L1
      clear hl1
      go_enter Tryz.func4, Tryz.ntmps4
      go_wp2_with (first | (go_at_call 6; (with_reducible refine L1.out.mono ?_); rintro e w1 ⟨rfl, rfl⟩) | (go_at_call 6; (with_reducible refine L2.out.mono ?_); rintro e w1 ⟨rfl, rfl⟩) | (go_at_call 17; (with_reducible refine (KN.out _ R0.out).mono ?_); rintro e w5 ⟨rfl, hb⟩; have B5 := Lib.hid hb; clear hb))
      go_ret
      exact ⟨rfl, B5.out⟩
end Go.Proofs.YtgcfadnnajahhaaGreatDoor
namespace Go.Proofs.YtgcfadnnajahhaaGreatDoor
open Go.RowKit Go.WideShapes Go.ChangeShapes
section
variable {H : Type} {enc : TypeId × Value → H} {P : Program}
theorem trodAll_stays (hl : laidOutB P = true) {W W' : World} (hb : Below W.heap.size W W') (sp : Nat → Bool) : ∀ (ts : List TypeId) (vs : List Value) (ds : List (DataW H)) (ps : List MemPlace),
    (∀ t ∈ ts, P.readableRec t = true ∧ t < P.types.size) → DataW.TrodAll enc P W 0 (fun _ => true) true ts vs ds ps → (∀ x ∈ ps, x.block < W.heap.size) → (∀ p ∈ ps, sp p.block = true) → DataW.TrodAll enc P W' 0 sp true ts vs ds ps
  | [], vs, ds, ps, _, h, _, _ => by
    obtain ⟨rfl, rfl, rfl⟩ := trodAll_nil h
    exact trodAll_mk0
  | t :: ts, vs, ds, ps, ht, h, hlt, hsp => by
    obtain ⟨v, vs', d, ds', p, q, rfl, rfl, rfl, h1, h2⟩ := trodAll_cons h
    have h3 := ht t (List.mem_cons_self ..)
    exact trodAll_cons_mk (WideElems.Trod_stays hl h3.1 h3.2 h1 (fun x hx => hb.same (hlt x (List.mem_append.2 (.inl hx)))) (fun x hx => hsp x (List.mem_append.2 (.inl hx))))
      (trodAll_stays hl hb sp ts vs' ds' q (fun t' h' => ht t' (List.mem_cons_of_mem _ h')) h2 (fun x hx => hlt x (List.mem_append.2 (.inr hx))) (fun x hx => hsp x (List.mem_append.2 (.inr hx))))
theorem post_below {f : Func} {s : ChangeSpec} {apart fresh handsOn again : Bool} {W W' : World} {args : Array Value} {v : Value} {ds gs : List (DataW H)} {before pa pv : List MemPlace}
    (hW : DataW.Whole enc P f.params.toList s.vars apart W args.toList ds gs before)
    (hres : ∀ (b : Nat) (sp : Nat → Bool) (hd : Bool), DataW.TrodAll enc P W' b sp hd f.resultTypes.toList (v.resultList f.resultTypes.size) (s.fn H (ds ++ gs)).results [])
    (hargs : ∀ sp : Nat → Bool, (∀ p ∈ before, sp p.block = true) → DataW.TrodAll enc P W' 0 sp true f.params.toList args.toList (s.fn H (ds ++ gs)).args pa)
    (hvars : ∀ sp : Nat → Bool, (∀ p ∈ before, sp p.block = true) → DataW.TrodVars enc P W' sp s.vars (s.fn H (ds ++ gs)).vars pv)
    (hps : before = pa ++ pv) (hb : Below W.heap.size W W')
    (hok : ∀ (j : Nat) (t : TypeId) (r : Value), f.resultTypes[j]? = some t → (v.resultList f.resultTypes.size)[j]? = some r → Value.okWide P W' .any 0 t r) :
    s.post enc P f apart fresh handsOn again W args v W' := by
  have hlt : ∀ p ∈ before, p.block < W.heap.size := fun p hp => hW.lt p hp
  have hold : ∀ p ∈ before, (fun b => decide (b < W.heap.size)) p.block = true := fun p hp => by simpa using hlt p hp
  refine ⟨ds, gs, before, [], pa, pv, hW, hres _ _ _, hargs _ hold, hvars _ hold, World.keptBut_mono (fun p hp => ⟨hp, ?_⟩) (hb.frame (· ∈ before)), fun _ => ?_⟩
  · rw [hps, List.mem_append] at hp
    exact Or.inr hp
  · obtain ⟨_, _, _, _, _, hz, hn⟩ := hW
    refine ⟨hok, _, _, ([] ++ pa) ++ pv, ⟨[] ++ pa, pv, trodAll_append (hargs _ (fun _ _ => rfl)) (hres _ _ _), hvars _ (fun _ _ => rfl), rfl, ?_, ?_⟩, ?_⟩
    · intro b off hp
      have hin : MemPlace.cell b off ∈ before := by rw [hps]; simpa using hp
      rw [hb.frozen (hlt _ hin)]
      exact hz b off hin
    · intro ha
      have := hn ha
      rw [hps] at this
      simpa using this
    · intro p hp _
      rw [hps]
      simpa using hp
theorem post_law {f : Func} {s : ChangeSpec} {apart fresh handsOn again : Bool} {W W' : World} {args : Array Value} {ds gs : List (DataW H)} {before : List MemPlace} {tb : TypeId}
    (hl : laidOutB P = true) (hts : ∀ t ∈ f.params.toList, P.readableRec t = true ∧ t < P.types.size) (hres : f.resultTypes = #[tb]) (htb : P.underlying tb = some .bool) (hv : s.vars = [])
    (hW : DataW.Whole enc P f.params.toList s.vars apart W args.toList ds gs before) (hfn : s.fn H (ds ++ gs) = { results := [.lit (.bool true)], args := ds }) (hb : Below W.heap.size W W') :
    s.post enc P f apart fresh handsOn again W args (.bool true) W' := by
  have hW2 := hW
  obtain ⟨p, q, hA, hV, rfl, _, _⟩ := hW2
  rw [hv] at hV
  obtain ⟨rfl, rfl⟩ := trodVars_none hV
  refine post_below (pa := p) (pv := []) hW (fun b sp hd => ?_) (fun sp hsp => ?_) (fun sp _ => ?_) rfl hb (ok_one hres rfl (okWide_bool_mk htb _))
  · rw [hfn, hres]
    exact trodAll_mk1 (shut_bool htb _)
  · rw [hfn]
    exact trodAll_stays hl hb sp _ _ _ _ hts hA (fun x hx => hW.lt x (List.mem_append.2 (.inl hx))) (fun x hx => hsp x (List.mem_append.2 (.inl hx)))
  · rw [hfn, hv]
    trivial
end
end Go.Proofs.YtgcfadnnajahhaaGreatDoor
namespace Go.Proofs.YtgcfadnnajahhaaGreatDoor
open Go.RowKit Go.WideShapes Go.ChangeShapes Go.Deep
set_option linter.unusedVariables false
set_option linter.unusedSimpArgs false
section
variable {H : Type} {enc : TypeId × Value → H} {P : Program} {W : World} {base : Nat} {held : Bool}
def FitsK (k : IntKind) (x : Int) : Prop := (Lit.int k x).wf = true
theorem weights_len {t e : TypeId} {elems spare : List (DataW H)} (ht : P.underlying t = some (.slice e)) (hb : 1 ≤ P.bytesOf e) (hw : ∀ n ∈ (DataW.slice elems spare).weights P t, n ≤ reachBytes) : elems.length + spare.length ≤ 140737488351232 := by
  have h := hw ((elems.length + spare.length) * P.bytesOf e) (by simp [DataW.weights, ht])
  have h2 : elems.length + spare.length ≤ (elems.length + spare.length) * P.bytesOf e := Nat.le_mul_of_pos_right _ hb
  unfold reachBytes at h
  omega
theorem readI {t e : TypeId} {k : IntKind} {fuel : Nat} {cs : List Value} {d : DataW H} {ps : List MemPlace} (ht : P.underlying t = some (.slice e)) (he : P.underlying e = some (.int k)) (hc : P.cellsOf e = 1) (hby : 1 ≤ P.bytesOf e)
    (h : DataW.trod enc P W base (fun _ => true) held fuel t cs = some (d, ps)) (hw : ∀ n ∈ d.weights P t, n ≤ reachBytes) : ∃ v xs, cs = [v] ∧ Ints k W v xs ∧ ∀ x ∈ xs, FitsK k x := by
  rcases open_ints ht he hc h with ⟨rfl, hx⟩ | ⟨a, len, cap, zs, rfl, hb, hl, hm, hz, hx, hcell, hwf⟩
  · exact ⟨_, [], rfl, ⟨none, 0, rfl, Nat.le_refl _, ⟨by simp, by omega⟩, fun _ => rfl, fun i hi => absurd hi (by simp)⟩, fun x hx => by cases hx⟩
  · simp only [if_true] at hz
    simp only [Prod.mk.injEq] at hx
    have hcap : cap ≤ 140737488351232 := by
      rw [hx.1] at hw
      have := weights_len ht hby hw
      simp [lits] at this
      omega
    have hlen : (zs.take len).length = len := by rw [List.length_take]; omega
    refine ⟨_, zs.take len, rfl, ⟨some a, cap, by rw [hlen], by omega, ⟨by omega, by unfold maxLen at hm; omega⟩, (fun hh => by cases hh), fun i hi => ?_⟩, fun x hx => hwf x (List.mem_of_mem_take hx)⟩
    rw [hlen] at hi
    have hc0 := hcell i (by omega)
    have hs := World.cell?_spot hc0
    obtain ⟨b, o, s⟩ := a
    have hsp : s = none := by
      by_cases e0 : i = 0
      · subst e0; exact World.cell?_spot (hcell 0 (by omega))
      · exact World.cell?_spot (hcell 0 (by omega))
    subst hsp
    have e1 : (⟨b, o, none⟩ : Addr).add i = ⟨b, o + i, none⟩ := by
      unfold Addr.add
      by_cases e0 : i = 0
      · rw [if_pos e0, e0]; rfl
      · rw [if_neg e0]
    rw [e1] at hc0
    refine ⟨b, o, rfl, cell_lt hc0, ?_⟩
    show W.cell? ⟨b, o + i * 1, none⟩ = _
    rw [Nat.mul_one, hc0, List.getD_eq_getElem?_getD, List.getD_eq_getElem?_getD, List.getElem?_take, if_pos hi]
theorem add_add (b o i j : Nat) : ((⟨b, o, none⟩ : Addr).add i).add j = ⟨b, o + i + j, none⟩ := by
  have e : ∀ (o i : Nat), (⟨b, o, none⟩ : Addr).add i = ⟨b, o + i, none⟩ := by
    intro o i
    unfold Addr.add
    by_cases e0 : i = 0
    · rw [if_pos e0, e0]; rfl
    · rw [if_neg e0]
  rw [e, e]
theorem weights_mem {fs : Array Field} {t : TypeId} {parts : List (DataW H)} (ht : P.underlying t = some (.struct fs)) {i : Nat} {f : Field} {d : DataW H} (hf : fs[i]? = some f) (hd : parts[i]? = some d) {n : Nat} (hn : n ∈ d.weights P f.type) : n ∈ (DataW.agg parts).weights P t := by
  have h1 : (fs.toList.map (·.type))[i]? = some f.type := by rw [List.getElem?_map]; simp [hf]
  have := DataW.weights_mem_each h1 hd n hn
  simpa [DataW.weights, ht] using this
theorem weightsAll_mem {e : TypeId} : ∀ {l : List (DataW H)} {d : DataW H}, d ∈ l → ∀ n ∈ d.weights P e, n ∈ DataW.weightsAll P e l
  | x :: l, d, h, n, hn => by
    simp only [DataW.weightsAll, List.mem_append]
    rcases List.mem_cons.1 h with rfl | h
    · exact Or.inl hn
    · exact Or.inr (weightsAll_mem h n hn)
structure NodeTy (P : Program) (e ei : TypeId) (f0 f1 f2 f3 f4 : Field) : Prop where
  st : P.underlying e = some (.struct #[f0, f1, f2, f3, f4])
  o : f0.offset = 0 ∧ f1.offset = 1 ∧ f2.offset = 2 ∧ f3.offset = 3 ∧ f4.offset = 4
  u0 : P.underlying f0.type = some (.int .i64)
  u1 : P.underlying f1.type = some (.int .i64)
  u2 : P.underlying f2.type = some (.int .i64)
  u3 : P.underlying f3.type = some (.slice ei)
  u4 : P.underlying f4.type = some (.int .u32)
  ui : P.underlying ei = some (.int .i64)
  c : P.cellsOf f0.type = 1 ∧ P.cellsOf f1.type = 1 ∧ P.cellsOf f2.type = 1 ∧ P.cellsOf f3.type = 1 ∧ P.cellsOf f4.type = 1 ∧ P.cellsOf ei = 1 ∧ P.cellsOf e = 5
  b : 1 ≤ P.bytesOf ei
theorem readN1 {e ei : TypeId} {f0 f1 f2 f3 f4 : Field} (T : NodeTy P e ei f0 f1 f2 f3 f4) {fuel b o : Nat} {cs : List Value} {d : DataW H} {ps : List MemPlace}
    (hcs : ∀ i, i < 5 → W.cell? ⟨b, o + i, none⟩ = cs[i]?) (hl : cs.length = 5) (h : DataW.trod enc P W base (fun _ => true) held fuel e cs = some (d, ps)) (hw : ∀ n ∈ d.weights P e, n ≤ reachBytes) :
    ∃ x : Nd, NdAt W b o x ∧ FitsK .u32 x.imm ∧ FitsK .i64 x.op ∧ FitsK .i64 x.width ∧ FitsK .i64 x.flags ∧ ∀ a ∈ x.args, FitsK .i64 a := by
  obtain ⟨xs, n, _, hx, _, hn, hf⟩ := DataW.trod_struct T.st h
  obtain ⟨o0, o1, o2, o3, o4⟩ := T.o
  obtain ⟨k0, k1, k2, k3, k4, ki, ke⟩ := T.c
  simp only [Prod.mk.injEq] at hx
  match cs, hl with
  | [v0, v1, v2, v3, v4], _ =>
  match xs, hn with
  | [y0, y1, y2, y3, y4], _ =>
  have g0 := hf 0 f0 rfl
  have g1 := hf 1 f1 rfl
  have g2 := hf 2 f2 rfl
  have g3 := hf 3 f3 rfl
  have g4 := hf 4 f4 rfl
  rw [o0, k0] at g0
  rw [o1, k1] at g1
  rw [o2, k2] at g2
  rw [o3, k3] at g3
  rw [o4, k4] at g4
  obtain ⟨n0, a0, _, w0⟩ := DataW.trod_int T.u0 (show DataW.trod enc P W base (fun _ => true) held n f0.type [v0] = some y0 from g0)
  obtain ⟨n1, a1, _, w1⟩ := DataW.trod_int T.u1 (show DataW.trod enc P W base (fun _ => true) held n f1.type [v1] = some y1 from g1)
  obtain ⟨n2, a2, _, w2⟩ := DataW.trod_int T.u2 (show DataW.trod enc P W base (fun _ => true) held n f2.type [v2] = some y2 from g2)
  obtain ⟨n4, a4, _, w4⟩ := DataW.trod_int T.u4 (show DataW.trod enc P W base (fun _ => true) held n f4.type [v4] = some y4 from g4)
  obtain ⟨d3, p3⟩ := y3
  obtain ⟨v, zs, a3, hz, wz⟩ := readI T.u3 T.ui ki T.b (show DataW.trod enc P W base (fun _ => true) held n f3.type [v3] = some (d3, p3) from g3) (fun m hm => by
    refine hw m ?_
    rw [hx.1]
    exact weights_mem T.st (i := 3) (f := f3) rfl rfl hm)
  cases a0; cases a1; cases a2; cases a3; cases a4
  exact ⟨⟨n0, n1, n2, zs, n4⟩, ⟨hcs 0 (by omega), hcs 1 (by omega), hcs 2 (by omega), ⟨v3, hcs 3 (by omega), hz⟩, hcs 4 (by omega)⟩, w4, w0, w1, w2, wz⟩
theorem readN {t e ei : TypeId} {f0 f1 f2 f3 f4 : Field} (ht : P.underlying t = some (.slice e)) (T : NodeTy P e ei f0 f1 f2 f3 f4) (hby : 1 ≤ P.bytesOf e) {fuel : Nat} {cs : List Value} {d : DataW H} {ps : List MemPlace}
    (h : DataW.trod enc P W base (fun _ => true) held fuel t cs = some (d, ps)) (hw : ∀ n ∈ d.weights P t, n ≤ reachBytes) :
    ∃ v ts, cs = [v] ∧ Nds W v ts ∧ ∀ x ∈ ts, FitsK .u32 x.imm ∧ FitsK .i64 x.op ∧ FitsK .i64 x.width ∧ FitsK .i64 x.flags ∧ ∀ a ∈ x.args, FitsK .i64 a := by
  rcases open_slice ht h with ⟨rfl, hx⟩ | ⟨a, len, cap, m, n, D, Pl, rfl, hb, hl, hm, hmm, hx, hel⟩
  · exact ⟨_, [], rfl, ⟨none, 0, rfl, Nat.le_refl _, ⟨by simp, by omega⟩, fun _ => rfl, fun i hi => absurd hi (by simp)⟩, fun x hx => by cases hx⟩
  · simp only [if_true] at hmm
    subst hmm
    simp only [Prod.mk.injEq] at hx
    obtain ⟨hd, _⟩ := hx
    have hcap : m ≤ 140737488351232 := by
      rw [hd] at hw
      have := weights_len ht hby hw
      simp at this
      omega
    obtain ⟨_, _, _, _, _, _, ke⟩ := T.c
    by_cases hz : len = 0
    · subst hz
      exact ⟨_, [], rfl, ⟨some a, m, rfl, by omega, ⟨by simp, by omega⟩, (fun hh => by cases hh), fun i hi => absurd hi (by simp)⟩, fun x hx => by cases hx⟩
    have hsp : a.spot = none := by
      obtain ⟨cs', h1, _⟩ := hel 0 (by omega)
      rw [ke] at h1
      obtain ⟨_, hl5, hg⟩ := World.cells?_some h1
      have h0 := hg 0 (by omega)
      have e0 : (a.add (0 * 5)).add 0 = a := by simp [Addr.add]
      rw [e0, List.getElem?_eq_getElem (by omega)] at h0
      exact World.cell?_spot h0
    obtain ⟨b, o, s⟩ := a
    simp only at hsp
    subst hsp
    obtain ⟨V, hV⟩ := choose_lt (α := Nd) (n := len) (p := fun i x => NdAt W b (o + i * 5) x ∧ FitsK .u32 x.imm ∧ FitsK .i64 x.op ∧ FitsK .i64 x.width ∧ FitsK .i64 x.flags ∧ ∀ a ∈ x.args, FitsK .i64 a) (fun i hi => by
      obtain ⟨cs', h1, h2⟩ := hel i (by omega)
      rw [ke] at h1
      obtain ⟨_, hl5, hg⟩ := World.cells?_some h1
      exact readN1 T (fun j hj => by rw [← add_add b o (i * 5) j]; exact hg j hj) hl5 h2 (fun k hk => by
        refine hw k ?_
        rw [hd]
        simp only [DataW.weights, ht, List.mem_cons, List.mem_append]
        exact Or.inr (Or.inl (weightsAll_mem (List.mem_map.2 ⟨i, List.mem_range.2 hi, rfl⟩) k hk))))
    have hlen : ((List.range len).map V).length = len := by simp
    have hget : ∀ i, i < len → ((List.range len).map V).getD i default = V i := fun i hi => by
      rw [List.getD_eq_getElem?_getD, List.getElem?_map, List.getElem?_range hi]; rfl
    refine ⟨_, (List.range len).map V, rfl, ⟨some ⟨b, o, none⟩, m, by rw [hlen], by omega, ⟨by omega, by omega⟩, (fun hh => by cases hh), fun i hi => ?_⟩, fun x hx => ?_⟩
    · rw [hlen] at hi
      refine ⟨b, o, rfl, cell_lt (hV i hi).1.1, ?_⟩
      show NdAt W b (o + i * 5) _
      rw [hget i hi]
      exact (hV i hi).1
    · obtain ⟨i, hi, rfl⟩ := List.mem_map.1 hx
      exact (hV i (List.mem_range.1 hi)).2
theorem fits_u32 {x : Int} (h : FitsK .u32 x) : 0 ≤ x ∧ x ≤ 4294967295 := by simpa [FitsK, Lit.wf, IntKind.min, IntKind.max, IntKind.signed, IntKind.bits] using h
end
end Go.Proofs.YtgcfadnnajahhaaGreatDoor
