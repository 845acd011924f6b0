/- Walks of Depth of both sides. -/
import Derived.Test.YthopdfikikdcbaaTi
namespace Go.Proofs.Ythopdfikikdcbaa
open Go.RowKit Wd
set_option linter.unusedVariables false
set_option linter.unusedSimpArgs false
/-- The greatest depth among some Args. -/
def dmax (acc : List Int) (args : List Int) : Int := args.foldl (fun m a => max m (acc.getD a.toNat 0)) 0
def deep (ts : List Nd) : List Int := ts.foldl (fun acc x => acc ++ [dmax acc x.args + 1]) []
def depV (ts : List Nd) : Int := if valE ts = 0 then (deep ts).getD (ts.length - 1) 0 else 0
theorem deep_snoc (ts : List Nd) (j : Nat) (h : j < ts.length) : deep (ts.take (j + 1)) = deep (ts.take j) ++ [dmax (deep (ts.take j)) (ts.getD j default).args + 1] := by
  unfold deep; rw [take_snoc ts j h, List.foldl_append]; rfl
theorem deep_len (ts : List Nd) : (deep ts).length = ts.length := by
  have : ∀ (ts : List Nd) (acc : List Int), (ts.foldl (fun acc x => acc ++ [dmax acc x.args + 1]) acc).length = acc.length + ts.length := by
    intro ts
    induction ts with
    | nil => intro acc; rfl
    | cons x ts ih => intro acc; rw [List.foldl_cons, ih]; simp; omega
  have := this ts []
  rw [List.length_nil, Nat.zero_add] at this
  exact this
theorem dmax_snoc (acc args : List Int) (i : Nat) (h : i < args.length) : dmax acc (args.take (i + 1)) = max (dmax acc (args.take i)) (acc.getD (args.getD i 0).toNat 0) := by
  unfold dmax; rw [take_snoc0 args i h, List.foldl_append]; rfl
theorem dmax_bd {acc : List Int} {b : Int} (h : ∀ a, 0 ≤ acc.getD a 0 ∧ acc.getD a 0 ≤ b) (hb : 0 ≤ b) (args : List Int) : 0 ≤ dmax acc args ∧ dmax acc args ≤ b := by
  have : ∀ (args : List Int) (m : Int), 0 ≤ m → m ≤ b → 0 ≤ args.foldl (fun m a => max m (acc.getD a.toNat 0)) m ∧ args.foldl (fun m a => max m (acc.getD a.toNat 0)) m ≤ b := by
    intro args
    induction args with
    | nil => intro m h1 h2; exact ⟨h1, h2⟩
    | cons a args ih => intro m h1 h2; rw [List.foldl_cons]; have := h a.toNat; exact ih _ (by omega) (by omega)
  exact this args 0 (Int.le_refl _) hb
theorem getD_append_lt {xs ys : List Int} {i : Nat} (h : i < xs.length) : (xs ++ ys).getD i 0 = xs.getD i 0 := by
  rw [List.getD_eq_getElem?_getD, List.getD_eq_getElem?_getD, List.getElem?_append_left h]
theorem getD_none {xs : List Int} {i : Nat} (h : xs.length ≤ i) : xs.getD i 0 = 0 := by
  rw [List.getD_eq_getElem?_getD, List.getElem?_eq_none h]; rfl
theorem deep_bd (ts : List Nd) : ∀ j, j ≤ ts.length → ∀ a, 0 ≤ (deep (ts.take j)).getD a 0 ∧ (deep (ts.take j)).getD a 0 ≤ j
  | 0, _, a => by
    have e : (deep (ts.take 0)).getD a 0 = 0 := by rw [List.take_zero]; exact getD_none (by simp [deep])
    rw [e]; omega
  | j + 1, h, a => by
    have ih := deep_bd ts j (by omega)
    have hl : (deep (ts.take j)).length = j := by rw [deep_len, List.length_take]; omega
    rw [deep_snoc ts j (by omega)]
    have hm := dmax_bd ih (by omega) (ts.getD j default).args
    rcases Nat.lt_trichotomy a j with h1 | h1 | h1
    · rw [getD_append_lt (by omega)]; have := ih a; omega
    · subst h1
      rw [List.getD_eq_getElem?_getD, List.getElem?_append_right (by omega), hl, Nat.sub_self]
      show 0 ≤ dmax _ _ + 1 ∧ dmax _ _ + 1 ≤ _
      omega
    · rw [getD_none (by simp; omega)]; omega
/-- The depths of the first nodes, and zeros. -/
def dL (ts : List Nd) (j : Nat) : List Int := deep (ts.take j) ++ List.replicate (ts.length - j) 0
theorem deep_take_len {ts : List Nd} {j : Nat} (h : j ≤ ts.length) : (deep (ts.take j)).length = j := by rw [deep_len, List.length_take]; omega
theorem dL_len {ts : List Nd} {j : Nat} (h : j ≤ ts.length) : (dL ts j).length = ts.length := by
  unfold dL; rw [List.length_append, deep_take_len h, List.length_replicate]; omega
theorem dL_get {ts : List Nd} {j a : Nat} (h : j ≤ ts.length) (ha : a < j) : (dL ts j).getD a 0 = (deep (ts.take j)).getD a 0 := by
  unfold dL; rw [getD_append_lt (by rw [deep_take_len h]; exact ha)]
theorem dL_at {ts : List Nd} {j : Nat} (h : j < ts.length) : (dL ts j).getD j 0 = 0 := by
  unfold dL
  rw [List.getD_eq_getElem?_getD, List.getElem?_append_right (by rw [deep_take_len (by omega)]; omega), deep_take_len (by omega), Nat.sub_self, List.getElem?_replicate]
  split <;> rfl
theorem dL_set {ts : List Nd} {j : Nat} (h : j < ts.length) : (dL ts j).set j (dmax (deep (ts.take j)) (ts.getD j default).args + 1) = dL ts (j + 1) := by
  unfold dL
  rw [deep_snoc ts j h, List.set_append_right _ _ (by rw [deep_take_len (by omega)]; omega), deep_take_len (by omega), Nat.sub_self]
  have e : ts.length - j = (ts.length - (j + 1)) + 1 := by omega
  rw [e, List.replicate_succ, List.set_cons_zero, List.append_assoc]
  rfl
theorem set_at {l : List Int} {k : Nat} {x : Int} (h : l.getD k 0 = x) (hk : k < l.length) : l.set k x = l := by
  apply List.ext_getElem (by simp)
  intro i h1 h2
  rw [List.getElem_set]
  split
  · rename_i e
    subst e
    rw [← h, List.getD_eq_getElem?_getD, List.getElem?_eq_getElem hk]; rfl
  · rfl
theorem OInts.made {w : World} {base g n : Nat} {e : TypeId} {k : IntKind} (h : w.ownsRow base e 1 (.slice (some ⟨g, 0, none⟩) n n) n (madeCells #[Value.int k 0] n).toList) : OInts k w g (List.replicate n 0) := by
  refine ⟨(h.lt g rfl).2, fun i hi => ?_⟩
  rw [List.length_replicate] at hi
  refine ⟨?_, h.frozenAt i⟩
  rw [h.cellAt i (by omega)]
  rw [toList_madeCells_one, List.getElem?_replicate, if_pos hi, List.getD_eq_getElem?_getD, List.getElem?_replicate, if_pos hi]; rfl
/-- A node, read at a later world; its Args are told of the first one. -/
theorem Nds.at2 {w wr : World} {v : Value} {ts : List Nd} (h : Nds w v ts) (hb : Below w.heap.size w wr) {k : Nat} (hk : k < ts.length) : ∃ b q c av, v = .slice (some ⟨b, q, none⟩) ts.length c ∧ ts.length ≤ c ∧ b < w.heap.size ∧ Ints .i64 w av (ts.getD k default).args ∧
    wr.cell? ⟨b, q + k * 5, none⟩ = some (.int .i64 (ts.getD k default).op) ∧ wr.cell? ⟨b, q + k * 5 + 1, none⟩ = some (.int .i64 (ts.getD k default).width) ∧ wr.cell? ⟨b, q + k * 5 + 2, none⟩ = some (.int .i64 (ts.getD k default).flags) ∧
    wr.cell? ⟨b, q + k * 5 + 3, none⟩ = some av ∧ wr.cell? ⟨b, q + k * 5 + 4, none⟩ = some (.int .u32 (ts.getD k default).imm) := by
  obtain ⟨b, q, c, e, l1, l2, hbw, x0, x1, x2, ⟨av, x3, hV⟩, x4⟩ := h.at hk
  exact ⟨b, q, c, av, e, l1, hbw, hV, below_cell hb hbw x0, below_cell hb hbw x1, below_cell hb hbw x2, below_cell hb hbw x3, below_cell hb hbw x4⟩
theorem max_if (p z : Int) : (if p < z then z else p) = max p z := by rw [Int.max_def]; split <;> split <;> omega
theorem below_made {w w' : World} (h : w.grownBy w' none) : Below w.heap.size w w' := (Below.refl _ _).grown h (Nat.le_refl _) (fun k hk => by cases hk)

set_option maxRecDepth 100000 in
set_option maxHeartbeats 8000000 in
theorem pDepth (ts : List Nd) (tv : Value) (w : World) (hts : Nds w tv ts) (hi : ∀ x ∈ ts, 0 ≤ x.imm ∧ x.imm ≤ 4294967295) : Calls Try.prog 15 #[tv] w fun e w' => e = .returned (.tuple #[.int .i64 (depV ts), .int .i64 (valE ts)]) ∧ Below w.heap.size w w' := by
  have HT := Lib.hid hts
  have HI := Lib.hid hi
  obtain ⟨ta, tc, rfl, ht1, ht2⟩ := hts.shape
  clear hi hts
  obtain ⟨i0, hi0, hz0, hz1, hz2⟩ := info_parts info_int
  cases hz : (valE ts != 0)
  rotate_left
  · have HZ : Hid (valE ts ≠ 0) := by
      have h : ¬ valE ts = 0 := by simpa using hz
      exact h
    have HV : Hid (depV ts = 0) := if_neg HZ.out
    go_enter Try.func15, Try.ntmps15
    go_wp2_with fail
    refine (pValidate ts _ _ HT.out HI.out).mono ?_
    rintro e w' ⟨rfl, hb1⟩
    go_wp2_with fail
    go_ret2
    exact ⟨by rw [HV.out]; rfl, hb1⟩
  have hz' : valE ts = 0 := by simpa using hz
  have HZ := Lib.hid hz'
  clear hz hz'
  have HF := Lib.hid (valid_facts HZ.out)
  have hlen : 1 ≤ ts.length ∧ ts.length ≤ 300 := ⟨HF.out.1, HF.out.2.1⟩
  obtain ⟨hl1, hl2⟩ := hlen
  have HV : Hid (depV ts = (deep ts).getD (ts.length - 1) 0) := if_pos HZ.out
  go_enter Try.func15, Try.ntmps15
  go_wp2_with fail
  refine (pValidate ts _ _ HT.out HI.out).mono ?_
  rintro e w1 ⟨rfl, hb1⟩
  rw [HZ.out]
  have hb1s := hb1.size
  have HB1 := Lib.hid hb1
  clear hb1
  go_wp2_with (at_make; refine wpList_make_full _ rfl _ _ 25 rfl (w1.heap.size) 3 i0 (.int .i64 0) 1 Try.underlying25 hi0 hz0 hz1 .i64 .i64 _ _ ts.length rfl rfl rfl rfl ?d1 ?d2 ?d3 ?_)
  case d1 => rw [hz2]; omega
  case d2 => unfold maxLen; omega
  case d3 => exact Nat.le_refl _
  intro w2 hown hgr
  have hO : OInts .i64 w2 w1.heap.size (dL ts 0) := (OInts.made hown : OInts .i64 w2 w1.heap.size (List.replicate ts.length 0))
  have hb2 := below_next HB1.out HB1.out.size (below_made hgr)
  have hbn : w.heap.size ≤ w1.heap.size := hb1s
  have HB2 := Lib.hid (And.intro hO hb2)
  clear hown hgr hO hb2
  go_wp2_with fail
  go_loopw [20] (fun i wr => ∃ j : Nat, j ≤ ts.length ∧ i = .int .i64 j ∧ OInts .i64 wr w1.heap.size (dL ts j) ∧ Below w.heap.size w wr) (fun i _ => ts.length - (intOf i).toNat)
  case atStart => exact ⟨0, Nat.zero_le _, rfl, HB2.out.1, HB2.out.2⟩
  case round =>
    obtain ⟨j, hj, rfl, ho, hb⟩ := hrel
    have hBs := ho.1
    have HO := Lib.hid ho
    have HB := Lib.hid hb
    have hbs := hb.size
    by_cases hlt : j < ts.length
    · obtain ⟨b, q, c', av, e', _, hbq, hav, c0, c1, c2, c3, c4⟩ := HT.out.at2 hb hlt
      cases e'
      have HSF := Lib.hid (shaped_facts (okS_at HF.out.2.2.1 hlt))
      have HDS := Lib.hid (@dL_set ts j hlt)
      have HDB := Lib.hid (deep_bd ts j hj)
      have HDG := Lib.hid (fun a => @dL_get ts j a hj)
      have h0 := dL_at hlt
      have HDL := Lib.hid (@dL_len ts j hj)
      have HD0 := Lib.hid (set_at h0 (by rw [HDL.out]; exact hlt))
      clear hb ho h0
      have HDM := Lib.hid (dmax_snoc (deep (ts.take j)))
      generalize dL ts j = L at *
      generalize deep (ts.take j) = acc at *
      generalize ts.getD j default = x at *
      obtain ⟨op, width, flags, args, imm⟩ := x
      simp only at c0 c1 c2 c3 c4 hav HSF HDS
      have HAV := Lib.hid hav
      have hal : args.length ≤ 3 := by have := HSF.out.1; rcases arV_cases op with h | h | h | h | h <;> omega
      obtain ⟨aa, ac, rfl, _⟩ := hav.shape
      clear hav
      obtain ⟨wo, rfl⟩ : ∃ wo : World, wo = wr := ⟨_, rfl⟩
      go_wp2_with fail
      go_loopw [28] (fun i wr => ∃ k : Nat, k ≤ args.length ∧ i = .int .i64 k ∧ OInts .i64 wr w1.heap.size (L.set j (dmax acc (args.take k))) ∧ Below w.heap.size w wr) (fun i _ => args.length - (intOf i).toNat)
      case atStart => exact ⟨0, Nat.zero_le _, rfl, by rw [show dmax acc (args.take 0) = 0 from rfl, HD0.out]; exact HO.out.alloc _, HB.out.alloc (by omega) _⟩
      case round =>
        obtain ⟨k, hk, rfl, ho, hb⟩ := hrel
        have hbs2 := ho.1
        by_cases hlk : k < args.length
        · obtain ⟨b2, q2, c2', e', _, hb2, d0⟩ := (HAV.out.stays hb).at hlk
          cases e'
          have hr := HSF.out.2.1 (args.getD k 0) (by rw [List.getD_eq_getElem?_getD, List.getElem?_eq_getElem hlk]; exact List.getElem_mem hlk)
          have HM := Lib.hid (HDM.out args k hlk)
          generalize args.getD k 0 = y at *
          obtain ⟨m, rfl⟩ := Int.eq_ofNat_of_zero_le hr.1
          have hmj : m < j := by omega
          have hll : (L.set j (dmax acc (args.take k))).length = ts.length := by rw [List.length_set, HDL.out]
          have e1 := ho.cell (i := j) (by rw [hll]; exact hlt)
          have e2 := ho.cell (i := m) (by rw [hll]; omega)
          have f1 := ho.free (i := j) (by rw [hll]; exact hlt)
          rw [getD_set_self (by rw [HDL.out]; exact hlt)] at e1
          rw [getD_set_ne (by omega), HDG.out m hmj] at e2
          have bd := HDB.out m
          have bm := dmax_bd HDB.out (by omega) (args.take k)
          rw [Int.toNat_natCast] at HM
          have HO1 := Lib.hid ho
          have HLL := Lib.hid hll
          have HBB := Lib.hid hb
          clear ho hb hr hll
          generalize dmax acc (args.take k) = p at *
          generalize acc.getD m 0 = z at *
          have hmj2 : m < ts.length := by omega
          go_wp2_with fail
          go_region
          all_goals go_wp2_with fail
          all_goals go_roundw
          case rel => exact ⟨k + 1, by omega, by go_num, by
            rw [HM.out, ← max_if]
            have h := HO1.out.set (i := j) (by rw [HLL.out]; exact hlt) (if p < z then z else p)
            rw [List.set_set] at h
            exact h, (below_at HBB.out hbn _ _).drew⟩
          case measure => simp [intOf]; omega
        · obtain rfl : k = args.length := by omega
          have hll : (L.set j (dmax acc (args.take args.length))).length = ts.length := by rw [List.length_set, HDL.out]
          rw [List.take_length] at ho hll
          have e1 := ho.cell (i := j) (by rw [hll]; exact hlt)
          have f1 := ho.free (i := j) (by rw [hll]; exact hlt)
          rw [getD_set_self (by rw [HDL.out]; exact hlt)] at e1
          have bm := dmax_bd HDB.out (by omega) args
          have HO1 := Lib.hid ho
          have HLL := Lib.hid hll
          have HBB := Lib.hid hb
          clear ho hll hb
          generalize dmax acc args = p at *
          go_wp2_with fail
          go_roundw
          case rel => exact ⟨j + 1, by omega, by go_num, by
            rw [← HDS.out]
            have h := HO1.out.set (i := j) (by rw [HLL.out]; exact hlt) (p + 1)
            rw [List.set_set] at h
            exact h, below_at HBB.out hbn _ _⟩
          case measure => simp [intOf]; omega
    · obtain rfl : j = ts.length := by omega
      have hll := dL_len (Nat.le_refl ts.length)
      have hlast : ts.length - 1 < ts.length := by omega
      have e1 := ho.cell (i := ts.length - 1) (by rw [hll]; exact hlast)
      have hdl : dL ts ts.length = deep ts := by unfold dL; rw [List.take_length, Nat.sub_self]; simp
      rw [hdl, ← HV.out] at e1
      have hix : ((ts.length : Int) - 1).toNat = ts.length - 1 := by omega
      obtain ⟨n, hn⟩ : ∃ n, ts.length = n + 1 := ⟨ts.length - 1, by omega⟩
      have HN := Lib.hid hn
      clear hll hdl ho hb hn hix
      go_wp2_with fail
      go_ret2
      exact ⟨by rw [HZ.out]; rfl, HB.out⟩

end Go.Proofs.Ythopdfikikdcbaa
