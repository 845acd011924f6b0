/- Walk of List of the program. -/
import Derived.Maps.AppendAt
import Derived.Deep.CutRange
import Derived.Test.YtdojafpjipcbjaaJ29
import Derived.Test.YtdojafpjipcbjaaJ30
namespace Go.Proofs.Ytdojafpjipcbjaa
open Go.RowKit Go.Maps
set_option linter.unusedVariables false
set_option linter.unusedSimpArgs false
theorem info_ia : (Try.prog.info? 25).map (fun i => (i.zero, i.size, i.bytes)) = some (some (.agg #[.int .i64 0, .int .i64 0, .int .i64 0, .int .i64 0, .int .i64 0]), 5, 40) := by kernel_rfl
theorem Ints.drop {k : IntKind} {w : World} {a : Option Addr} {c m : Nat} {xs : List Int} (h : Ints k w (.slice a xs.length c) xs) (hm : m ≤ xs.length) : Ints k w (.slice (if c = m then a else a.map (fun x => x.add m)) (xs.length - m) (c - m)) (xs.drop m) := by
  obtain ⟨a', c', e, h1, h2, h3, h4⟩ := h
  cases e
  have hl : (xs.drop m).length = xs.length - m := List.length_drop
  refine ⟨_, c - m, by rw [hl], by omega, by omega, fun e => ?_, fun i hi => ?_⟩
  · by_cases hc : c = m
    · omega
    · rw [if_neg hc] at e
      rcases a with _ | a
      · have := h3 rfl; omega
      · cases e
  · rw [hl] at hi
    obtain ⟨b, o, e', h5, h6⟩ := h4 (m + i) (by omega)
    subst e'
    have hc : c ≠ m := by omega
    refine ⟨b, o + m, by rw [if_neg hc]; simp [Addr.add], h5, ?_⟩
    show w.cell? _ = _
    have h6' : w.cell? ⟨b, o + (m + i) * 1, none⟩ = some (.int k (xs.getD (m + i) 0)) := h6
    rw [show o + m + i * 1 = o + (m + i) * 1 by omega, h6']
    simp [List.getD_eq_getElem?_getD, List.getElem?_drop]
theorem RowA.app {w' : World} {base : Nat} {v' : Value} {xs : List Ins} {x : Ins} (h : w'.ownsRow base 25 5 v' (xs.length + 1) (iasC xs ++ iaC x)) : RowA w' base v' (xs ++ [x]) := by
  unfold RowA
  rw [iasC_snoc, List.length_append]
  exact h
theorem ret_un {u : Value} {a b : Int} (h : a = b) : Ending.returned (.tuple #[u, .int .i64 a]) = .returned (.tuple #[u, .int .i64 b]) := by rw [h]
set_option maxRecDepth 100000 in
set_option maxHeartbeats 1000000 in
theorem list_any (l : List Int) (v : Value) (w : World) (hv : Ints .u8 w v l) (hby : Byt l) (hlen : l.length ≤ 50000) : Calls Try.prog 17 #[v] w fun e w' => ∃ u, e = .returned (.tuple #[u, .int .i64 (lstI (l.length + 1) l).2]) ∧ RowA w' w.heap.size u (lstI (l.length + 1) l).1 ∧ Below w.heap.size w w' := by
  obtain ⟨n0, hn0, hy0, hy1, hy2⟩ := info_parts info_ia
  have HV := Lib.hid hv
  have HBY := Lib.hid hby
  obtain ⟨va, vc, rfl, hl1, hl2⟩ := hv.shape
  obtain ⟨K, hK⟩ : ∃ K, l.length + 1 = K := ⟨_, rfl⟩
  rw [hK]
  have HK := Lib.hid hK
  clear hv hby hK
  go_enter Try.func17, Try.ntmps17
  go_wp2_with fail
  go_loopw [4, 5] (fun u i wr => ∃ (at' : Nat) (done : List Ins), at' ≤ l.length ∧ i = .int .i64 at' ∧ RowA wr w.heap.size u done ∧ Hid (lstI K l = (done ++ (lstI K (l.drop at')).1, at' + (lstI K (l.drop at')).2)) ∧ done.length ≤ at' ∧ Since w wr) (fun _ i _ => l.length + 1 - (intOf i).toNat)
  case atStart => exact ⟨0, [], Nat.zero_le _, rfl, RowA.nil _ _, Lib.hid (by simp), Nat.le_refl _, Since.refl _⟩
  case round =>
    obtain ⟨at', done, hat, rfl, hrow, hlst, hdl, hs⟩ := hrel
    obtain ⟨ua, uc, rfl⟩ := hrow.shape
    have hI := (HV.out.stays hs).drop hat
    have hB : Byt (l.drop at') := fun k => by rw [getD_dr]; exact HBY.out _
    have CD := Lib.hid (decode_any (l.drop at') _ wr hI hB)
    have HROW := Lib.hid hrow
    have HS := Lib.hid hs
    have hac : at' ≤ vc := by omega
    clear hrow hs hB hI
    rcases hd : decI (l.drop at') with _ | ⟨x, n⟩
    · rw [(dec_none hd).1, (dec_none hd).2.1, (dec_none hd).2.2] at CD
      have HE : Hid (lstI K l = (done, at')) := Lib.hid (by rw [hlst.out, lstI_none hd, List.append_nil, Nat.add_zero])
      clear hd
      by_cases hva : vc = at'
      · rw [if_pos hva, show vc - at' = 0 by omega] at CD
        have CD0 : Hid (Calls Try.prog 9 #[.slice va (l.length - at') 0] wr fun e w' => e = .returned (.tuple #[.agg #[.int .i64 0, .int .i64 0, .int .i64 0, .int .i64 0, .int .i64 0], .int .i64 0, .bool false]) ∧ Below wr.heap.size wr w') := CD
        clear CD
        go_wp2_with ((go_at_call 9; with_reducible refine (CD0.out).mono ?_); rintro e w1 ⟨rfl, hb1⟩)
        go_ret2
        have hbx := below_hop hb1 ((Below.refl w1.heap.size w1).alloc (Nat.le_refl _) (.cells #[.int .i64 0, .int .i64 0, .int .i64 0, .int .i64 0, .int .i64 0] 25))
        exact ⟨_, ret_un (by rw [HE.out]), by rw [HE.out]; exact HROW.out.below hbx, below_hop HS.out hbx⟩
      · rw [if_neg hva] at CD
        have CD0 : Hid (Calls Try.prog 9 #[.slice (va.map (fun x => x.add at')) (l.length - at') (vc - at')] wr fun e w' => e = .returned (.tuple #[.agg #[.int .i64 0, .int .i64 0, .int .i64 0, .int .i64 0, .int .i64 0], .int .i64 0, .bool false]) ∧ Below wr.heap.size wr w') := CD
        clear CD
        go_wp2_with ((go_at_call 9; with_reducible refine (CD0.out).mono ?_); rintro e w1 ⟨rfl, hb1⟩)
        go_ret2
        have hbx := below_hop hb1 ((Below.refl w1.heap.size w1).alloc (Nat.le_refl _) (.cells #[.int .i64 0, .int .i64 0, .int .i64 0, .int .i64 0, .int .i64 0] 25))
        exact ⟨_, ret_un (by rw [HE.out]), by rw [HE.out]; exact HROW.out.below hbx, below_hop HS.out hbx⟩
    · have hp := dec_pos hd
      rw [(dec_some hd).1, (dec_some hd).2.1, (dec_some hd).2.2] at CD
      rw [List.length_drop] at hp
      obtain ⟨hok, hn1, hn2, hn3, _⟩ := hp
      have HE : Hid (lstI K l = ((done ++ [x]) ++ (lstI K (l.drop (at' + n))).1, at' + n + (lstI K (l.drop (at' + n))).2)) := by
        show _ = _
        rw [hlst.out]
        obtain ⟨K', hK'⟩ : ∃ K', K = K' + 1 := ⟨l.length, HK.out.symm⟩
        have hm := lstI_more K' (l.drop (at' + n)) (by rw [List.length_drop]; have := HK.out; omega)
        rw [hK'] at *
        rw [lstI_some hd, List.drop_drop, hm]
        simp [Nat.add_assoc]
      clear hd hlst hok
      obtain ⟨o, d, s, z, i⟩ := x
      have hne : ¬ vc = at' := by omega
      rw [if_neg hne] at CD
      have CD1 : Hid (Calls Try.prog 9 #[.slice (va.map (fun x => x.add at')) (l.length - at') (vc - at')] wr fun e w' => e = .returned (.tuple #[.agg #[.int .i64 o, .int .i64 d, .int .i64 s, .int .i64 z, .int .i64 i], .int .i64 n, .bool true]) ∧ Below wr.heap.size wr w') := CD
      clear CD
      have hw : wrap64 ((at' : Int) + n) = ((at' + n : Nat) : Int) := IntWalk.wrap64_in _ (by omega)
      go_wp2_with (first | ((go_at_call 9; with_reducible refine (CD1.out).mono ?_); rintro e w1 ⟨rfl, hb1⟩; have HB1 := Lib.hid hb1; have hsz1 := hb1.size; have hwsz := HS.out.size; clear hb1) | (at_builtin; refine wpList_append_own _ rfl _ _ 36 rfl w.heap.size 25 n0 _ 5 40 Try.underlying36 hn0 hy0 hy1 hy2 rfl (by decide) _ _ _ rfl (((HROW.out.below HB1.out).below ((Below.refl _ _).alloc (Nat.le_refl _) _)).below ((Below.refl _ _).alloc (Nat.le_refl _) _)) ⟨_, 0, none⟩ 1 1 [.int .i64 o, .int .i64 d, .int .i64 s, .int .i64 z, .int .i64 i] rfl rfl ?c1 ?c2 ?c3 ?c4 ?c5 ?_))
      case c1 =>
        intro i u h
        rcases i with _ | _ | _ | _ | _ | i <;> first | (cases h; simp [go_sem, Addr.add]) | cases h
      case c2 => simp [Value.oneCell']
      case c3 => unfold maxLen; omega
      case c4 => omega
      case c5 => simp; omega
      intro v' w2 hown' hgrow _
      have HOW := Lib.hid hown'
      have HGR := Lib.hid hgrow
      clear hown' hgrow
      go_wp2_with fail
      go_roundw
      case rel =>
        have hs2 : Since w ((w1.alloc (.cells #[.int .i64 o, .int .i64 d, .int .i64 s, .int .i64 z, .int .i64 i] 25)).alloc (.cells #[.int .i64 o, .int .i64 d, .int .i64 s, .int .i64 z, .int .i64 i] 25)) := below_hop (below_hop (below_hop HS.out HB1.out) ((Below.refl _ _).alloc (Nat.le_refl _) _)) ((Below.refl _ _).alloc (Nat.le_refl _) _)
        exact ⟨at' + n, done ++ [⟨o, d, s, z, i⟩], by omega, by go_num, RowA.app (x := ⟨o, d, s, z, i⟩) HOW.out, HE, by simp; omega, hs2.grown HGR.out (by simp; omega) (own_ge HROW.out)⟩
      case measure => simp [intOf]; omega
end Go.Proofs.Ytdojafpjipcbjaa
namespace Go.Proofs.Ytdojafpjipcbjaa
open Go.RowKit
set_option linter.unusedVariables false
set_option linter.unusedSimpArgs false
theorem bysI_ge {xs : List Ins} (h : allI xs) : xs.length ≤ (bysI xs).length := by
  induction xs with
  | nil => exact Nat.le_refl _
  | cons x r ih =>
    have h1 := (enc_len (h x (List.mem_cons_self ..))).1
    have h2 := ih (fun y hy => h y (List.mem_cons_of_mem _ hy))
    simp only [bysI, List.length_append, List.length_cons]; omega
/-- The error of a list of instructions. -/
def waI (xs : List Ins) : Int := if xs.all okI then 0 else 1
theorem allI_iff {xs : List Ins} : xs.all okI = true ↔ allI xs := by unfold allI; rw [List.all_eq_true]
theorem waI_snoc (xs : List Ins) {j : Nat} (h : j < xs.length) : waI (xs.take (j + 1)) = if okI (xs.getD j default) = true then waI (xs.take j) else 1 := by
  unfold waI
  rw [take_snoc h, List.all_append]
  cases h1 : okI (xs.getD j default) <;> cases h2 : (xs.take j).all okI <;> simp only [List.all_cons, List.all_nil, h1, h2] <;> rfl
theorem bytes_any2 (xs : List Ins) (v : Value) (w : World) (hv : Ias w v xs) (hlen : xs.length ≤ 10000) : Calls Try.prog 15 #[v] w fun e w' => ∃ u, e = .returned (.tuple #[u, .int .i64 (waI xs)]) ∧ (allI xs → RowI w' w.heap.size 5 .u8 u (bysI xs)) ∧ Below w.heap.size w w' := by
  by_cases h : allI xs
  · have e : waI xs = 0 := by unfold waI; rw [allI_iff.2 h]; rfl
    rw [e]
    exact (bytes_yes xs v w hv h hlen).mono fun e w' ⟨u, h1, h2, h3⟩ => ⟨u, h1, fun _ => h2, h3⟩
  · have e : waI xs = 1 := by unfold waI; rw [if_neg (fun hh => h (allI_iff.1 hh))]
    rw [e]
    exact (bytes_no xs v w hv h).mono fun e w' ⟨h1, h3⟩ => ⟨_, h1, fun hh => absurd hh h, h3⟩
set_option maxRecDepth 100000 in
set_option maxHeartbeats 2000000 in
theorem wIaLists (xs : List Ins) (l : List Int) (v u : Value) (w : World) (hv : Ias w v xs) (hu : Ints .u8 w u l) (hby : Byt l) (hi : ∀ x ∈ xs, I64 x.i) : Calls Try.prog 5 #[v, u] w fun e w' => e = .returned (.bool true) ∧ Below w.heap.size w w' := by
  have HV := Lib.hid hv
  have HU := Lib.hid hu
  have HBY := Lib.hid hby
  have HI := Lib.hid hi
  obtain ⟨va, vc, rfl, hl1, hl2⟩ := hv.shape
  obtain ⟨ua, uc, rfl, hm1, hm2⟩ := hu.shape
  have CK := Lib.hid known_any
  clear hv hu hby hi
  by_cases hx : 200 < xs.length
  · have d1 : decide (200 < xs.length) = true := decide_eq_true hx
    go_enter Try.func5, Try.ntmps5
    go_wp2_with ((go_at_call 8; with_reducible refine (CK.out _).mono ?_); rintro e w1 ⟨rfl, hb1⟩)
    go_ret
    exact ⟨rfl, hb1⟩
  have d1 : decide (200 < xs.length) = false := decide_eq_false hx
  by_cases hy : 2000 < l.length
  · have d2 : decide (2000 < l.length) = true := decide_eq_true hy
    go_enter Try.func5, Try.ntmps5
    go_wp2_with ((go_at_call 8; with_reducible refine (CK.out _).mono ?_); rintro e w1 ⟨rfl, hb1⟩)
    go_ret
    exact ⟨rfl, hb1⟩
  have d2 : decide (2000 < l.length) = false := decide_eq_false hy
  have d1' : decide ((200 : Int) < xs.length) = false := decide_eq_false (by omega)
  have d2' : decide ((2000 : Int) < l.length) = false := decide_eq_false (by omega)
  have CB := Lib.hid (bytes_any2 xs _ w HV.out (by omega))
  have HWA : Hid (waI xs = waI xs) := rfl
  obtain ⟨e0, he0⟩ : ∃ e0, waI xs = e0 := ⟨_, rfl⟩
  rw [he0] at CB
  have HE0 := Lib.hid he0
  clear he0 HWA
  go_enter Try.func5, Try.ntmps5
  go_upto_region 4 with ((go_at_call 15; with_reducible refine (CB.out).mono ?_); rintro e w1 ⟨a1, rfl, hr1, hb1⟩)
  have HR1 := Lib.hid hr1
  have HS1 : Hid (Since w w1) := Lib.hid hb1
  clear hr1 hb1 CB
  go_wp2_with fail
  go_loopw [7, 8] (fun a i wr => ∃ j : Nat, j ≤ xs.length ∧ i = .int .i64 j ∧ a = .int .i64 (waI (xs.take j)) ∧ Since w1 wr) (fun _ i _ => xs.length - (intOf i).toNat)
  case atStart => exact ⟨0, Nat.zero_le _, rfl, by rw [List.take_zero]; rfl, Since.refl _⟩
  case round =>
    obtain ⟨j, hj, rfl, rfl, hs⟩ := hrel
    by_cases hlt : j < xs.length
    · obtain ⟨b, q, c, e', hc, hb, x0, x1, x2, x3, x4⟩ := (HV.out.stays (below_hop HS1.out hs)).at hlt
      cases e'
      have CV := Lib.hid (rValidate_any (xs.getD j default) wr (HI.out _ (getD_mem hlt)))
      have HW := Lib.hid (waI_snoc xs hlt)
      have hva : vaI (xs.getD j default) = if okI (xs.getD j default) = true then 0 else 1 := rfl
      have HS := Lib.hid hs
      clear hs
      generalize waI (xs.take j) = wa at *
      generalize xs.getD j default = x at *
      obtain ⟨o, d, s, z, i⟩ := x
      have CV2 : Hid (Calls Try.prog 16 #[.agg #[.int .i64 o, .int .i64 d, .int .i64 s, .int .i64 z, .int .i64 i]] wr fun e w' => e = .returned (.int .i64 (vaI ⟨o, d, s, z, i⟩)) ∧ Below wr.heap.size wr w') := CV
      clear CV
      have hlt' : (j : Int) < xs.length := Int.ofNat_lt.2 hlt
      cases ho : okI ⟨o, d, s, z, i⟩
      · rw [show vaI ⟨o, d, s, z, i⟩ = 1 by rw [hva, ho]; rfl] at CV2
        have HW2 : Hid (waI (xs.take (j + 1)) = 1) := Lib.hid (by rw [HW.out, ho]; rfl)
        clear hva ho HW
        go_wp2_with ((go_at_call 16; with_reducible refine (CV2.out).mono ?_); rintro e w2 ⟨rfl, hb2⟩)
        go_roundw
        case rel => exact ⟨j + 1, by omega, by go_num, by rw [HW2.out], below_hop HS.out hb2⟩
        case measure => simp [intOf]; omega
      · rw [show vaI ⟨o, d, s, z, i⟩ = 0 by rw [hva, ho]; rfl] at CV2
        have HW2 : Hid (waI (xs.take (j + 1)) = wa) := Lib.hid (by rw [HW.out, ho]; rfl)
        clear hva ho HW
        go_wp2_with ((go_at_call 16; with_reducible refine (CV2.out).mono ?_); rintro e w2 ⟨rfl, hb2⟩)
        go_roundw
        case rel => exact ⟨j + 1, by omega, by go_num, by rw [HW2.out], below_hop HS.out hb2⟩
        case measure => simp [intOf]; omega
    · obtain rfl : j = xs.length := by omega
      rw [List.take_length, HE0.out]
      obtain ⟨wo, rfl⟩ : ∃ wo : World, wo = wr := ⟨_, rfl⟩
      have HS := Lib.hid (below_hop HS1.out hs)
      have HS12 := Lib.hid hs
      have hd : decide ((xs.length : Int) < xs.length) = false := decide_eq_false (by omega)
      clear hs
      go_upto_if 49 with fail
      go_cut [9, 10, 11] from 50 to 80 (fun a b c wx => Since w wx)
      case first =>
        by_cases h0 : e0 = 0
        · subst h0
          have hall : allI xs := by
            have := HE0.out
            unfold waI at this
            by_cases hh : xs.all okI = true
            · exact allI_iff.1 hh
            · rw [if_neg hh] at this; cases this
          have hr := (HR1.out hall).below HS12.out
          have hbl := bysI_len hall
          have hbg := bysI_ge hall
          obtain ⟨a2, c2, rfl⟩ := hr.shape
          have hlb := lstI_bys xs ((bysI xs).length + 1) hall (by omega)
          have CL := Lib.hid (list_any (bysI xs) _ wo (hr.ints (by omega)) (byt_of (bysI_byt hall)) (by omega))
          rw [hlb] at CL
          clear hr hlb hall
          generalize bysI xs = bs at *
          go_upto_region 14 with ((go_at_call 17; with_reducible refine (CL.out).mono ?_); rintro e w2 ⟨m2, rfl, hr2, hb2⟩; obtain ⟨a3, c3, rfl⟩ := hr2.shape; have HM := Lib.hid (hr2.ias (by omega)); have HS2 := Lib.hid (below_hop HS.out hb2); clear hr2 hb2)
          go_wp2_with fail
          go_loopw [11] (fun i wr => ∃ j : Nat, j ≤ xs.length ∧ i = .int .i64 j ∧ Since w2 wr) (fun i _ => xs.length - (intOf i).toNat)
          case atStart => exact ⟨0, Nat.zero_le _, rfl, Since.refl _⟩
          case round =>
            obtain ⟨j, hj, rfl, hs⟩ := hrel
            by_cases hlt : j < xs.length
            · obtain ⟨b, q, c, e', hc, hb, x0, x1, x2, x3, x4⟩ := (HV.out.stays (below_hop HS2.out hs)).at hlt
              cases e'
              obtain ⟨b', q', c', e', hc', hb', y0, y1, y2, y3, y4⟩ := (HM.out.stays hs).at hlt
              cases e'
              have HSj := Lib.hid hs
              clear hs
              generalize xs.getD j default = x at *
              obtain ⟨o, d, s, z, i⟩ := x
              have hlt' : (j : Int) < xs.length := Int.ofNat_lt.2 hlt
              go_wp2_with fail
              go_quiet (fail)
              go_wp2_with fail
              go_roundw
              case rel => exact ⟨j + 1, by omega, by go_num, HSj.out.drewN _⟩
              case measure => simp [intOf]; omega
            · obtain rfl : j = xs.length := by omega
              have hd : decide ((xs.length : Int) < xs.length) = false := decide_eq_false (by omega)
              go_wp2_with fail
              go_meet
              case rel => exact below_hop HS2.out hs
        · have he : (e0 == 0) = false := beqF h0
          go_wp2_with fail
          go_meet
          case rel => exact HS.out
      case rest =>
        have HSC := Lib.hid hcut
        have HUC := Lib.hid (HU.out.stays hcut)
        clear hcut
        have CL := Lib.hid (list_any l _ wc HUC.out HBY.out (by omega))
        obtain ⟨k1, k2, k3, k4, k5⟩ := lstI_law (l.length + 1) l (by omega)
        generalize (lstI (l.length + 1) l).1 = ms at *
        generalize (lstI (l.length + 1) l).2 = n at *
        have hn : n ≤ uc := by omega
        go_upto_region 22 with ((go_at_call 17; with_reducible refine (CL.out).mono ?_); rintro e w3 ⟨m3, rfl, hr3, hb3⟩)
        obtain ⟨a3, c3, rfl⟩ := hr3.shape
        have CB2 := Lib.hid (bytes_yes ms _ w3 (hr3.ias (by omega)) k1 (by omega))
        rw [k3] at CB2
        have HS3 := Lib.hid (below_hop HSC.out hb3)
        have HU3 := Lib.hid (HUC.out.stays hb3)
        clear CL hr3 hb3 HUC
        go_upto_region 23 with ((go_at_call 15; with_reducible refine (CB2.out).mono ?_); rintro e w4 ⟨c4, rfl, hr4, hb4⟩)
        obtain ⟨a4, c4, rfl⟩ := hr4.shape
        have HR4 := Lib.hid hr4
        have HS4 := Lib.hid (below_hop HS3.out hb4)
        have HU4 := Lib.hid (HU3.out.stays hb4)
        have hkl : (l.take n).length ≤ 2000 := by rw [List.length_take]; omega
        have t1 : ∀ wk, Since w4 wk → (convert 22 9 (.slice a4 (l.take n).length c4)).run Try.prog wk = .ok (.string (strOfNums (l.take n))) wk := fun wk h => ((HR4.out.ints (by omega)).stays h).str
        have t2 : ∀ wk, Since w4 wk → (convert 22 9 (.slice ua n uc)).run Try.prog wk = .ok (.string (strOfNums (l.take n))) wk := fun wk h => ((HU4.out.stays h).take k2).str
        have e1 : decide ((n : Int) < 0) = false := decide_eq_false (by omega)
        have e2 : decide (l.length < n) = false := decide_eq_false (by omega)
        have e3 : decide ((l.length : Int) < n) = false := decide_eq_false (by omega)
        have K2 := Lib.hid k2
        have K4 := Lib.hid k4
        have h00 := Since.refl w4
        have CD : Hid (∀ wk, Since w4 wk → Calls Try.prog 10 #[.slice (if uc = n then ua else ua.map (fun x => x.add n)) (l.length - n) (uc - n)] wk fun e w' => e = .returned (.tuple #[.agg #[.int .i64 0, .int .i64 0, .int .i64 0, .int .i64 0, .int .i64 0], .int .i64 0, .bool false]) ∧ Below wk.heap.size wk w') := fun wk h => by
          have := rDecode_any (l.drop n) _ wk ((HU4.out.stays h).drop K2.out) (fun k => by rw [getD_dr]; exact HBY.out _)
          rw [(dec_none K4.out).1, (dec_none K4.out).2.1, (dec_none K4.out).2.2] at this
          exact this
        clear hr4 hb4 HU3 CB2 k1 k2 k3 k4 k5 hkl
        generalize strOfNums (l.take n) = S at *
        generalize (l.take n).length = k at *
        refine wp_region_held_drew (S := (fun wk => Since w4 wk)) (by kernel_rfl) ?_ (fun hHeld => ?_)
        · (first | assumption | exact Since.drew (by assumption) | exact Since.next (by assumption) (by assumption))
        refine tk 0 ?_; refine tk 1 ?_; refine tk 2 ?_; refine tk 3 ?_; refine tk 4 ?_; refine tk 5 ?_; refine tk 6 ?_; refine tk 7 ?_
        refine tk 8 ?_
        refine rd1 9 (fun K hK => ?_)
        go_simp
        refine hK.out _ _ ?_ (fun hHeld => ?_)
        · (first | assumption | exact Since.drew (by assumption) | exact Since.next (by assumption) (by assumption))
        clear hK K
        try go_frame
        refine tk 10 ?_; refine tk 11 ?_; refine tk 12 ?_; refine tk 13 ?_; refine tk 14 ?_; refine tk 15 ?_; refine tk 16 ?_; refine tk 17 ?_
        refine tk 18 ?_; refine tk 19 ?_; refine tk 20 ?_
        refine wpAnyH_done (by kernel_rfl) ?_ _
        by_cases hun : uc = n
        · rw [if_pos hun, show uc - n = 0 by omega] at CD
          have CD0 : Hid (∀ wk, Since w4 wk → Calls Try.prog 10 #[.slice ua (l.length - n) 0] wk fun e w' => e = .returned (.tuple #[.agg #[.int .i64 0, .int .i64 0, .int .i64 0, .int .i64 0, .int .i64 0], .int .i64 0, .bool false]) ∧ Below wk.heap.size wk w') := CD
          clear CD
          go_wp2_with (first | ((go_at_call 10; with_reducible refine (CD0.out _ (by first | exact h00 | exact Since.drew h00)).mono ?_); rintro e w5 ⟨rfl, hb5⟩; have hs5 : Since w4 w5 := Since.next (by first | exact h00 | exact Since.drew h00) hb5) | ((go_at_call 8; with_reducible refine (CK.out _).mono ?_); rintro e w6 ⟨rfl, hb6⟩; have hs6 := Since.next (hs5.next ((Below.refl _ _).alloc (Nat.le_refl _) _)) hb6))
          go_ret
          exact ⟨rfl, below_hop HS4.out hs6⟩
        · rw [if_neg hun] at CD
          have CD0 : Hid (∀ wk, Since w4 wk → Calls Try.prog 10 #[.slice (ua.map (fun x => x.add n)) (l.length - n) (uc - n)] wk fun e w' => e = .returned (.tuple #[.agg #[.int .i64 0, .int .i64 0, .int .i64 0, .int .i64 0, .int .i64 0], .int .i64 0, .bool false]) ∧ Below wk.heap.size wk w') := CD
          clear CD
          go_wp2_with (first | ((go_at_call 10; with_reducible refine (CD0.out _ (by first | exact h00 | exact Since.drew h00)).mono ?_); rintro e w5 ⟨rfl, hb5⟩; have hs5 : Since w4 w5 := Since.next (by first | exact h00 | exact Since.drew h00) hb5) | ((go_at_call 8; with_reducible refine (CK.out _).mono ?_); rintro e w6 ⟨rfl, hb6⟩; have hs6 := Since.next (hs5.next ((Below.refl _ _).alloc (Nat.le_refl _) _)) hb6))
          go_ret
          exact ⟨rfl, below_hop HS4.out hs6⟩
end Go.Proofs.Ytdojafpjipcbjaa
