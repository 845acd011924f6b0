/- Walk of two of a machine of the second set, operation by operation. -/
import Derived.Test.YtdojafpjipcbjaaF13
import Derived.Test.YtdojafpjipcbjaaF14
namespace Go.Proofs.Ytdojafpjipcbjaa
open Go.RowKit
set_option linter.unusedVariables false
set_option linter.unusedSimpArgs false
def orW (a b : Int) : Int := ((a.toNat ||| b.toNat : Nat) : Int)
def anW (a b : Int) : Int := ((a.toNat &&& b.toNat : Nat) : Int)
def xoW (a b : Int) : Int := ((a.toNat ^^^ b.toNat : Nat) : Int)
theorem orW_bd {a b : Int} (a0 : 0 ≤ a) (a1 : a < 4294967296) (b0 : 0 ≤ b) (b1 : b < 4294967296) : 0 ≤ orW a b ∧ orW a b < 4294967296 := by
  have := Nat.or_lt_two_pow (x := a.toNat) (y := b.toNat) (n := 32) (by omega) (by omega)
  unfold orW; omega
theorem anW_bd {a b : Int} (a0 : 0 ≤ a) (a1 : a < 4294967296) (b0 : 0 ≤ b) (b1 : b < 4294967296) : 0 ≤ anW a b ∧ anW a b < 4294967296 := by
  have := Nat.and_lt_two_pow (x := a.toNat) (y := b.toNat) (n := 32) (by omega)
  unfold anW; omega
theorem xoW_bd {a b : Int} (a0 : 0 ≤ a) (a1 : a < 4294967296) (b0 : 0 ≤ b) (b1 : b < 4294967296) : 0 ≤ xoW a b ∧ xoW a b < 4294967296 := by
  have := Nat.xor_lt_two_pow (x := a.toNat) (y := b.toNat) (n := 32) (by omega) (by omega)
  unfold xoW; omega
section
variable {base T M : Nat} {mv : Value} {x : Ins} {z : Int} {fl : Bool} {c : Mac}
set_option maxRecDepth 100000 in
set_option maxHeartbeats 1000000 in
theorem two_7 (d : Nat) (hd : d < 32) (a b : Int) (w : World) (h : MSt base T M mv x z fl c w) (hxd : x.d = (d : Int)) (ha : c.r.getD d 0 % pwZ z = a) (b0 : 0 ≤ b) (b1 : b < 4294967296) : Calls Try.prog 105 #[.pointer (some ⟨T, 0, none⟩), .int .i64 7, .int .u32 b] w fun e w' => e = .returned (.tuple #[]) ∧ MSt base T M mv x z fl { c with r := c.r.set d (wrR (c.r.getD d 0) (adN a b z) z), f := rsF (adN a b z) z (adO a b z) } w' ∧ Ch T M mv w w' := by
  have hpw := pw_bd h.zz
  have a0 : 0 ≤ a := by rw [← ha]; exact Int.emod_nonneg _ (by omega)
  have a1 : a < 4294967296 := by rw [← ha]; have := Int.emod_lt_of_pos (c.r.getD d 0) hpw.1; omega
  have x1 := h.xd
  rw [hxd] at x1
  have hT := h.ltT
  have CG := Lib.hid (get_any d hd w h)
  rw [ha] at CG
  have HS := Lib.hid h
  have hnb := adN_bd (a := a) (b := b) h.zz
  have CA := Lib.hid (fun wk (hk : MSt base T M mv x z fl c wk) => add_any a b wk hk a0 a1 b0 b1)
  have hn2 : adN a b z < 4294967296 := by omega
  have CS := Lib.hid (fun (c' : Mac) wk (hk : MSt base T M mv x z fl c' wk) => set_any d hd (adN a b z) wk hk hnb.1 hn2)
  have xds : ∀ wk, (∃ c', MSt base T M mv x z fl c' wk) → wk.cell? ⟨T, 2, none⟩ = some (.int .i64 (d : Int)) := fun wk ⟨c', h'⟩ => by have := h'.xd; rw [hxd] at this; exact this
  have lts : ∀ wk, (∃ c', MSt base T M mv x z fl c' wk) → T < wk.heap.size := fun wk ⟨c', h'⟩ => h'.ltT
  generalize adN a b z = n at *
  generalize adO a b z = o at *
  clear h hpw hnb hn2 ha a0 a1 hxd
  go_enter Try.func105, Try.ntmps105
  go_upto_region 4 with ((go_at_call 103; with_reducible refine (CG.out).mono ?_); rintro e w1 ⟨rfl, n1, rfl⟩; have hm0 := HS.out.drewN n1)
  refine wp_region_held_drew (S := (fun wk => ∃ c', MSt base T M mv x z fl c' wk)) (by kernel_rfl) ?_ (fun hHeld => ?_)
  · (first | exact ⟨_, by assumption⟩ | exact ⟨_, MSt.drew (by assumption)⟩)
  refine tk 0 ?_; refine tk 1 ?_; refine tk 2 ?_; refine tk 3 ?_; refine tk 4 ?_; refine tk 5 ?_; refine tk 6 ?_; refine tk 7 ?_
  refine tk 8 ?_
  refine rd1 9 (fun K hK => ?_)
  (go_simp; first | ((go_at_call 131; with_reducible refine (CA.out _ (HS.out.drewN _)).mono ?_); rintro e w2 ⟨rfl, hm1, hc1⟩) | ((go_at_call 102; with_reducible refine (CS.out _ _ hm1).mono ?_); rintro e w3 ⟨rfl, hm2, hc2⟩))
  refine hK.out _ _ ?_ (fun hHeld => ?_)
  · (first | exact ⟨_, by assumption⟩ | exact ⟨_, MSt.drew (by assumption)⟩)
  clear hK K
  try go_frame
  refine rd1 10 (fun K hK => ?_)
  (go_simp; first | ((go_at_call 131; with_reducible refine (CA.out _ (HS.out.drewN _)).mono ?_); rintro e w2 ⟨rfl, hm1, hc1⟩) | ((go_at_call 102; with_reducible refine (CS.out _ _ hm1).mono ?_); rintro e w3 ⟨rfl, hm2, hc2⟩))
  refine hK.out _ _ ?_ (fun hHeld => ?_)
  · (first | exact ⟨_, by assumption⟩ | exact ⟨_, MSt.drew (by assumption)⟩)
  clear hK K
  try go_frame
  refine wpAnyH_done (by kernel_rfl) ?_ _
  go_wp2_with fail
  exact bodyPost_end (v := .tuple #[]) (by simp [results, Try.results105, go_sem]) rfl ⟨rfl, hm2, (((Ch.refl _ _ _ _).drewN (n1 + 1)).trans hc1).trans hc2⟩
set_option maxRecDepth 100000 in
set_option maxHeartbeats 1000000 in
theorem two_8 (d : Nat) (hd : d < 32) (a b : Int) (w : World) (h : MSt base T M mv x z fl c w) (hxd : x.d = (d : Int)) (ha : c.r.getD d 0 % pwZ z = a) (b0 : 0 ≤ b) (b1 : b < 4294967296) : Calls Try.prog 105 #[.pointer (some ⟨T, 0, none⟩), .int .i64 8, .int .u32 b] w fun e w' => e = .returned (.tuple #[]) ∧ MSt base T M mv x z fl { c with r := c.r.set d (wrR (c.r.getD d 0) (orW a b) z), f := rsF (orW a b) z 0 } w' ∧ Ch T M mv w w' := by
  have hpw := pw_bd h.zz
  have a0 : 0 ≤ a := by rw [← ha]; exact Int.emod_nonneg _ (by omega)
  have a1 : a < 4294967296 := by rw [← ha]; have := Int.emod_lt_of_pos (c.r.getD d 0) hpw.1; omega
  have x1 := h.xd
  rw [hxd] at x1
  have hT := h.ltT
  have CG := Lib.hid (get_any d hd w h)
  rw [ha] at CG
  have HS := Lib.hid h
  have hnb := orW_bd a0 a1 b0 b1
  have hbit : bits .or .u32 a b = orW a b := u32_or a b a0 a1 b0 b1
  have CA := Lib.hid (fun wk (hk : MSt base T M mv x z fl c wk) => logic_any (orW a b) wk hk hnb.1 hnb.2)
  have hn2 : orW a b < 4294967296 := by omega
  have CS := Lib.hid (fun (c' : Mac) wk (hk : MSt base T M mv x z fl c' wk) => set_any d hd (orW a b) wk hk hnb.1 hn2)
  have xds : ∀ wk, (∃ c', MSt base T M mv x z fl c' wk) → wk.cell? ⟨T, 2, none⟩ = some (.int .i64 (d : Int)) := fun wk ⟨c', h'⟩ => by have := h'.xd; rw [hxd] at this; exact this
  have lts : ∀ wk, (∃ c', MSt base T M mv x z fl c' wk) → T < wk.heap.size := fun wk ⟨c', h'⟩ => h'.ltT
  generalize orW a b = n at *
  clear h hpw hnb hn2 ha a0 a1 hxd
  go_enter Try.func105, Try.ntmps105
  go_upto_region 13 with ((go_at_call 103; with_reducible refine (CG.out).mono ?_); rintro e w1 ⟨rfl, n1, rfl⟩; have hm0 := HS.out.drewN n1)
  refine wp_region_held_drew (S := (fun wk => ∃ c', MSt base T M mv x z fl c' wk)) (by kernel_rfl) ?_ (fun hHeld => ?_)
  · (first | exact ⟨_, by assumption⟩ | exact ⟨_, MSt.drew (by assumption)⟩)
  refine tk 0 ?_; refine tk 1 ?_; refine tk 2 ?_; refine tk 3 ?_; refine tk 4 ?_; refine tk 5 ?_; refine tk 6 ?_; refine tk 7 ?_
  refine tk 8 ?_; refine tk 9 ?_
  refine rd1 10 (fun K hK => ?_)
  (go_simp; first | ((go_at_call 132; with_reducible refine (CA.out _ (HS.out.drewN _)).mono ?_); rintro e w2 ⟨rfl, hm1, hc1⟩) | ((go_at_call 102; with_reducible refine (CS.out _ _ hm1).mono ?_); rintro e w3 ⟨rfl, hm2, hc2⟩))
  refine hK.out _ _ ?_ (fun hHeld => ?_)
  · (first | exact ⟨_, by assumption⟩ | exact ⟨_, MSt.drew (by assumption)⟩)
  clear hK K
  try go_frame
  refine rd1 11 (fun K hK => ?_)
  (go_simp; first | ((go_at_call 132; with_reducible refine (CA.out _ (HS.out.drewN _)).mono ?_); rintro e w2 ⟨rfl, hm1, hc1⟩) | ((go_at_call 102; with_reducible refine (CS.out _ _ hm1).mono ?_); rintro e w3 ⟨rfl, hm2, hc2⟩))
  refine hK.out _ _ ?_ (fun hHeld => ?_)
  · (first | exact ⟨_, by assumption⟩ | exact ⟨_, MSt.drew (by assumption)⟩)
  clear hK K
  try go_frame
  refine wpAnyH_done (by kernel_rfl) ?_ _
  go_wp2_with fail
  exact bodyPost_end (v := .tuple #[]) (by simp [results, Try.results105, go_sem]) rfl ⟨rfl, hm2, (((Ch.refl _ _ _ _).drewN (n1 + 1)).trans hc1).trans hc2⟩
set_option maxRecDepth 100000 in
set_option maxHeartbeats 1000000 in
theorem two_9 (d : Nat) (hd : d < 32) (a b : Int) (w : World) (h : MSt base T M mv x z fl c w) (hxd : x.d = (d : Int)) (ha : c.r.getD d 0 % pwZ z = a) (b0 : 0 ≤ b) (b1 : b < 4294967296) : Calls Try.prog 105 #[.pointer (some ⟨T, 0, none⟩), .int .i64 9, .int .u32 b] w fun e w' => e = .returned (.tuple #[]) ∧ MSt base T M mv x z fl { c with r := c.r.set d (wrR (c.r.getD d 0) (anW a b) z), f := rsF (anW a b) z 0 } w' ∧ Ch T M mv w w' := by
  have hpw := pw_bd h.zz
  have a0 : 0 ≤ a := by rw [← ha]; exact Int.emod_nonneg _ (by omega)
  have a1 : a < 4294967296 := by rw [← ha]; have := Int.emod_lt_of_pos (c.r.getD d 0) hpw.1; omega
  have x1 := h.xd
  rw [hxd] at x1
  have hT := h.ltT
  have CG := Lib.hid (get_any d hd w h)
  rw [ha] at CG
  have HS := Lib.hid h
  have hnb := anW_bd a0 a1 b0 b1
  have hbit : bits .and .u32 a b = anW a b := u32_and a b a0 a1 b0 b1
  have CA := Lib.hid (fun wk (hk : MSt base T M mv x z fl c wk) => logic_any (anW a b) wk hk hnb.1 hnb.2)
  have hn2 : anW a b < 4294967296 := by omega
  have CS := Lib.hid (fun (c' : Mac) wk (hk : MSt base T M mv x z fl c' wk) => set_any d hd (anW a b) wk hk hnb.1 hn2)
  have xds : ∀ wk, (∃ c', MSt base T M mv x z fl c' wk) → wk.cell? ⟨T, 2, none⟩ = some (.int .i64 (d : Int)) := fun wk ⟨c', h'⟩ => by have := h'.xd; rw [hxd] at this; exact this
  have lts : ∀ wk, (∃ c', MSt base T M mv x z fl c' wk) → T < wk.heap.size := fun wk ⟨c', h'⟩ => h'.ltT
  generalize anW a b = n at *
  clear h hpw hnb hn2 ha a0 a1 hxd
  go_enter Try.func105, Try.ntmps105
  go_upto_region 16 with ((go_at_call 103; with_reducible refine (CG.out).mono ?_); rintro e w1 ⟨rfl, n1, rfl⟩; have hm0 := HS.out.drewN n1)
  refine wp_region_held_drew (S := (fun wk => ∃ c', MSt base T M mv x z fl c' wk)) (by kernel_rfl) ?_ (fun hHeld => ?_)
  · (first | exact ⟨_, by assumption⟩ | exact ⟨_, MSt.drew (by assumption)⟩)
  refine tk 0 ?_; refine tk 1 ?_; refine tk 2 ?_; refine tk 3 ?_; refine tk 4 ?_; refine tk 5 ?_; refine tk 6 ?_; refine tk 7 ?_
  refine tk 8 ?_; refine tk 9 ?_
  refine rd1 10 (fun K hK => ?_)
  (go_simp; first | ((go_at_call 132; with_reducible refine (CA.out _ (HS.out.drewN _)).mono ?_); rintro e w2 ⟨rfl, hm1, hc1⟩) | ((go_at_call 102; with_reducible refine (CS.out _ _ hm1).mono ?_); rintro e w3 ⟨rfl, hm2, hc2⟩))
  refine hK.out _ _ ?_ (fun hHeld => ?_)
  · (first | exact ⟨_, by assumption⟩ | exact ⟨_, MSt.drew (by assumption)⟩)
  clear hK K
  try go_frame
  refine rd1 11 (fun K hK => ?_)
  (go_simp; first | ((go_at_call 132; with_reducible refine (CA.out _ (HS.out.drewN _)).mono ?_); rintro e w2 ⟨rfl, hm1, hc1⟩) | ((go_at_call 102; with_reducible refine (CS.out _ _ hm1).mono ?_); rintro e w3 ⟨rfl, hm2, hc2⟩))
  refine hK.out _ _ ?_ (fun hHeld => ?_)
  · (first | exact ⟨_, by assumption⟩ | exact ⟨_, MSt.drew (by assumption)⟩)
  clear hK K
  try go_frame
  refine wpAnyH_done (by kernel_rfl) ?_ _
  go_wp2_with fail
  exact bodyPost_end (v := .tuple #[]) (by simp [results, Try.results105, go_sem]) rfl ⟨rfl, hm2, (((Ch.refl _ _ _ _).drewN (n1 + 1)).trans hc1).trans hc2⟩
set_option maxRecDepth 100000 in
set_option maxHeartbeats 1000000 in
theorem two_10 (d : Nat) (hd : d < 32) (a b : Int) (w : World) (h : MSt base T M mv x z fl c w) (hxd : x.d = (d : Int)) (ha : c.r.getD d 0 % pwZ z = a) (b0 : 0 ≤ b) (b1 : b < 4294967296) : Calls Try.prog 105 #[.pointer (some ⟨T, 0, none⟩), .int .i64 10, .int .u32 b] w fun e w' => e = .returned (.tuple #[]) ∧ MSt base T M mv x z fl { c with r := c.r.set d (wrR (c.r.getD d 0) (suN a b z) z), f := rsF (suN a b z) z (suO a b z) } w' ∧ Ch T M mv w w' := by
  have hpw := pw_bd h.zz
  have a0 : 0 ≤ a := by rw [← ha]; exact Int.emod_nonneg _ (by omega)
  have a1 : a < 4294967296 := by rw [← ha]; have := Int.emod_lt_of_pos (c.r.getD d 0) hpw.1; omega
  have x1 := h.xd
  rw [hxd] at x1
  have hT := h.ltT
  have CG := Lib.hid (get_any d hd w h)
  rw [ha] at CG
  have HS := Lib.hid h
  have hnb := suN_bd (a := a) (b := b) h.zz
  have CA := Lib.hid (fun wk (hk : MSt base T M mv x z fl c wk) => sub_any a b wk hk a0 a1 b0 b1)
  have hn2 : suN a b z < 4294967296 := by omega
  have CS := Lib.hid (fun (c' : Mac) wk (hk : MSt base T M mv x z fl c' wk) => set_any d hd (suN a b z) wk hk hnb.1 hn2)
  have xds : ∀ wk, (∃ c', MSt base T M mv x z fl c' wk) → wk.cell? ⟨T, 2, none⟩ = some (.int .i64 (d : Int)) := fun wk ⟨c', h'⟩ => by have := h'.xd; rw [hxd] at this; exact this
  have lts : ∀ wk, (∃ c', MSt base T M mv x z fl c' wk) → T < wk.heap.size := fun wk ⟨c', h'⟩ => h'.ltT
  generalize suN a b z = n at *
  generalize suO a b z = o at *
  clear h hpw hnb hn2 ha a0 a1 hxd
  go_enter Try.func105, Try.ntmps105
  go_upto_region 7 with ((go_at_call 103; with_reducible refine (CG.out).mono ?_); rintro e w1 ⟨rfl, n1, rfl⟩; have hm0 := HS.out.drewN n1)
  refine wp_region_held_drew (S := (fun wk => ∃ c', MSt base T M mv x z fl c' wk)) (by kernel_rfl) ?_ (fun hHeld => ?_)
  · (first | exact ⟨_, by assumption⟩ | exact ⟨_, MSt.drew (by assumption)⟩)
  refine tk 0 ?_; refine tk 1 ?_; refine tk 2 ?_; refine tk 3 ?_; refine tk 4 ?_; refine tk 5 ?_; refine tk 6 ?_; refine tk 7 ?_
  refine tk 8 ?_
  refine rd1 9 (fun K hK => ?_)
  (go_simp; first | ((go_at_call 108; with_reducible refine (CA.out _ (HS.out.drewN _)).mono ?_); rintro e w2 ⟨rfl, hm1, hc1⟩) | ((go_at_call 102; with_reducible refine (CS.out _ _ hm1).mono ?_); rintro e w3 ⟨rfl, hm2, hc2⟩))
  refine hK.out _ _ ?_ (fun hHeld => ?_)
  · (first | exact ⟨_, by assumption⟩ | exact ⟨_, MSt.drew (by assumption)⟩)
  clear hK K
  try go_frame
  refine rd1 10 (fun K hK => ?_)
  (go_simp; first | ((go_at_call 108; with_reducible refine (CA.out _ (HS.out.drewN _)).mono ?_); rintro e w2 ⟨rfl, hm1, hc1⟩) | ((go_at_call 102; with_reducible refine (CS.out _ _ hm1).mono ?_); rintro e w3 ⟨rfl, hm2, hc2⟩))
  refine hK.out _ _ ?_ (fun hHeld => ?_)
  · (first | exact ⟨_, by assumption⟩ | exact ⟨_, MSt.drew (by assumption)⟩)
  clear hK K
  try go_frame
  refine wpAnyH_done (by kernel_rfl) ?_ _
  go_wp2_with fail
  exact bodyPost_end (v := .tuple #[]) (by simp [results, Try.results105, go_sem]) rfl ⟨rfl, hm2, (((Ch.refl _ _ _ _).drewN (n1 + 1)).trans hc1).trans hc2⟩
set_option maxRecDepth 100000 in
set_option maxHeartbeats 1000000 in
theorem two_11 (d : Nat) (hd : d < 32) (a b : Int) (w : World) (h : MSt base T M mv x z fl c w) (hxd : x.d = (d : Int)) (ha : c.r.getD d 0 % pwZ z = a) (b0 : 0 ≤ b) (b1 : b < 4294967296) : Calls Try.prog 105 #[.pointer (some ⟨T, 0, none⟩), .int .i64 11, .int .u32 b] w fun e w' => e = .returned (.tuple #[]) ∧ MSt base T M mv x z fl { c with r := c.r.set d (wrR (c.r.getD d 0) (xoW a b) z), f := rsF (xoW a b) z 0 } w' ∧ Ch T M mv w w' := by
  have hpw := pw_bd h.zz
  have a0 : 0 ≤ a := by rw [← ha]; exact Int.emod_nonneg _ (by omega)
  have a1 : a < 4294967296 := by rw [← ha]; have := Int.emod_lt_of_pos (c.r.getD d 0) hpw.1; omega
  have x1 := h.xd
  rw [hxd] at x1
  have hT := h.ltT
  have CG := Lib.hid (get_any d hd w h)
  rw [ha] at CG
  have HS := Lib.hid h
  have hnb := xoW_bd a0 a1 b0 b1
  have hbit : bits .xor .u32 a b = xoW a b := u32_xor a b a0 a1 b0 b1
  have CA := Lib.hid (fun wk (hk : MSt base T M mv x z fl c wk) => logic_any (xoW a b) wk hk hnb.1 hnb.2)
  have hn2 : xoW a b < 4294967296 := by omega
  have CS := Lib.hid (fun (c' : Mac) wk (hk : MSt base T M mv x z fl c' wk) => set_any d hd (xoW a b) wk hk hnb.1 hn2)
  have xds : ∀ wk, (∃ c', MSt base T M mv x z fl c' wk) → wk.cell? ⟨T, 2, none⟩ = some (.int .i64 (d : Int)) := fun wk ⟨c', h'⟩ => by have := h'.xd; rw [hxd] at this; exact this
  have lts : ∀ wk, (∃ c', MSt base T M mv x z fl c' wk) → T < wk.heap.size := fun wk ⟨c', h'⟩ => h'.ltT
  generalize xoW a b = n at *
  clear h hpw hnb hn2 ha a0 a1 hxd
  go_enter Try.func105, Try.ntmps105
  go_upto_region 19 with ((go_at_call 103; with_reducible refine (CG.out).mono ?_); rintro e w1 ⟨rfl, n1, rfl⟩; have hm0 := HS.out.drewN n1)
  refine wp_region_held_drew (S := (fun wk => ∃ c', MSt base T M mv x z fl c' wk)) (by kernel_rfl) ?_ (fun hHeld => ?_)
  · (first | exact ⟨_, by assumption⟩ | exact ⟨_, MSt.drew (by assumption)⟩)
  refine tk 0 ?_; refine tk 1 ?_; refine tk 2 ?_; refine tk 3 ?_; refine tk 4 ?_; refine tk 5 ?_; refine tk 6 ?_; refine tk 7 ?_
  refine tk 8 ?_; refine tk 9 ?_
  refine rd1 10 (fun K hK => ?_)
  (go_simp; first | ((go_at_call 132; with_reducible refine (CA.out _ (HS.out.drewN _)).mono ?_); rintro e w2 ⟨rfl, hm1, hc1⟩) | ((go_at_call 102; with_reducible refine (CS.out _ _ hm1).mono ?_); rintro e w3 ⟨rfl, hm2, hc2⟩))
  refine hK.out _ _ ?_ (fun hHeld => ?_)
  · (first | exact ⟨_, by assumption⟩ | exact ⟨_, MSt.drew (by assumption)⟩)
  clear hK K
  try go_frame
  refine rd1 11 (fun K hK => ?_)
  (go_simp; first | ((go_at_call 132; with_reducible refine (CA.out _ (HS.out.drewN _)).mono ?_); rintro e w2 ⟨rfl, hm1, hc1⟩) | ((go_at_call 102; with_reducible refine (CS.out _ _ hm1).mono ?_); rintro e w3 ⟨rfl, hm2, hc2⟩))
  refine hK.out _ _ ?_ (fun hHeld => ?_)
  · (first | exact ⟨_, by assumption⟩ | exact ⟨_, MSt.drew (by assumption)⟩)
  clear hK K
  try go_frame
  refine wpAnyH_done (by kernel_rfl) ?_ _
  go_wp2_with fail
  exact bodyPost_end (v := .tuple #[]) (by simp [results, Try.results105, go_sem]) rfl ⟨rfl, hm2, (((Ch.refl _ _ _ _).drewN (n1 + 1)).trans hc1).trans hc2⟩
set_option maxRecDepth 100000 in
set_option maxHeartbeats 1000000 in
theorem two_12 (d : Nat) (hd : d < 32) (a b : Int) (w : World) (h : MSt base T M mv x z fl c w) (hxd : x.d = (d : Int)) (ha : c.r.getD d 0 % pwZ z = a) (b0 : 0 ≤ b) (b1 : b < 4294967296) : Calls Try.prog 105 #[.pointer (some ⟨T, 0, none⟩), .int .i64 12, .int .u32 b] w fun e w' => e = .returned (.tuple #[]) ∧ MSt base T M mv x z fl { c with f := rsF (suN a b z) z (suO a b z) } w' ∧ Ch T M mv w w' := by
  have hpw := pw_bd h.zz
  have a0 : 0 ≤ a := by rw [← ha]; exact Int.emod_nonneg _ (by omega)
  have a1 : a < 4294967296 := by rw [← ha]; have := Int.emod_lt_of_pos (c.r.getD d 0) hpw.1; omega
  have x1 := h.xd
  rw [hxd] at x1
  have hT := h.ltT
  have CG := Lib.hid (get_any d hd w h)
  rw [ha] at CG
  have HS := Lib.hid h
  have hnb := suN_bd (a := a) (b := b) h.zz
  have CA := Lib.hid (fun wk (hk : MSt base T M mv x z fl c wk) => sub_any a b wk hk a0 a1 b0 b1)
  have hn2 : suN a b z < 4294967296 := by omega
  generalize suN a b z = n at *
  generalize suO a b z = o at *
  clear h hpw hnb hn2 ha a0 a1 hxd
  go_enter Try.func105, Try.ntmps105
  go_wp2_with (first | ((go_at_call 103; with_reducible refine (CG.out).mono ?_); rintro e w1 ⟨rfl, n1, rfl⟩; have hm0 := HS.out.drewN n1) | ((go_at_call 108; with_reducible refine (CA.out _ (HS.out.drewN _)).mono ?_); rintro e w2 ⟨rfl, hm1, hc1⟩))
  exact bodyPost_end (v := .tuple #[]) (by simp [results, Try.results105, go_sem]) rfl ⟨rfl, hm1, ((Ch.refl _ _ _ _).drewN n1).trans hc1⟩
set_option maxRecDepth 100000 in
set_option maxHeartbeats 1000000 in
theorem two_13 (d : Nat) (hd : d < 32) (a b : Int) (w : World) (h : MSt base T M mv x z fl c w) (hxd : x.d = (d : Int)) (ha : c.r.getD d 0 % pwZ z = a) (b0 : 0 ≤ b) (b1 : b < 4294967296) : Calls Try.prog 105 #[.pointer (some ⟨T, 0, none⟩), .int .i64 13, .int .u32 b] w fun e w' => e = .returned (.tuple #[]) ∧ MSt base T M mv x z fl { c with f := rsF (anW a b) z 0 } w' ∧ Ch T M mv w w' := by
  have hpw := pw_bd h.zz
  have a0 : 0 ≤ a := by rw [← ha]; exact Int.emod_nonneg _ (by omega)
  have a1 : a < 4294967296 := by rw [← ha]; have := Int.emod_lt_of_pos (c.r.getD d 0) hpw.1; omega
  have x1 := h.xd
  rw [hxd] at x1
  have hT := h.ltT
  have CG := Lib.hid (get_any d hd w h)
  rw [ha] at CG
  have HS := Lib.hid h
  have hnb := anW_bd a0 a1 b0 b1
  have hbit : bits .and .u32 a b = anW a b := u32_and a b a0 a1 b0 b1
  have CA := Lib.hid (fun wk (hk : MSt base T M mv x z fl c wk) => logic_any (anW a b) wk hk hnb.1 hnb.2)
  have hn2 : anW a b < 4294967296 := by omega
  generalize anW a b = n at *
  clear h hpw hnb hn2 ha a0 a1 hxd
  go_enter Try.func105, Try.ntmps105
  go_wp2_with (first | ((go_at_call 103; with_reducible refine (CG.out).mono ?_); rintro e w1 ⟨rfl, n1, rfl⟩; have hm0 := HS.out.drewN n1) | ((go_at_call 132; with_reducible refine (CA.out _ (HS.out.drewN _)).mono ?_); rintro e w2 ⟨rfl, hm1, hc1⟩))
  exact bodyPost_end (v := .tuple #[]) (by simp [results, Try.results105, go_sem]) rfl ⟨rfl, hm1, ((Ch.refl _ _ _ _).drewN n1).trans hc1⟩
set_option maxRecDepth 100000 in
set_option maxHeartbeats 1000000 in
theorem two_14 (d : Nat) (hd : d < 32) (a b : Int) (w : World) (h : MSt base T M mv x z fl c w) (hxd : x.d = (d : Int)) (ha : c.r.getD d 0 % pwZ z = a) (b0 : 0 ≤ b) (b1 : b < 4294967296) : Calls Try.prog 105 #[.pointer (some ⟨T, 0, none⟩), .int .i64 14, .int .u32 b] w fun e w' => e = .returned (.tuple #[]) ∧ MSt base T M mv x z fl { c with r := c.r.set d (wrR (c.r.getD d 0) (adN a b z) z), f := rsF (adN a b z) z (adO a b z) } w' ∧ Ch T M mv w w' := by
  have hpw := pw_bd h.zz
  have a0 : 0 ≤ a := by rw [← ha]; exact Int.emod_nonneg _ (by omega)
  have a1 : a < 4294967296 := by rw [← ha]; have := Int.emod_lt_of_pos (c.r.getD d 0) hpw.1; omega
  have x1 := h.xd
  rw [hxd] at x1
  have hT := h.ltT
  have CG := Lib.hid (get_any d hd w h)
  rw [ha] at CG
  have HS := Lib.hid h
  have hnb := adN_bd (a := a) (b := b) h.zz
  have CA := Lib.hid (fun wk (hk : MSt base T M mv x z fl c wk) => add_any a b wk hk a0 a1 b0 b1)
  have hn2 : adN a b z < 4294967296 := by omega
  have CS := Lib.hid (fun (c' : Mac) wk (hk : MSt base T M mv x z fl c' wk) => set_any d hd (adN a b z) wk hk hnb.1 hn2)
  have xds : ∀ wk, (∃ c', MSt base T M mv x z fl c' wk) → wk.cell? ⟨T, 2, none⟩ = some (.int .i64 (d : Int)) := fun wk ⟨c', h'⟩ => by have := h'.xd; rw [hxd] at this; exact this
  have lts : ∀ wk, (∃ c', MSt base T M mv x z fl c' wk) → T < wk.heap.size := fun wk ⟨c', h'⟩ => h'.ltT
  generalize adN a b z = n at *
  generalize adO a b z = o at *
  clear h hpw hnb hn2 ha a0 a1 hxd
  go_enter Try.func105, Try.ntmps105
  go_upto_region 4 with ((go_at_call 103; with_reducible refine (CG.out).mono ?_); rintro e w1 ⟨rfl, n1, rfl⟩; have hm0 := HS.out.drewN n1)
  refine wp_region_held_drew (S := (fun wk => ∃ c', MSt base T M mv x z fl c' wk)) (by kernel_rfl) ?_ (fun hHeld => ?_)
  · (first | exact ⟨_, by assumption⟩ | exact ⟨_, MSt.drew (by assumption)⟩)
  refine tk 0 ?_; refine tk 1 ?_; refine tk 2 ?_; refine tk 3 ?_; refine tk 4 ?_; refine tk 5 ?_; refine tk 6 ?_; refine tk 7 ?_
  refine tk 8 ?_
  refine rd1 9 (fun K hK => ?_)
  (go_simp; first | ((go_at_call 131; with_reducible refine (CA.out _ (HS.out.drewN _)).mono ?_); rintro e w2 ⟨rfl, hm1, hc1⟩) | ((go_at_call 102; with_reducible refine (CS.out _ _ hm1).mono ?_); rintro e w3 ⟨rfl, hm2, hc2⟩))
  refine hK.out _ _ ?_ (fun hHeld => ?_)
  · (first | exact ⟨_, by assumption⟩ | exact ⟨_, MSt.drew (by assumption)⟩)
  clear hK K
  try go_frame
  refine rd1 10 (fun K hK => ?_)
  (go_simp; first | ((go_at_call 131; with_reducible refine (CA.out _ (HS.out.drewN _)).mono ?_); rintro e w2 ⟨rfl, hm1, hc1⟩) | ((go_at_call 102; with_reducible refine (CS.out _ _ hm1).mono ?_); rintro e w3 ⟨rfl, hm2, hc2⟩))
  refine hK.out _ _ ?_ (fun hHeld => ?_)
  · (first | exact ⟨_, by assumption⟩ | exact ⟨_, MSt.drew (by assumption)⟩)
  clear hK K
  try go_frame
  refine wpAnyH_done (by kernel_rfl) ?_ _
  go_wp2_with fail
  exact bodyPost_end (v := .tuple #[]) (by simp [results, Try.results105, go_sem]) rfl ⟨rfl, hm2, (((Ch.refl _ _ _ _).drewN (n1 + 1)).trans hc1).trans hc2⟩
set_option maxRecDepth 100000 in
set_option maxHeartbeats 1000000 in
theorem two_15 (d : Nat) (hd : d < 32) (a b : Int) (w : World) (h : MSt base T M mv x z fl c w) (hxd : x.d = (d : Int)) (ha : c.r.getD d 0 % pwZ z = a) (b0 : 0 ≤ b) (b1 : b < 4294967296) : Calls Try.prog 105 #[.pointer (some ⟨T, 0, none⟩), .int .i64 15, .int .u32 b] w fun e w' => e = .returned (.tuple #[]) ∧ MSt base T M mv x z fl { c with r := c.r.set d (wrR (c.r.getD d 0) (orW a b) z), f := rsF (orW a b) z 0 } w' ∧ Ch T M mv w w' := by
  have hpw := pw_bd h.zz
  have a0 : 0 ≤ a := by rw [← ha]; exact Int.emod_nonneg _ (by omega)
  have a1 : a < 4294967296 := by rw [← ha]; have := Int.emod_lt_of_pos (c.r.getD d 0) hpw.1; omega
  have x1 := h.xd
  rw [hxd] at x1
  have hT := h.ltT
  have CG := Lib.hid (get_any d hd w h)
  rw [ha] at CG
  have HS := Lib.hid h
  have hnb := orW_bd a0 a1 b0 b1
  have hbit : bits .or .u32 a b = orW a b := u32_or a b a0 a1 b0 b1
  have CA := Lib.hid (fun wk (hk : MSt base T M mv x z fl c wk) => logic_any (orW a b) wk hk hnb.1 hnb.2)
  have hn2 : orW a b < 4294967296 := by omega
  have CS := Lib.hid (fun (c' : Mac) wk (hk : MSt base T M mv x z fl c' wk) => set_any d hd (orW a b) wk hk hnb.1 hn2)
  have xds : ∀ wk, (∃ c', MSt base T M mv x z fl c' wk) → wk.cell? ⟨T, 2, none⟩ = some (.int .i64 (d : Int)) := fun wk ⟨c', h'⟩ => by have := h'.xd; rw [hxd] at this; exact this
  have lts : ∀ wk, (∃ c', MSt base T M mv x z fl c' wk) → T < wk.heap.size := fun wk ⟨c', h'⟩ => h'.ltT
  generalize orW a b = n at *
  clear h hpw hnb hn2 ha a0 a1 hxd
  go_enter Try.func105, Try.ntmps105
  go_upto_region 13 with ((go_at_call 103; with_reducible refine (CG.out).mono ?_); rintro e w1 ⟨rfl, n1, rfl⟩; have hm0 := HS.out.drewN n1)
  refine wp_region_held_drew (S := (fun wk => ∃ c', MSt base T M mv x z fl c' wk)) (by kernel_rfl) ?_ (fun hHeld => ?_)
  · (first | exact ⟨_, by assumption⟩ | exact ⟨_, MSt.drew (by assumption)⟩)
  refine tk 0 ?_; refine tk 1 ?_; refine tk 2 ?_; refine tk 3 ?_; refine tk 4 ?_; refine tk 5 ?_; refine tk 6 ?_; refine tk 7 ?_
  refine tk 8 ?_; refine tk 9 ?_
  refine rd1 10 (fun K hK => ?_)
  (go_simp; first | ((go_at_call 132; with_reducible refine (CA.out _ (HS.out.drewN _)).mono ?_); rintro e w2 ⟨rfl, hm1, hc1⟩) | ((go_at_call 102; with_reducible refine (CS.out _ _ hm1).mono ?_); rintro e w3 ⟨rfl, hm2, hc2⟩))
  refine hK.out _ _ ?_ (fun hHeld => ?_)
  · (first | exact ⟨_, by assumption⟩ | exact ⟨_, MSt.drew (by assumption)⟩)
  clear hK K
  try go_frame
  refine rd1 11 (fun K hK => ?_)
  (go_simp; first | ((go_at_call 132; with_reducible refine (CA.out _ (HS.out.drewN _)).mono ?_); rintro e w2 ⟨rfl, hm1, hc1⟩) | ((go_at_call 102; with_reducible refine (CS.out _ _ hm1).mono ?_); rintro e w3 ⟨rfl, hm2, hc2⟩))
  refine hK.out _ _ ?_ (fun hHeld => ?_)
  · (first | exact ⟨_, by assumption⟩ | exact ⟨_, MSt.drew (by assumption)⟩)
  clear hK K
  try go_frame
  refine wpAnyH_done (by kernel_rfl) ?_ _
  go_wp2_with fail
  exact bodyPost_end (v := .tuple #[]) (by simp [results, Try.results105, go_sem]) rfl ⟨rfl, hm2, (((Ch.refl _ _ _ _).drewN (n1 + 1)).trans hc1).trans hc2⟩
set_option maxRecDepth 100000 in
set_option maxHeartbeats 1000000 in
theorem two_16 (d : Nat) (hd : d < 32) (a b : Int) (w : World) (h : MSt base T M mv x z fl c w) (hxd : x.d = (d : Int)) (ha : c.r.getD d 0 % pwZ z = a) (b0 : 0 ≤ b) (b1 : b < 4294967296) : Calls Try.prog 105 #[.pointer (some ⟨T, 0, none⟩), .int .i64 16, .int .u32 b] w fun e w' => e = .returned (.tuple #[]) ∧ MSt base T M mv x z fl { c with r := c.r.set d (wrR (c.r.getD d 0) (anW a b) z), f := rsF (anW a b) z 0 } w' ∧ Ch T M mv w w' := by
  have hpw := pw_bd h.zz
  have a0 : 0 ≤ a := by rw [← ha]; exact Int.emod_nonneg _ (by omega)
  have a1 : a < 4294967296 := by rw [← ha]; have := Int.emod_lt_of_pos (c.r.getD d 0) hpw.1; omega
  have x1 := h.xd
  rw [hxd] at x1
  have hT := h.ltT
  have CG := Lib.hid (get_any d hd w h)
  rw [ha] at CG
  have HS := Lib.hid h
  have hnb := anW_bd a0 a1 b0 b1
  have hbit : bits .and .u32 a b = anW a b := u32_and a b a0 a1 b0 b1
  have CA := Lib.hid (fun wk (hk : MSt base T M mv x z fl c wk) => logic_any (anW a b) wk hk hnb.1 hnb.2)
  have hn2 : anW a b < 4294967296 := by omega
  have CS := Lib.hid (fun (c' : Mac) wk (hk : MSt base T M mv x z fl c' wk) => set_any d hd (anW a b) wk hk hnb.1 hn2)
  have xds : ∀ wk, (∃ c', MSt base T M mv x z fl c' wk) → wk.cell? ⟨T, 2, none⟩ = some (.int .i64 (d : Int)) := fun wk ⟨c', h'⟩ => by have := h'.xd; rw [hxd] at this; exact this
  have lts : ∀ wk, (∃ c', MSt base T M mv x z fl c' wk) → T < wk.heap.size := fun wk ⟨c', h'⟩ => h'.ltT
  generalize anW a b = n at *
  clear h hpw hnb hn2 ha a0 a1 hxd
  go_enter Try.func105, Try.ntmps105
  go_upto_region 16 with ((go_at_call 103; with_reducible refine (CG.out).mono ?_); rintro e w1 ⟨rfl, n1, rfl⟩; have hm0 := HS.out.drewN n1)
  refine wp_region_held_drew (S := (fun wk => ∃ c', MSt base T M mv x z fl c' wk)) (by kernel_rfl) ?_ (fun hHeld => ?_)
  · (first | exact ⟨_, by assumption⟩ | exact ⟨_, MSt.drew (by assumption)⟩)
  refine tk 0 ?_; refine tk 1 ?_; refine tk 2 ?_; refine tk 3 ?_; refine tk 4 ?_; refine tk 5 ?_; refine tk 6 ?_; refine tk 7 ?_
  refine tk 8 ?_; refine tk 9 ?_
  refine rd1 10 (fun K hK => ?_)
  (go_simp; first | ((go_at_call 132; with_reducible refine (CA.out _ (HS.out.drewN _)).mono ?_); rintro e w2 ⟨rfl, hm1, hc1⟩) | ((go_at_call 102; with_reducible refine (CS.out _ _ hm1).mono ?_); rintro e w3 ⟨rfl, hm2, hc2⟩))
  refine hK.out _ _ ?_ (fun hHeld => ?_)
  · (first | exact ⟨_, by assumption⟩ | exact ⟨_, MSt.drew (by assumption)⟩)
  clear hK K
  try go_frame
  refine rd1 11 (fun K hK => ?_)
  (go_simp; first | ((go_at_call 132; with_reducible refine (CA.out _ (HS.out.drewN _)).mono ?_); rintro e w2 ⟨rfl, hm1, hc1⟩) | ((go_at_call 102; with_reducible refine (CS.out _ _ hm1).mono ?_); rintro e w3 ⟨rfl, hm2, hc2⟩))
  refine hK.out _ _ ?_ (fun hHeld => ?_)
  · (first | exact ⟨_, by assumption⟩ | exact ⟨_, MSt.drew (by assumption)⟩)
  clear hK K
  try go_frame
  refine wpAnyH_done (by kernel_rfl) ?_ _
  go_wp2_with fail
  exact bodyPost_end (v := .tuple #[]) (by simp [results, Try.results105, go_sem]) rfl ⟨rfl, hm2, (((Ch.refl _ _ _ _).drewN (n1 + 1)).trans hc1).trans hc2⟩
set_option maxRecDepth 100000 in
set_option maxHeartbeats 1000000 in
theorem two_17 (d : Nat) (hd : d < 32) (a b : Int) (w : World) (h : MSt base T M mv x z fl c w) (hxd : x.d = (d : Int)) (ha : c.r.getD d 0 % pwZ z = a) (b0 : 0 ≤ b) (b1 : b < 4294967296) : Calls Try.prog 105 #[.pointer (some ⟨T, 0, none⟩), .int .i64 17, .int .u32 b] w fun e w' => e = .returned (.tuple #[]) ∧ MSt base T M mv x z fl { c with r := c.r.set d (wrR (c.r.getD d 0) (suN a b z) z), f := rsF (suN a b z) z (suO a b z) } w' ∧ Ch T M mv w w' := by
  have hpw := pw_bd h.zz
  have a0 : 0 ≤ a := by rw [← ha]; exact Int.emod_nonneg _ (by omega)
  have a1 : a < 4294967296 := by rw [← ha]; have := Int.emod_lt_of_pos (c.r.getD d 0) hpw.1; omega
  have x1 := h.xd
  rw [hxd] at x1
  have hT := h.ltT
  have CG := Lib.hid (get_any d hd w h)
  rw [ha] at CG
  have HS := Lib.hid h
  have hnb := suN_bd (a := a) (b := b) h.zz
  have CA := Lib.hid (fun wk (hk : MSt base T M mv x z fl c wk) => sub_any a b wk hk a0 a1 b0 b1)
  have hn2 : suN a b z < 4294967296 := by omega
  have CS := Lib.hid (fun (c' : Mac) wk (hk : MSt base T M mv x z fl c' wk) => set_any d hd (suN a b z) wk hk hnb.1 hn2)
  have xds : ∀ wk, (∃ c', MSt base T M mv x z fl c' wk) → wk.cell? ⟨T, 2, none⟩ = some (.int .i64 (d : Int)) := fun wk ⟨c', h'⟩ => by have := h'.xd; rw [hxd] at this; exact this
  have lts : ∀ wk, (∃ c', MSt base T M mv x z fl c' wk) → T < wk.heap.size := fun wk ⟨c', h'⟩ => h'.ltT
  generalize suN a b z = n at *
  generalize suO a b z = o at *
  clear h hpw hnb hn2 ha a0 a1 hxd
  go_enter Try.func105, Try.ntmps105
  go_upto_region 7 with ((go_at_call 103; with_reducible refine (CG.out).mono ?_); rintro e w1 ⟨rfl, n1, rfl⟩; have hm0 := HS.out.drewN n1)
  refine wp_region_held_drew (S := (fun wk => ∃ c', MSt base T M mv x z fl c' wk)) (by kernel_rfl) ?_ (fun hHeld => ?_)
  · (first | exact ⟨_, by assumption⟩ | exact ⟨_, MSt.drew (by assumption)⟩)
  refine tk 0 ?_; refine tk 1 ?_; refine tk 2 ?_; refine tk 3 ?_; refine tk 4 ?_; refine tk 5 ?_; refine tk 6 ?_; refine tk 7 ?_
  refine tk 8 ?_
  refine rd1 9 (fun K hK => ?_)
  (go_simp; first | ((go_at_call 108; with_reducible refine (CA.out _ (HS.out.drewN _)).mono ?_); rintro e w2 ⟨rfl, hm1, hc1⟩) | ((go_at_call 102; with_reducible refine (CS.out _ _ hm1).mono ?_); rintro e w3 ⟨rfl, hm2, hc2⟩))
  refine hK.out _ _ ?_ (fun hHeld => ?_)
  · (first | exact ⟨_, by assumption⟩ | exact ⟨_, MSt.drew (by assumption)⟩)
  clear hK K
  try go_frame
  refine rd1 10 (fun K hK => ?_)
  (go_simp; first | ((go_at_call 108; with_reducible refine (CA.out _ (HS.out.drewN _)).mono ?_); rintro e w2 ⟨rfl, hm1, hc1⟩) | ((go_at_call 102; with_reducible refine (CS.out _ _ hm1).mono ?_); rintro e w3 ⟨rfl, hm2, hc2⟩))
  refine hK.out _ _ ?_ (fun hHeld => ?_)
  · (first | exact ⟨_, by assumption⟩ | exact ⟨_, MSt.drew (by assumption)⟩)
  clear hK K
  try go_frame
  refine wpAnyH_done (by kernel_rfl) ?_ _
  go_wp2_with fail
  exact bodyPost_end (v := .tuple #[]) (by simp [results, Try.results105, go_sem]) rfl ⟨rfl, hm2, (((Ch.refl _ _ _ _).drewN (n1 + 1)).trans hc1).trans hc2⟩
set_option maxRecDepth 100000 in
set_option maxHeartbeats 1000000 in
theorem two_18 (d : Nat) (hd : d < 32) (a b : Int) (w : World) (h : MSt base T M mv x z fl c w) (hxd : x.d = (d : Int)) (ha : c.r.getD d 0 % pwZ z = a) (b0 : 0 ≤ b) (b1 : b < 4294967296) : Calls Try.prog 105 #[.pointer (some ⟨T, 0, none⟩), .int .i64 18, .int .u32 b] w fun e w' => e = .returned (.tuple #[]) ∧ MSt base T M mv x z fl { c with r := c.r.set d (wrR (c.r.getD d 0) (xoW a b) z), f := rsF (xoW a b) z 0 } w' ∧ Ch T M mv w w' := by
  have hpw := pw_bd h.zz
  have a0 : 0 ≤ a := by rw [← ha]; exact Int.emod_nonneg _ (by omega)
  have a1 : a < 4294967296 := by rw [← ha]; have := Int.emod_lt_of_pos (c.r.getD d 0) hpw.1; omega
  have x1 := h.xd
  rw [hxd] at x1
  have hT := h.ltT
  have CG := Lib.hid (get_any d hd w h)
  rw [ha] at CG
  have HS := Lib.hid h
  have hnb := xoW_bd a0 a1 b0 b1
  have hbit : bits .xor .u32 a b = xoW a b := u32_xor a b a0 a1 b0 b1
  have CA := Lib.hid (fun wk (hk : MSt base T M mv x z fl c wk) => logic_any (xoW a b) wk hk hnb.1 hnb.2)
  have hn2 : xoW a b < 4294967296 := by omega
  have CS := Lib.hid (fun (c' : Mac) wk (hk : MSt base T M mv x z fl c' wk) => set_any d hd (xoW a b) wk hk hnb.1 hn2)
  have xds : ∀ wk, (∃ c', MSt base T M mv x z fl c' wk) → wk.cell? ⟨T, 2, none⟩ = some (.int .i64 (d : Int)) := fun wk ⟨c', h'⟩ => by have := h'.xd; rw [hxd] at this; exact this
  have lts : ∀ wk, (∃ c', MSt base T M mv x z fl c' wk) → T < wk.heap.size := fun wk ⟨c', h'⟩ => h'.ltT
  generalize xoW a b = n at *
  clear h hpw hnb hn2 ha a0 a1 hxd
  go_enter Try.func105, Try.ntmps105
  go_upto_region 19 with ((go_at_call 103; with_reducible refine (CG.out).mono ?_); rintro e w1 ⟨rfl, n1, rfl⟩; have hm0 := HS.out.drewN n1)
  refine wp_region_held_drew (S := (fun wk => ∃ c', MSt base T M mv x z fl c' wk)) (by kernel_rfl) ?_ (fun hHeld => ?_)
  · (first | exact ⟨_, by assumption⟩ | exact ⟨_, MSt.drew (by assumption)⟩)
  refine tk 0 ?_; refine tk 1 ?_; refine tk 2 ?_; refine tk 3 ?_; refine tk 4 ?_; refine tk 5 ?_; refine tk 6 ?_; refine tk 7 ?_
  refine tk 8 ?_; refine tk 9 ?_
  refine rd1 10 (fun K hK => ?_)
  (go_simp; first | ((go_at_call 132; with_reducible refine (CA.out _ (HS.out.drewN _)).mono ?_); rintro e w2 ⟨rfl, hm1, hc1⟩) | ((go_at_call 102; with_reducible refine (CS.out _ _ hm1).mono ?_); rintro e w3 ⟨rfl, hm2, hc2⟩))
  refine hK.out _ _ ?_ (fun hHeld => ?_)
  · (first | exact ⟨_, by assumption⟩ | exact ⟨_, MSt.drew (by assumption)⟩)
  clear hK K
  try go_frame
  refine rd1 11 (fun K hK => ?_)
  (go_simp; first | ((go_at_call 132; with_reducible refine (CA.out _ (HS.out.drewN _)).mono ?_); rintro e w2 ⟨rfl, hm1, hc1⟩) | ((go_at_call 102; with_reducible refine (CS.out _ _ hm1).mono ?_); rintro e w3 ⟨rfl, hm2, hc2⟩))
  refine hK.out _ _ ?_ (fun hHeld => ?_)
  · (first | exact ⟨_, by assumption⟩ | exact ⟨_, MSt.drew (by assumption)⟩)
  clear hK K
  try go_frame
  refine wpAnyH_done (by kernel_rfl) ?_ _
  go_wp2_with fail
  exact bodyPost_end (v := .tuple #[]) (by simp [results, Try.results105, go_sem]) rfl ⟨rfl, hm2, (((Ch.refl _ _ _ _).drewN (n1 + 1)).trans hc1).trans hc2⟩
set_option maxRecDepth 100000 in
set_option maxHeartbeats 1000000 in
theorem two_19 (d : Nat) (hd : d < 32) (a b : Int) (w : World) (h : MSt base T M mv x z fl c w) (hxd : x.d = (d : Int)) (ha : c.r.getD d 0 % pwZ z = a) (b0 : 0 ≤ b) (b1 : b < 4294967296) : Calls Try.prog 105 #[.pointer (some ⟨T, 0, none⟩), .int .i64 19, .int .u32 b] w fun e w' => e = .returned (.tuple #[]) ∧ MSt base T M mv x z fl { c with f := rsF (suN a b z) z (suO a b z) } w' ∧ Ch T M mv w w' := by
  have hpw := pw_bd h.zz
  have a0 : 0 ≤ a := by rw [← ha]; exact Int.emod_nonneg _ (by omega)
  have a1 : a < 4294967296 := by rw [← ha]; have := Int.emod_lt_of_pos (c.r.getD d 0) hpw.1; omega
  have x1 := h.xd
  rw [hxd] at x1
  have hT := h.ltT
  have CG := Lib.hid (get_any d hd w h)
  rw [ha] at CG
  have HS := Lib.hid h
  have hnb := suN_bd (a := a) (b := b) h.zz
  have CA := Lib.hid (fun wk (hk : MSt base T M mv x z fl c wk) => sub_any a b wk hk a0 a1 b0 b1)
  have hn2 : suN a b z < 4294967296 := by omega
  generalize suN a b z = n at *
  generalize suO a b z = o at *
  clear h hpw hnb hn2 ha a0 a1 hxd
  go_enter Try.func105, Try.ntmps105
  go_wp2_with (first | ((go_at_call 103; with_reducible refine (CG.out).mono ?_); rintro e w1 ⟨rfl, n1, rfl⟩; have hm0 := HS.out.drewN n1) | ((go_at_call 108; with_reducible refine (CA.out _ (HS.out.drewN _)).mono ?_); rintro e w2 ⟨rfl, hm1, hc1⟩))
  exact bodyPost_end (v := .tuple #[]) (by simp [results, Try.results105, go_sem]) rfl ⟨rfl, hm1, ((Ch.refl _ _ _ _).drewN n1).trans hc1⟩
end
end Go.Proofs.Ytdojafpjipcbjaa
