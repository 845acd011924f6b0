/- Walks of the reference's counts, operation by operation and size by size. -/
import Derived.Deep.CutRange
import Derived.Test.YtdojafpjipcbjaaJ12
import Derived.Test.YtdojafpjipcbjaaJ16
namespace Go.Proofs.Ytdojafpjipcbjaa
open Go.RowKit
set_option linter.unusedVariables false
set_option linter.unusedSimpArgs false
theorem qMi15 {p : Prop} (h : p := by
  go_wp2_with (first | ((go_at_call 64; first | (with_reducible refine (CisRd.out _).mono ?_) | (with_reducible refine (CisRs.out _).mono ?_)); rintro e w' ⟨rfl, rfl⟩) | ((go_at_call 68; with_reducible refine (CinZ.out _).mono ?_); rintro e w' ⟨rfl, rfl⟩) | ((go_at_call 71; with_reducible refine (CDI.out _).mono ?_); rintro e w' ⟨rfl, rfl⟩) | ((go_at_call 60; with_reducible refine (CSG.out _).mono ?_); rintro e w' ⟨rfl, rfl⟩) | ((go_at_call 66; with_reducible refine (CMR.out _).mono ?_); rintro e w' ⟨rfl, rfl⟩))
  clear hW0
  refine wp_region_held_drew (S := (fun wk => Since W0 wk)) (by kernel_rfl) kp (fun hHeld => ?_)
  refine tk 0 ?_; refine tk 1 ?_; refine tk 2 ?_; refine tk 5 ?_; refine tk 6 ?_; refine tk 7 ?_; refine tk 8 ?_
  refine tk 9 ?_
  refine rd1 3 (fun K hK => ?_)
  (go_simp; first | ((go_at_call 66; with_reducible refine (CMR.out _).mono ?_); rintro e w' ⟨rfl, rfl⟩) | ((go_at_call 67; with_reducible refine (CY.out _ kp).mono ?_); rintro e w2 ⟨v2, rfl, hr2, hb2, hs2⟩; have HR2 := Lib.hid hr2; clear hr2))
  refine hK.out _ _ kp (fun hHeld => ?_); clear hK K; try go_frame
  refine wpAnyH_ready (rs := [4, 10]) (by kernel_rfl) (by simp) ?_
  refine AllReadyH_consL 4 rfl (fun K hK => ?_) ?_
  · go_simp
    refine hK.out _ _ kp (fun hHeld => ?_); clear hK K; try go_frame
    refine rd1 10 (fun K hK => ?_)
    (go_simp; first | ((go_at_call 66; with_reducible refine (CMR.out _).mono ?_); rintro e w' ⟨rfl, rfl⟩) | ((go_at_call 67; with_reducible refine (CY.out _ kp).mono ?_); rintro e w2 ⟨v2, rfl, hr2, hb2, hs2⟩; have HR2 := Lib.hid hr2; clear hr2))
    refine hK.out _ _ kp (fun hHeld => ?_); clear hK K; try go_frame
    refine rd1 11 (fun K hK => ?_)
    first | (refine ap [129, mrB 7 d] (RowI.below (rl2 129 (mrB 7 d)) hb2) (leB i 4) (HR2.out.ints HY5.out) HPOS.out HLEN.out hs2.size (fun v9 w9 HR9 hb9 hs9 => ?_)) | (refine ap [129, mrB 7 d] (RowI.below (rl2d 129 (mrB 7 d)) hb2) (leB i 4) (HR2.out.ints HY5.out) HPOS.out HLEN.out hs2.size (fun v9 w9 HR9 hb9 hs9 => ?_))
    exact qMi2
  refine AllReadyH_consL 10 rfl (fun K hK => ?_) ?_
  · (go_simp; first | ((go_at_call 66; with_reducible refine (CMR.out _).mono ?_); rintro e w' ⟨rfl, rfl⟩) | ((go_at_call 67; with_reducible refine (CY.out _ kp).mono ?_); rintro e w2 ⟨v2, rfl, hr2, hb2, hs2⟩; have HR2 := Lib.hid hr2; clear hr2))
    refine hK.out _ _ kp (fun hHeld => ?_); clear hK K; try go_frame
    refine rd1 4 (fun K hK => ?_)
    go_simp
    refine hK.out _ _ kp (fun hHeld => ?_); clear hK K; try go_frame
    refine rd1 11 (fun K hK => ?_)
    first | (refine ap [129, mrB 7 d] (rl2 129 (mrB 7 d)) (leB i 4) ((HR2.out.below bl1).ints HY5.out) HPOS.out HLEN.out (Nat.le_trans hs2.size (by simp)) (fun v9 w9 HR9 hb9 hs9 => ?_)) | (refine ap [129, mrB 7 d] (rl2d 129 (mrB 7 d)) (leB i 4) ((HR2.out.below bl1d).ints HY5.out) HPOS.out HLEN.out (Nat.le_trans hs2.size (by simp)) (fun v9 w9 HR9 hb9 hs9 => ?_))
    exact qMi2
  exact AllReadyH.nil) : p := h
theorem qMi14 {p : Prop} (h : p := by
  go_wp2_with (first | ((go_at_call 64; first | (with_reducible refine (CisRd.out _).mono ?_) | (with_reducible refine (CisRs.out _).mono ?_)); rintro e w' ⟨rfl, rfl⟩) | ((go_at_call 68; with_reducible refine (CinZ.out _).mono ?_); rintro e w' ⟨rfl, rfl⟩) | ((go_at_call 71; with_reducible refine (CDI.out _).mono ?_); rintro e w' ⟨rfl, rfl⟩) | ((go_at_call 60; with_reducible refine (CSG.out _).mono ?_); rintro e w' ⟨rfl, rfl⟩) | ((go_at_call 66; with_reducible refine (CMR.out _).mono ?_); rintro e w' ⟨rfl, rfl⟩))
  clear hW0
  refine wp_region_held_drew (S := (fun wk => Since W0 wk)) (by kernel_rfl) kp (fun hHeld => ?_)
  refine tk 0 ?_; refine tk 1 ?_; refine tk 2 ?_; refine tk 5 ?_; refine tk 6 ?_; refine tk 7 ?_; refine tk 8 ?_
  refine tk 9 ?_
  refine rd1 3 (fun K hK => ?_)
  (go_simp; first | ((go_at_call 66; with_reducible refine (CMR.out _).mono ?_); rintro e w' ⟨rfl, rfl⟩) | ((go_at_call 67; with_reducible refine (CY.out _ kp).mono ?_); rintro e w2 ⟨v2, rfl, hr2, hb2, hs2⟩; have HR2 := Lib.hid hr2; clear hr2))
  refine hK.out _ _ kp (fun hHeld => ?_); clear hK K; try go_frame
  refine wpAnyH_ready (rs := [4, 10]) (by kernel_rfl) (by simp) ?_
  refine AllReadyH_consL 4 rfl (fun K hK => ?_) ?_
  · go_simp
    refine hK.out _ _ kp (fun hHeld => ?_); clear hK K; try go_frame
    refine rd1 10 (fun K hK => ?_)
    (go_simp; first | ((go_at_call 66; with_reducible refine (CMR.out _).mono ?_); rintro e w' ⟨rfl, rfl⟩) | ((go_at_call 67; with_reducible refine (CY.out _ kp).mono ?_); rintro e w2 ⟨v2, rfl, hr2, hb2, hs2⟩; have HR2 := Lib.hid hr2; clear hr2))
    refine hK.out _ _ kp (fun hHeld => ?_); clear hK K; try go_frame
    refine rd1 11 (fun K hK => ?_)
    first | (refine ap [129, mrB 7 d] (RowI.below (rl2 129 (mrB 7 d)) hb2) (leB i 2) (HR2.out.ints HY5.out) HPOS.out HLEN.out hs2.size (fun v9 w9 HR9 hb9 hs9 => ?_)) | (refine ap [129, mrB 7 d] (RowI.below (rl2d 129 (mrB 7 d)) hb2) (leB i 2) (HR2.out.ints HY5.out) HPOS.out HLEN.out hs2.size (fun v9 w9 HR9 hb9 hs9 => ?_))
    exact qMi2
  refine AllReadyH_consL 10 rfl (fun K hK => ?_) ?_
  · (go_simp; first | ((go_at_call 66; with_reducible refine (CMR.out _).mono ?_); rintro e w' ⟨rfl, rfl⟩) | ((go_at_call 67; with_reducible refine (CY.out _ kp).mono ?_); rintro e w2 ⟨v2, rfl, hr2, hb2, hs2⟩; have HR2 := Lib.hid hr2; clear hr2))
    refine hK.out _ _ kp (fun hHeld => ?_); clear hK K; try go_frame
    refine rd1 4 (fun K hK => ?_)
    go_simp
    refine hK.out _ _ kp (fun hHeld => ?_); clear hK K; try go_frame
    refine rd1 11 (fun K hK => ?_)
    first | (refine ap [129, mrB 7 d] (rl2 129 (mrB 7 d)) (leB i 2) ((HR2.out.below bl1).ints HY5.out) HPOS.out HLEN.out (Nat.le_trans hs2.size (by simp)) (fun v9 w9 HR9 hb9 hs9 => ?_)) | (refine ap [129, mrB 7 d] (rl2d 129 (mrB 7 d)) (leB i 2) ((HR2.out.below bl1d).ints HY5.out) HPOS.out HLEN.out (Nat.le_trans hs2.size (by simp)) (fun v9 w9 HR9 hb9 hs9 => ?_))
    exact qMi2
  exact AllReadyH.nil) : p := h
theorem qMi13 {p : Prop} (h : p := by
  go_wp2_with (first | ((go_at_call 64; first | (with_reducible refine (CisRd.out _).mono ?_) | (with_reducible refine (CisRs.out _).mono ?_)); rintro e w' ⟨rfl, rfl⟩) | ((go_at_call 68; with_reducible refine (CinZ.out _).mono ?_); rintro e w' ⟨rfl, rfl⟩) | ((go_at_call 71; with_reducible refine (CDI.out _).mono ?_); rintro e w' ⟨rfl, rfl⟩) | ((go_at_call 60; with_reducible refine (CSG.out _).mono ?_); rintro e w' ⟨rfl, rfl⟩) | ((go_at_call 66; with_reducible refine (CMR.out _).mono ?_); rintro e w' ⟨rfl, rfl⟩))
  clear hW0
  refine wp_region_held_drew (S := (fun wk => Since W0 wk)) (by kernel_rfl) kp (fun hHeld => ?_)
  refine tk 0 ?_; refine tk 1 ?_; refine tk 2 ?_; refine tk 5 ?_; refine tk 6 ?_; refine tk 7 ?_; refine tk 8 ?_
  refine tk 9 ?_
  refine rd1 3 (fun K hK => ?_)
  (go_simp; first | ((go_at_call 66; with_reducible refine (CMR.out _).mono ?_); rintro e w' ⟨rfl, rfl⟩) | ((go_at_call 67; with_reducible refine (CY.out _ kp).mono ?_); rintro e w2 ⟨v2, rfl, hr2, hb2, hs2⟩; have HR2 := Lib.hid hr2; clear hr2))
  refine hK.out _ _ kp (fun hHeld => ?_); clear hK K; try go_frame
  refine wpAnyH_ready (rs := [4, 10]) (by kernel_rfl) (by simp) ?_
  refine AllReadyH_consL 4 rfl (fun K hK => ?_) ?_
  · go_simp
    refine hK.out _ _ kp (fun hHeld => ?_); clear hK K; try go_frame
    refine rd1 10 (fun K hK => ?_)
    (go_simp; first | ((go_at_call 66; with_reducible refine (CMR.out _).mono ?_); rintro e w' ⟨rfl, rfl⟩) | ((go_at_call 67; with_reducible refine (CY.out _ kp).mono ?_); rintro e w2 ⟨v2, rfl, hr2, hb2, hs2⟩; have HR2 := Lib.hid hr2; clear hr2))
    refine hK.out _ _ kp (fun hHeld => ?_); clear hK K; try go_frame
    refine rd1 11 (fun K hK => ?_)
    first | (refine ap [129, mrB 6 d] (RowI.below (rl2 129 (mrB 6 d)) hb2) (leB i 4) (HR2.out.ints HY5.out) HPOS.out HLEN.out hs2.size (fun v9 w9 HR9 hb9 hs9 => ?_)) | (refine ap [129, mrB 6 d] (RowI.below (rl2d 129 (mrB 6 d)) hb2) (leB i 4) (HR2.out.ints HY5.out) HPOS.out HLEN.out hs2.size (fun v9 w9 HR9 hb9 hs9 => ?_))
    exact qMi2
  refine AllReadyH_consL 10 rfl (fun K hK => ?_) ?_
  · (go_simp; first | ((go_at_call 66; with_reducible refine (CMR.out _).mono ?_); rintro e w' ⟨rfl, rfl⟩) | ((go_at_call 67; with_reducible refine (CY.out _ kp).mono ?_); rintro e w2 ⟨v2, rfl, hr2, hb2, hs2⟩; have HR2 := Lib.hid hr2; clear hr2))
    refine hK.out _ _ kp (fun hHeld => ?_); clear hK K; try go_frame
    refine rd1 4 (fun K hK => ?_)
    go_simp
    refine hK.out _ _ kp (fun hHeld => ?_); clear hK K; try go_frame
    refine rd1 11 (fun K hK => ?_)
    first | (refine ap [129, mrB 6 d] (rl2 129 (mrB 6 d)) (leB i 4) ((HR2.out.below bl1).ints HY5.out) HPOS.out HLEN.out (Nat.le_trans hs2.size (by simp)) (fun v9 w9 HR9 hb9 hs9 => ?_)) | (refine ap [129, mrB 6 d] (rl2d 129 (mrB 6 d)) (leB i 4) ((HR2.out.below bl1d).ints HY5.out) HPOS.out HLEN.out (Nat.le_trans hs2.size (by simp)) (fun v9 w9 HR9 hb9 hs9 => ?_))
    exact qMi2
  exact AllReadyH.nil) : p := h
theorem qMi12 {p : Prop} (h : p := by
  go_wp2_with (first | ((go_at_call 64; first | (with_reducible refine (CisRd.out _).mono ?_) | (with_reducible refine (CisRs.out _).mono ?_)); rintro e w' ⟨rfl, rfl⟩) | ((go_at_call 68; with_reducible refine (CinZ.out _).mono ?_); rintro e w' ⟨rfl, rfl⟩) | ((go_at_call 71; with_reducible refine (CDI.out _).mono ?_); rintro e w' ⟨rfl, rfl⟩) | ((go_at_call 60; with_reducible refine (CSG.out _).mono ?_); rintro e w' ⟨rfl, rfl⟩) | ((go_at_call 66; with_reducible refine (CMR.out _).mono ?_); rintro e w' ⟨rfl, rfl⟩))
  clear hW0
  refine wp_region_held_drew (S := (fun wk => Since W0 wk)) (by kernel_rfl) kp (fun hHeld => ?_)
  refine tk 0 ?_; refine tk 1 ?_; refine tk 2 ?_; refine tk 5 ?_; refine tk 6 ?_; refine tk 7 ?_; refine tk 8 ?_
  refine tk 9 ?_
  refine rd1 3 (fun K hK => ?_)
  (go_simp; first | ((go_at_call 66; with_reducible refine (CMR.out _).mono ?_); rintro e w' ⟨rfl, rfl⟩) | ((go_at_call 67; with_reducible refine (CY.out _ kp).mono ?_); rintro e w2 ⟨v2, rfl, hr2, hb2, hs2⟩; have HR2 := Lib.hid hr2; clear hr2))
  refine hK.out _ _ kp (fun hHeld => ?_); clear hK K; try go_frame
  refine wpAnyH_ready (rs := [4, 10]) (by kernel_rfl) (by simp) ?_
  refine AllReadyH_consL 4 rfl (fun K hK => ?_) ?_
  · go_simp
    refine hK.out _ _ kp (fun hHeld => ?_); clear hK K; try go_frame
    refine rd1 10 (fun K hK => ?_)
    (go_simp; first | ((go_at_call 66; with_reducible refine (CMR.out _).mono ?_); rintro e w' ⟨rfl, rfl⟩) | ((go_at_call 67; with_reducible refine (CY.out _ kp).mono ?_); rintro e w2 ⟨v2, rfl, hr2, hb2, hs2⟩; have HR2 := Lib.hid hr2; clear hr2))
    refine hK.out _ _ kp (fun hHeld => ?_); clear hK K; try go_frame
    refine rd1 11 (fun K hK => ?_)
    first | (refine ap [129, mrB 6 d] (RowI.below (rl2 129 (mrB 6 d)) hb2) (leB i 2) (HR2.out.ints HY5.out) HPOS.out HLEN.out hs2.size (fun v9 w9 HR9 hb9 hs9 => ?_)) | (refine ap [129, mrB 6 d] (RowI.below (rl2d 129 (mrB 6 d)) hb2) (leB i 2) (HR2.out.ints HY5.out) HPOS.out HLEN.out hs2.size (fun v9 w9 HR9 hb9 hs9 => ?_))
    exact qMi2
  refine AllReadyH_consL 10 rfl (fun K hK => ?_) ?_
  · (go_simp; first | ((go_at_call 66; with_reducible refine (CMR.out _).mono ?_); rintro e w' ⟨rfl, rfl⟩) | ((go_at_call 67; with_reducible refine (CY.out _ kp).mono ?_); rintro e w2 ⟨v2, rfl, hr2, hb2, hs2⟩; have HR2 := Lib.hid hr2; clear hr2))
    refine hK.out _ _ kp (fun hHeld => ?_); clear hK K; try go_frame
    refine rd1 4 (fun K hK => ?_)
    go_simp
    refine hK.out _ _ kp (fun hHeld => ?_); clear hK K; try go_frame
    refine rd1 11 (fun K hK => ?_)
    first | (refine ap [129, mrB 6 d] (rl2 129 (mrB 6 d)) (leB i 2) ((HR2.out.below bl1).ints HY5.out) HPOS.out HLEN.out (Nat.le_trans hs2.size (by simp)) (fun v9 w9 HR9 hb9 hs9 => ?_)) | (refine ap [129, mrB 6 d] (rl2d 129 (mrB 6 d)) (leB i 2) ((HR2.out.below bl1d).ints HY5.out) HPOS.out HLEN.out (Nat.le_trans hs2.size (by simp)) (fun v9 w9 HR9 hb9 hs9 => ?_))
    exact qMi2
  exact AllReadyH.nil) : p := h
theorem qMi11 {p : Prop} (h : p := by
  go_wp2_with (first | ((go_at_call 64; first | (with_reducible refine (CisRd.out _).mono ?_) | (with_reducible refine (CisRs.out _).mono ?_)); rintro e w' ⟨rfl, rfl⟩) | ((go_at_call 68; with_reducible refine (CinZ.out _).mono ?_); rintro e w' ⟨rfl, rfl⟩) | ((go_at_call 71; with_reducible refine (CDI.out _).mono ?_); rintro e w' ⟨rfl, rfl⟩) | ((go_at_call 60; with_reducible refine (CSG.out _).mono ?_); rintro e w' ⟨rfl, rfl⟩) | ((go_at_call 66; with_reducible refine (CMR.out _).mono ?_); rintro e w' ⟨rfl, rfl⟩))
  clear hW0
  refine wp_region_held_drew (S := (fun wk => Since W0 wk)) (by kernel_rfl) kp (fun hHeld => ?_)
  refine tk 0 ?_; refine tk 1 ?_; refine tk 2 ?_; refine tk 5 ?_; refine tk 6 ?_; refine tk 7 ?_; refine tk 8 ?_
  refine tk 9 ?_
  refine rd1 3 (fun K hK => ?_)
  (go_simp; first | ((go_at_call 66; with_reducible refine (CMR.out _).mono ?_); rintro e w' ⟨rfl, rfl⟩) | ((go_at_call 67; with_reducible refine (CY.out _ kp).mono ?_); rintro e w2 ⟨v2, rfl, hr2, hb2, hs2⟩; have HR2 := Lib.hid hr2; clear hr2))
  refine hK.out _ _ kp (fun hHeld => ?_); clear hK K; try go_frame
  refine wpAnyH_ready (rs := [4, 10]) (by kernel_rfl) (by simp) ?_
  refine AllReadyH_consL 4 rfl (fun K hK => ?_) ?_
  · go_simp
    refine hK.out _ _ kp (fun hHeld => ?_); clear hK K; try go_frame
    refine rd1 10 (fun K hK => ?_)
    (go_simp; first | ((go_at_call 66; with_reducible refine (CMR.out _).mono ?_); rintro e w' ⟨rfl, rfl⟩) | ((go_at_call 67; with_reducible refine (CY.out _ kp).mono ?_); rintro e w2 ⟨v2, rfl, hr2, hb2, hs2⟩; have HR2 := Lib.hid hr2; clear hr2))
    refine hK.out _ _ kp (fun hHeld => ?_); clear hK K; try go_frame
    refine rd1 11 (fun K hK => ?_)
    first | (refine ap [129, mrB 5 d] (RowI.below (rl2 129 (mrB 5 d)) hb2) (leB i 4) (HR2.out.ints HY5.out) HPOS.out HLEN.out hs2.size (fun v9 w9 HR9 hb9 hs9 => ?_)) | (refine ap [129, mrB 5 d] (RowI.below (rl2d 129 (mrB 5 d)) hb2) (leB i 4) (HR2.out.ints HY5.out) HPOS.out HLEN.out hs2.size (fun v9 w9 HR9 hb9 hs9 => ?_))
    exact qMi2
  refine AllReadyH_consL 10 rfl (fun K hK => ?_) ?_
  · (go_simp; first | ((go_at_call 66; with_reducible refine (CMR.out _).mono ?_); rintro e w' ⟨rfl, rfl⟩) | ((go_at_call 67; with_reducible refine (CY.out _ kp).mono ?_); rintro e w2 ⟨v2, rfl, hr2, hb2, hs2⟩; have HR2 := Lib.hid hr2; clear hr2))
    refine hK.out _ _ kp (fun hHeld => ?_); clear hK K; try go_frame
    refine rd1 4 (fun K hK => ?_)
    go_simp
    refine hK.out _ _ kp (fun hHeld => ?_); clear hK K; try go_frame
    refine rd1 11 (fun K hK => ?_)
    first | (refine ap [129, mrB 5 d] (rl2 129 (mrB 5 d)) (leB i 4) ((HR2.out.below bl1).ints HY5.out) HPOS.out HLEN.out (Nat.le_trans hs2.size (by simp)) (fun v9 w9 HR9 hb9 hs9 => ?_)) | (refine ap [129, mrB 5 d] (rl2d 129 (mrB 5 d)) (leB i 4) ((HR2.out.below bl1d).ints HY5.out) HPOS.out HLEN.out (Nat.le_trans hs2.size (by simp)) (fun v9 w9 HR9 hb9 hs9 => ?_))
    exact qMi2
  exact AllReadyH.nil) : p := h
theorem qMi10 {p : Prop} (h : p := by
  go_wp2_with (first | ((go_at_call 64; first | (with_reducible refine (CisRd.out _).mono ?_) | (with_reducible refine (CisRs.out _).mono ?_)); rintro e w' ⟨rfl, rfl⟩) | ((go_at_call 68; with_reducible refine (CinZ.out _).mono ?_); rintro e w' ⟨rfl, rfl⟩) | ((go_at_call 71; with_reducible refine (CDI.out _).mono ?_); rintro e w' ⟨rfl, rfl⟩) | ((go_at_call 60; with_reducible refine (CSG.out _).mono ?_); rintro e w' ⟨rfl, rfl⟩) | ((go_at_call 66; with_reducible refine (CMR.out _).mono ?_); rintro e w' ⟨rfl, rfl⟩))
  clear hW0
  refine wp_region_held_drew (S := (fun wk => Since W0 wk)) (by kernel_rfl) kp (fun hHeld => ?_)
  refine tk 0 ?_; refine tk 1 ?_; refine tk 2 ?_; refine tk 5 ?_; refine tk 6 ?_; refine tk 7 ?_; refine tk 8 ?_
  refine tk 9 ?_
  refine rd1 3 (fun K hK => ?_)
  (go_simp; first | ((go_at_call 66; with_reducible refine (CMR.out _).mono ?_); rintro e w' ⟨rfl, rfl⟩) | ((go_at_call 67; with_reducible refine (CY.out _ kp).mono ?_); rintro e w2 ⟨v2, rfl, hr2, hb2, hs2⟩; have HR2 := Lib.hid hr2; clear hr2))
  refine hK.out _ _ kp (fun hHeld => ?_); clear hK K; try go_frame
  refine wpAnyH_ready (rs := [4, 10]) (by kernel_rfl) (by simp) ?_
  refine AllReadyH_consL 4 rfl (fun K hK => ?_) ?_
  · go_simp
    refine hK.out _ _ kp (fun hHeld => ?_); clear hK K; try go_frame
    refine rd1 10 (fun K hK => ?_)
    (go_simp; first | ((go_at_call 66; with_reducible refine (CMR.out _).mono ?_); rintro e w' ⟨rfl, rfl⟩) | ((go_at_call 67; with_reducible refine (CY.out _ kp).mono ?_); rintro e w2 ⟨v2, rfl, hr2, hb2, hs2⟩; have HR2 := Lib.hid hr2; clear hr2))
    refine hK.out _ _ kp (fun hHeld => ?_); clear hK K; try go_frame
    refine rd1 11 (fun K hK => ?_)
    first | (refine ap [129, mrB 5 d] (RowI.below (rl2 129 (mrB 5 d)) hb2) (leB i 2) (HR2.out.ints HY5.out) HPOS.out HLEN.out hs2.size (fun v9 w9 HR9 hb9 hs9 => ?_)) | (refine ap [129, mrB 5 d] (RowI.below (rl2d 129 (mrB 5 d)) hb2) (leB i 2) (HR2.out.ints HY5.out) HPOS.out HLEN.out hs2.size (fun v9 w9 HR9 hb9 hs9 => ?_))
    exact qMi2
  refine AllReadyH_consL 10 rfl (fun K hK => ?_) ?_
  · (go_simp; first | ((go_at_call 66; with_reducible refine (CMR.out _).mono ?_); rintro e w' ⟨rfl, rfl⟩) | ((go_at_call 67; with_reducible refine (CY.out _ kp).mono ?_); rintro e w2 ⟨v2, rfl, hr2, hb2, hs2⟩; have HR2 := Lib.hid hr2; clear hr2))
    refine hK.out _ _ kp (fun hHeld => ?_); clear hK K; try go_frame
    refine rd1 4 (fun K hK => ?_)
    go_simp
    refine hK.out _ _ kp (fun hHeld => ?_); clear hK K; try go_frame
    refine rd1 11 (fun K hK => ?_)
    first | (refine ap [129, mrB 5 d] (rl2 129 (mrB 5 d)) (leB i 2) ((HR2.out.below bl1).ints HY5.out) HPOS.out HLEN.out (Nat.le_trans hs2.size (by simp)) (fun v9 w9 HR9 hb9 hs9 => ?_)) | (refine ap [129, mrB 5 d] (rl2d 129 (mrB 5 d)) (leB i 2) ((HR2.out.below bl1d).ints HY5.out) HPOS.out HLEN.out (Nat.le_trans hs2.size (by simp)) (fun v9 w9 HR9 hb9 hs9 => ?_))
    exact qMi2
  exact AllReadyH.nil) : p := h
theorem qMi9 {p : Prop} (h : p := by
  go_wp2_with (first | ((go_at_call 64; first | (with_reducible refine (CisRd.out _).mono ?_) | (with_reducible refine (CisRs.out _).mono ?_)); rintro e w' ⟨rfl, rfl⟩) | ((go_at_call 68; with_reducible refine (CinZ.out _).mono ?_); rintro e w' ⟨rfl, rfl⟩) | ((go_at_call 71; with_reducible refine (CDI.out _).mono ?_); rintro e w' ⟨rfl, rfl⟩) | ((go_at_call 60; with_reducible refine (CSG.out _).mono ?_); rintro e w' ⟨rfl, rfl⟩) | ((go_at_call 66; with_reducible refine (CMR.out _).mono ?_); rintro e w' ⟨rfl, rfl⟩))
  clear hW0
  refine wp_region_held_drew (S := (fun wk => Since W0 wk)) (by kernel_rfl) kp (fun hHeld => ?_)
  refine tk 0 ?_; refine tk 1 ?_; refine tk 2 ?_; refine tk 5 ?_; refine tk 6 ?_; refine tk 7 ?_; refine tk 8 ?_
  refine tk 9 ?_
  refine rd1 3 (fun K hK => ?_)
  (go_simp; first | ((go_at_call 66; with_reducible refine (CMR.out _).mono ?_); rintro e w' ⟨rfl, rfl⟩) | ((go_at_call 67; with_reducible refine (CY.out _ kp).mono ?_); rintro e w2 ⟨v2, rfl, hr2, hb2, hs2⟩; have HR2 := Lib.hid hr2; clear hr2))
  refine hK.out _ _ kp (fun hHeld => ?_); clear hK K; try go_frame
  refine wpAnyH_ready (rs := [4, 10]) (by kernel_rfl) (by simp) ?_
  refine AllReadyH_consL 4 rfl (fun K hK => ?_) ?_
  · go_simp
    refine hK.out _ _ kp (fun hHeld => ?_); clear hK K; try go_frame
    refine rd1 10 (fun K hK => ?_)
    (go_simp; first | ((go_at_call 66; with_reducible refine (CMR.out _).mono ?_); rintro e w' ⟨rfl, rfl⟩) | ((go_at_call 67; with_reducible refine (CY.out _ kp).mono ?_); rintro e w2 ⟨v2, rfl, hr2, hb2, hs2⟩; have HR2 := Lib.hid hr2; clear hr2))
    refine hK.out _ _ kp (fun hHeld => ?_); clear hK K; try go_frame
    refine rd1 11 (fun K hK => ?_)
    first | (refine ap [129, mrB 4 d] (RowI.below (rl2 129 (mrB 4 d)) hb2) (leB i 4) (HR2.out.ints HY5.out) HPOS.out HLEN.out hs2.size (fun v9 w9 HR9 hb9 hs9 => ?_)) | (refine ap [129, mrB 4 d] (RowI.below (rl2d 129 (mrB 4 d)) hb2) (leB i 4) (HR2.out.ints HY5.out) HPOS.out HLEN.out hs2.size (fun v9 w9 HR9 hb9 hs9 => ?_))
    exact qMi2
  refine AllReadyH_consL 10 rfl (fun K hK => ?_) ?_
  · (go_simp; first | ((go_at_call 66; with_reducible refine (CMR.out _).mono ?_); rintro e w' ⟨rfl, rfl⟩) | ((go_at_call 67; with_reducible refine (CY.out _ kp).mono ?_); rintro e w2 ⟨v2, rfl, hr2, hb2, hs2⟩; have HR2 := Lib.hid hr2; clear hr2))
    refine hK.out _ _ kp (fun hHeld => ?_); clear hK K; try go_frame
    refine rd1 4 (fun K hK => ?_)
    go_simp
    refine hK.out _ _ kp (fun hHeld => ?_); clear hK K; try go_frame
    refine rd1 11 (fun K hK => ?_)
    first | (refine ap [129, mrB 4 d] (rl2 129 (mrB 4 d)) (leB i 4) ((HR2.out.below bl1).ints HY5.out) HPOS.out HLEN.out (Nat.le_trans hs2.size (by simp)) (fun v9 w9 HR9 hb9 hs9 => ?_)) | (refine ap [129, mrB 4 d] (rl2d 129 (mrB 4 d)) (leB i 4) ((HR2.out.below bl1d).ints HY5.out) HPOS.out HLEN.out (Nat.le_trans hs2.size (by simp)) (fun v9 w9 HR9 hb9 hs9 => ?_))
    exact qMi2
  exact AllReadyH.nil) : p := h
theorem qMi8 {p : Prop} (h : p := by
  go_wp2_with (first | ((go_at_call 64; first | (with_reducible refine (CisRd.out _).mono ?_) | (with_reducible refine (CisRs.out _).mono ?_)); rintro e w' ⟨rfl, rfl⟩) | ((go_at_call 68; with_reducible refine (CinZ.out _).mono ?_); rintro e w' ⟨rfl, rfl⟩) | ((go_at_call 71; with_reducible refine (CDI.out _).mono ?_); rintro e w' ⟨rfl, rfl⟩) | ((go_at_call 60; with_reducible refine (CSG.out _).mono ?_); rintro e w' ⟨rfl, rfl⟩) | ((go_at_call 66; with_reducible refine (CMR.out _).mono ?_); rintro e w' ⟨rfl, rfl⟩))
  clear hW0
  refine wp_region_held_drew (S := (fun wk => Since W0 wk)) (by kernel_rfl) kp (fun hHeld => ?_)
  refine tk 0 ?_; refine tk 1 ?_; refine tk 2 ?_; refine tk 5 ?_; refine tk 6 ?_; refine tk 7 ?_; refine tk 8 ?_
  refine tk 9 ?_
  refine rd1 3 (fun K hK => ?_)
  (go_simp; first | ((go_at_call 66; with_reducible refine (CMR.out _).mono ?_); rintro e w' ⟨rfl, rfl⟩) | ((go_at_call 67; with_reducible refine (CY.out _ kp).mono ?_); rintro e w2 ⟨v2, rfl, hr2, hb2, hs2⟩; have HR2 := Lib.hid hr2; clear hr2))
  refine hK.out _ _ kp (fun hHeld => ?_); clear hK K; try go_frame
  refine wpAnyH_ready (rs := [4, 10]) (by kernel_rfl) (by simp) ?_
  refine AllReadyH_consL 4 rfl (fun K hK => ?_) ?_
  · go_simp
    refine hK.out _ _ kp (fun hHeld => ?_); clear hK K; try go_frame
    refine rd1 10 (fun K hK => ?_)
    (go_simp; first | ((go_at_call 66; with_reducible refine (CMR.out _).mono ?_); rintro e w' ⟨rfl, rfl⟩) | ((go_at_call 67; with_reducible refine (CY.out _ kp).mono ?_); rintro e w2 ⟨v2, rfl, hr2, hb2, hs2⟩; have HR2 := Lib.hid hr2; clear hr2))
    refine hK.out _ _ kp (fun hHeld => ?_); clear hK K; try go_frame
    refine rd1 11 (fun K hK => ?_)
    first | (refine ap [129, mrB 4 d] (RowI.below (rl2 129 (mrB 4 d)) hb2) (leB i 2) (HR2.out.ints HY5.out) HPOS.out HLEN.out hs2.size (fun v9 w9 HR9 hb9 hs9 => ?_)) | (refine ap [129, mrB 4 d] (RowI.below (rl2d 129 (mrB 4 d)) hb2) (leB i 2) (HR2.out.ints HY5.out) HPOS.out HLEN.out hs2.size (fun v9 w9 HR9 hb9 hs9 => ?_))
    exact qMi2
  refine AllReadyH_consL 10 rfl (fun K hK => ?_) ?_
  · (go_simp; first | ((go_at_call 66; with_reducible refine (CMR.out _).mono ?_); rintro e w' ⟨rfl, rfl⟩) | ((go_at_call 67; with_reducible refine (CY.out _ kp).mono ?_); rintro e w2 ⟨v2, rfl, hr2, hb2, hs2⟩; have HR2 := Lib.hid hr2; clear hr2))
    refine hK.out _ _ kp (fun hHeld => ?_); clear hK K; try go_frame
    refine rd1 4 (fun K hK => ?_)
    go_simp
    refine hK.out _ _ kp (fun hHeld => ?_); clear hK K; try go_frame
    refine rd1 11 (fun K hK => ?_)
    first | (refine ap [129, mrB 4 d] (rl2 129 (mrB 4 d)) (leB i 2) ((HR2.out.below bl1).ints HY5.out) HPOS.out HLEN.out (Nat.le_trans hs2.size (by simp)) (fun v9 w9 HR9 hb9 hs9 => ?_)) | (refine ap [129, mrB 4 d] (rl2d 129 (mrB 4 d)) (leB i 2) ((HR2.out.below bl1d).ints HY5.out) HPOS.out HLEN.out (Nat.le_trans hs2.size (by simp)) (fun v9 w9 HR9 hb9 hs9 => ?_))
    exact qMi2
  exact AllReadyH.nil) : p := h
theorem qMi7 {p : Prop} (h : p := by
  go_wp2_with (first | ((go_at_call 64; first | (with_reducible refine (CisRd.out _).mono ?_) | (with_reducible refine (CisRs.out _).mono ?_)); rintro e w' ⟨rfl, rfl⟩) | ((go_at_call 68; with_reducible refine (CinZ.out _).mono ?_); rintro e w' ⟨rfl, rfl⟩) | ((go_at_call 71; with_reducible refine (CDI.out _).mono ?_); rintro e w' ⟨rfl, rfl⟩) | ((go_at_call 60; with_reducible refine (CSG.out _).mono ?_); rintro e w' ⟨rfl, rfl⟩) | ((go_at_call 66; with_reducible refine (CMR.out _).mono ?_); rintro e w' ⟨rfl, rfl⟩))
  clear hW0
  refine wp_region_held_drew (S := (fun wk => Since W0 wk)) (by kernel_rfl) kp (fun hHeld => ?_)
  refine tk 0 ?_; refine tk 1 ?_; refine tk 2 ?_; refine tk 5 ?_; refine tk 6 ?_; refine tk 7 ?_; refine tk 8 ?_
  refine tk 9 ?_
  refine rd1 3 (fun K hK => ?_)
  (go_simp; first | ((go_at_call 66; with_reducible refine (CMR.out _).mono ?_); rintro e w' ⟨rfl, rfl⟩) | ((go_at_call 67; with_reducible refine (CY.out _ kp).mono ?_); rintro e w2 ⟨v2, rfl, hr2, hb2, hs2⟩; have HR2 := Lib.hid hr2; clear hr2))
  refine hK.out _ _ kp (fun hHeld => ?_); clear hK K; try go_frame
  refine wpAnyH_ready (rs := [4, 10]) (by kernel_rfl) (by simp) ?_
  refine AllReadyH_consL 4 rfl (fun K hK => ?_) ?_
  · go_simp
    refine hK.out _ _ kp (fun hHeld => ?_); clear hK K; try go_frame
    refine rd1 10 (fun K hK => ?_)
    (go_simp; first | ((go_at_call 66; with_reducible refine (CMR.out _).mono ?_); rintro e w' ⟨rfl, rfl⟩) | ((go_at_call 67; with_reducible refine (CY.out _ kp).mono ?_); rintro e w2 ⟨v2, rfl, hr2, hb2, hs2⟩; have HR2 := Lib.hid hr2; clear hr2))
    refine hK.out _ _ kp (fun hHeld => ?_); clear hK K; try go_frame
    refine rd1 11 (fun K hK => ?_)
    first | (refine ap [129, mrB 1 d] (RowI.below (rl2 129 (mrB 1 d)) hb2) (leB i 4) (HR2.out.ints HY5.out) HPOS.out HLEN.out hs2.size (fun v9 w9 HR9 hb9 hs9 => ?_)) | (refine ap [129, mrB 1 d] (RowI.below (rl2d 129 (mrB 1 d)) hb2) (leB i 4) (HR2.out.ints HY5.out) HPOS.out HLEN.out hs2.size (fun v9 w9 HR9 hb9 hs9 => ?_))
    exact qMi2
  refine AllReadyH_consL 10 rfl (fun K hK => ?_) ?_
  · (go_simp; first | ((go_at_call 66; with_reducible refine (CMR.out _).mono ?_); rintro e w' ⟨rfl, rfl⟩) | ((go_at_call 67; with_reducible refine (CY.out _ kp).mono ?_); rintro e w2 ⟨v2, rfl, hr2, hb2, hs2⟩; have HR2 := Lib.hid hr2; clear hr2))
    refine hK.out _ _ kp (fun hHeld => ?_); clear hK K; try go_frame
    refine rd1 4 (fun K hK => ?_)
    go_simp
    refine hK.out _ _ kp (fun hHeld => ?_); clear hK K; try go_frame
    refine rd1 11 (fun K hK => ?_)
    first | (refine ap [129, mrB 1 d] (rl2 129 (mrB 1 d)) (leB i 4) ((HR2.out.below bl1).ints HY5.out) HPOS.out HLEN.out (Nat.le_trans hs2.size (by simp)) (fun v9 w9 HR9 hb9 hs9 => ?_)) | (refine ap [129, mrB 1 d] (rl2d 129 (mrB 1 d)) (leB i 4) ((HR2.out.below bl1d).ints HY5.out) HPOS.out HLEN.out (Nat.le_trans hs2.size (by simp)) (fun v9 w9 HR9 hb9 hs9 => ?_))
    exact qMi2
  exact AllReadyH.nil) : p := h
theorem qMi6 {p : Prop} (h : p := by
  go_wp2_with (first | ((go_at_call 64; first | (with_reducible refine (CisRd.out _).mono ?_) | (with_reducible refine (CisRs.out _).mono ?_)); rintro e w' ⟨rfl, rfl⟩) | ((go_at_call 68; with_reducible refine (CinZ.out _).mono ?_); rintro e w' ⟨rfl, rfl⟩) | ((go_at_call 71; with_reducible refine (CDI.out _).mono ?_); rintro e w' ⟨rfl, rfl⟩) | ((go_at_call 60; with_reducible refine (CSG.out _).mono ?_); rintro e w' ⟨rfl, rfl⟩) | ((go_at_call 66; with_reducible refine (CMR.out _).mono ?_); rintro e w' ⟨rfl, rfl⟩))
  clear hW0
  refine wp_region_held_drew (S := (fun wk => Since W0 wk)) (by kernel_rfl) kp (fun hHeld => ?_)
  refine tk 0 ?_; refine tk 1 ?_; refine tk 2 ?_; refine tk 5 ?_; refine tk 6 ?_; refine tk 7 ?_; refine tk 8 ?_
  refine tk 9 ?_
  refine rd1 3 (fun K hK => ?_)
  (go_simp; first | ((go_at_call 66; with_reducible refine (CMR.out _).mono ?_); rintro e w' ⟨rfl, rfl⟩) | ((go_at_call 67; with_reducible refine (CY.out _ kp).mono ?_); rintro e w2 ⟨v2, rfl, hr2, hb2, hs2⟩; have HR2 := Lib.hid hr2; clear hr2))
  refine hK.out _ _ kp (fun hHeld => ?_); clear hK K; try go_frame
  refine wpAnyH_ready (rs := [4, 10]) (by kernel_rfl) (by simp) ?_
  refine AllReadyH_consL 4 rfl (fun K hK => ?_) ?_
  · go_simp
    refine hK.out _ _ kp (fun hHeld => ?_); clear hK K; try go_frame
    refine rd1 10 (fun K hK => ?_)
    (go_simp; first | ((go_at_call 66; with_reducible refine (CMR.out _).mono ?_); rintro e w' ⟨rfl, rfl⟩) | ((go_at_call 67; with_reducible refine (CY.out _ kp).mono ?_); rintro e w2 ⟨v2, rfl, hr2, hb2, hs2⟩; have HR2 := Lib.hid hr2; clear hr2))
    refine hK.out _ _ kp (fun hHeld => ?_); clear hK K; try go_frame
    refine rd1 11 (fun K hK => ?_)
    first | (refine ap [129, mrB 1 d] (RowI.below (rl2 129 (mrB 1 d)) hb2) (leB i 2) (HR2.out.ints HY5.out) HPOS.out HLEN.out hs2.size (fun v9 w9 HR9 hb9 hs9 => ?_)) | (refine ap [129, mrB 1 d] (RowI.below (rl2d 129 (mrB 1 d)) hb2) (leB i 2) (HR2.out.ints HY5.out) HPOS.out HLEN.out hs2.size (fun v9 w9 HR9 hb9 hs9 => ?_))
    exact qMi2
  refine AllReadyH_consL 10 rfl (fun K hK => ?_) ?_
  · (go_simp; first | ((go_at_call 66; with_reducible refine (CMR.out _).mono ?_); rintro e w' ⟨rfl, rfl⟩) | ((go_at_call 67; with_reducible refine (CY.out _ kp).mono ?_); rintro e w2 ⟨v2, rfl, hr2, hb2, hs2⟩; have HR2 := Lib.hid hr2; clear hr2))
    refine hK.out _ _ kp (fun hHeld => ?_); clear hK K; try go_frame
    refine rd1 4 (fun K hK => ?_)
    go_simp
    refine hK.out _ _ kp (fun hHeld => ?_); clear hK K; try go_frame
    refine rd1 11 (fun K hK => ?_)
    first | (refine ap [129, mrB 1 d] (rl2 129 (mrB 1 d)) (leB i 2) ((HR2.out.below bl1).ints HY5.out) HPOS.out HLEN.out (Nat.le_trans hs2.size (by simp)) (fun v9 w9 HR9 hb9 hs9 => ?_)) | (refine ap [129, mrB 1 d] (rl2d 129 (mrB 1 d)) (leB i 2) ((HR2.out.below bl1d).ints HY5.out) HPOS.out HLEN.out (Nat.le_trans hs2.size (by simp)) (fun v9 w9 HR9 hb9 hs9 => ?_))
    exact qMi2
  exact AllReadyH.nil) : p := h
theorem qMi5 {p : Prop} (h : p := by
  go_wp2_with (first | ((go_at_call 64; first | (with_reducible refine (CisRd.out _).mono ?_) | (with_reducible refine (CisRs.out _).mono ?_)); rintro e w' ⟨rfl, rfl⟩) | ((go_at_call 68; with_reducible refine (CinZ.out _).mono ?_); rintro e w' ⟨rfl, rfl⟩) | ((go_at_call 71; with_reducible refine (CDI.out _).mono ?_); rintro e w' ⟨rfl, rfl⟩) | ((go_at_call 60; with_reducible refine (CSG.out _).mono ?_); rintro e w' ⟨rfl, rfl⟩) | ((go_at_call 66; with_reducible refine (CMR.out _).mono ?_); rintro e w' ⟨rfl, rfl⟩))
  clear hW0
  refine wp_region_held_drew (S := (fun wk => Since W0 wk)) (by kernel_rfl) kp (fun hHeld => ?_)
  refine tk 0 ?_; refine tk 1 ?_; refine tk 2 ?_; refine tk 5 ?_; refine tk 6 ?_; refine tk 7 ?_; refine tk 8 ?_
  refine tk 9 ?_
  refine rd1 3 (fun K hK => ?_)
  (go_simp; first | ((go_at_call 66; with_reducible refine (CMR.out _).mono ?_); rintro e w' ⟨rfl, rfl⟩) | ((go_at_call 67; with_reducible refine (CY.out _ kp).mono ?_); rintro e w2 ⟨v2, rfl, hr2, hb2, hs2⟩; have HR2 := Lib.hid hr2; clear hr2))
  refine hK.out _ _ kp (fun hHeld => ?_); clear hK K; try go_frame
  refine wpAnyH_ready (rs := [4, 10]) (by kernel_rfl) (by simp) ?_
  refine AllReadyH_consL 4 rfl (fun K hK => ?_) ?_
  · go_simp
    refine hK.out _ _ kp (fun hHeld => ?_); clear hK K; try go_frame
    refine rd1 10 (fun K hK => ?_)
    (go_simp; first | ((go_at_call 66; with_reducible refine (CMR.out _).mono ?_); rintro e w' ⟨rfl, rfl⟩) | ((go_at_call 67; with_reducible refine (CY.out _ kp).mono ?_); rintro e w2 ⟨v2, rfl, hr2, hb2, hs2⟩; have HR2 := Lib.hid hr2; clear hr2))
    refine hK.out _ _ kp (fun hHeld => ?_); clear hK K; try go_frame
    refine rd1 11 (fun K hK => ?_)
    first | (refine ap [129, mrB 0 d] (RowI.below (rl2 129 (mrB 0 d)) hb2) (leB i 4) (HR2.out.ints HY5.out) HPOS.out HLEN.out hs2.size (fun v9 w9 HR9 hb9 hs9 => ?_)) | (refine ap [129, mrB 0 d] (RowI.below (rl2d 129 (mrB 0 d)) hb2) (leB i 4) (HR2.out.ints HY5.out) HPOS.out HLEN.out hs2.size (fun v9 w9 HR9 hb9 hs9 => ?_))
    exact qMi2
  refine AllReadyH_consL 10 rfl (fun K hK => ?_) ?_
  · (go_simp; first | ((go_at_call 66; with_reducible refine (CMR.out _).mono ?_); rintro e w' ⟨rfl, rfl⟩) | ((go_at_call 67; with_reducible refine (CY.out _ kp).mono ?_); rintro e w2 ⟨v2, rfl, hr2, hb2, hs2⟩; have HR2 := Lib.hid hr2; clear hr2))
    refine hK.out _ _ kp (fun hHeld => ?_); clear hK K; try go_frame
    refine rd1 4 (fun K hK => ?_)
    go_simp
    refine hK.out _ _ kp (fun hHeld => ?_); clear hK K; try go_frame
    refine rd1 11 (fun K hK => ?_)
    first | (refine ap [129, mrB 0 d] (rl2 129 (mrB 0 d)) (leB i 4) ((HR2.out.below bl1).ints HY5.out) HPOS.out HLEN.out (Nat.le_trans hs2.size (by simp)) (fun v9 w9 HR9 hb9 hs9 => ?_)) | (refine ap [129, mrB 0 d] (rl2d 129 (mrB 0 d)) (leB i 4) ((HR2.out.below bl1d).ints HY5.out) HPOS.out HLEN.out (Nat.le_trans hs2.size (by simp)) (fun v9 w9 HR9 hb9 hs9 => ?_))
    exact qMi2
  exact AllReadyH.nil) : p := h
theorem qMi4 {p : Prop} (h : p := by
  go_wp2_with (first | ((go_at_call 64; first | (with_reducible refine (CisRd.out _).mono ?_) | (with_reducible refine (CisRs.out _).mono ?_)); rintro e w' ⟨rfl, rfl⟩) | ((go_at_call 68; with_reducible refine (CinZ.out _).mono ?_); rintro e w' ⟨rfl, rfl⟩) | ((go_at_call 71; with_reducible refine (CDI.out _).mono ?_); rintro e w' ⟨rfl, rfl⟩) | ((go_at_call 60; with_reducible refine (CSG.out _).mono ?_); rintro e w' ⟨rfl, rfl⟩) | ((go_at_call 66; with_reducible refine (CMR.out _).mono ?_); rintro e w' ⟨rfl, rfl⟩))
  clear hW0
  refine wp_region_held_drew (S := (fun wk => Since W0 wk)) (by kernel_rfl) kp (fun hHeld => ?_)
  refine tk 0 ?_; refine tk 1 ?_; refine tk 2 ?_; refine tk 5 ?_; refine tk 6 ?_; refine tk 7 ?_; refine tk 8 ?_
  refine tk 9 ?_
  refine rd1 3 (fun K hK => ?_)
  (go_simp; first | ((go_at_call 66; with_reducible refine (CMR.out _).mono ?_); rintro e w' ⟨rfl, rfl⟩) | ((go_at_call 67; with_reducible refine (CY.out _ kp).mono ?_); rintro e w2 ⟨v2, rfl, hr2, hb2, hs2⟩; have HR2 := Lib.hid hr2; clear hr2))
  refine hK.out _ _ kp (fun hHeld => ?_); clear hK K; try go_frame
  refine wpAnyH_ready (rs := [4, 10]) (by kernel_rfl) (by simp) ?_
  refine AllReadyH_consL 4 rfl (fun K hK => ?_) ?_
  · go_simp
    refine hK.out _ _ kp (fun hHeld => ?_); clear hK K; try go_frame
    refine rd1 10 (fun K hK => ?_)
    (go_simp; first | ((go_at_call 66; with_reducible refine (CMR.out _).mono ?_); rintro e w' ⟨rfl, rfl⟩) | ((go_at_call 67; with_reducible refine (CY.out _ kp).mono ?_); rintro e w2 ⟨v2, rfl, hr2, hb2, hs2⟩; have HR2 := Lib.hid hr2; clear hr2))
    refine hK.out _ _ kp (fun hHeld => ?_); clear hK K; try go_frame
    refine rd1 11 (fun K hK => ?_)
    first | (refine ap [129, mrB 0 d] (RowI.below (rl2 129 (mrB 0 d)) hb2) (leB i 2) (HR2.out.ints HY5.out) HPOS.out HLEN.out hs2.size (fun v9 w9 HR9 hb9 hs9 => ?_)) | (refine ap [129, mrB 0 d] (RowI.below (rl2d 129 (mrB 0 d)) hb2) (leB i 2) (HR2.out.ints HY5.out) HPOS.out HLEN.out hs2.size (fun v9 w9 HR9 hb9 hs9 => ?_))
    exact qMi2
  refine AllReadyH_consL 10 rfl (fun K hK => ?_) ?_
  · (go_simp; first | ((go_at_call 66; with_reducible refine (CMR.out _).mono ?_); rintro e w' ⟨rfl, rfl⟩) | ((go_at_call 67; with_reducible refine (CY.out _ kp).mono ?_); rintro e w2 ⟨v2, rfl, hr2, hb2, hs2⟩; have HR2 := Lib.hid hr2; clear hr2))
    refine hK.out _ _ kp (fun hHeld => ?_); clear hK K; try go_frame
    refine rd1 4 (fun K hK => ?_)
    go_simp
    refine hK.out _ _ kp (fun hHeld => ?_); clear hK K; try go_frame
    refine rd1 11 (fun K hK => ?_)
    first | (refine ap [129, mrB 0 d] (rl2 129 (mrB 0 d)) (leB i 2) ((HR2.out.below bl1).ints HY5.out) HPOS.out HLEN.out (Nat.le_trans hs2.size (by simp)) (fun v9 w9 HR9 hb9 hs9 => ?_)) | (refine ap [129, mrB 0 d] (rl2d 129 (mrB 0 d)) (leB i 2) ((HR2.out.below bl1d).ints HY5.out) HPOS.out HLEN.out (Nat.le_trans hs2.size (by simp)) (fun v9 w9 HR9 hb9 hs9 => ?_))
    exact qMi2
  exact AllReadyH.nil) : p := h
theorem qMi3 {p : Prop} (h : p := by
  go_wp2_with (first | ((go_at_call 64; first | (with_reducible refine (CisRd.out _).mono ?_) | (with_reducible refine (CisRs.out _).mono ?_)); rintro e w' ⟨rfl, rfl⟩) | ((go_at_call 68; with_reducible refine (CinZ.out _).mono ?_); rintro e w' ⟨rfl, rfl⟩) | ((go_at_call 71; with_reducible refine (CDI.out _).mono ?_); rintro e w' ⟨rfl, rfl⟩))
  go_meet
  case rel => exact ⟨by simp [*], rfl⟩) : p := h
theorem qMi2 {p : Prop} (h : p := by
  refine hK.out _ _ kp (fun hHeld => ?_); clear hK K; try go_frame
  refine tk 12 ?_; refine tk 13 ?_
  refine wpAnyH_done (by kernel_rfl) ?_ _
  go_wp2_with fail
  go_ret2
  exact MRet.mk HOK.out.symm (fun h => RowI.to (RowI.mono HR9.out HB.out.size) HEQ.out) (below_hop HB.out (by first | exact hs9 | exact below_drewN hs9 1))) : p := h
theorem qMi1 {p : Prop} (h : p := by
  go_wp2_with (first | ((go_at_call 64; first | (with_reducible refine (CisRd.out _).mono ?_) | (with_reducible refine (CisRs.out _).mono ?_)); rintro e w' ⟨rfl, rfl⟩) | ((go_at_call 68; with_reducible refine (CinZ.out _).mono ?_); rintro e w' ⟨rfl, rfl⟩) | ((go_at_call 71; with_reducible refine (CDI.out _).mono ?_); rintro e w' ⟨rfl, rfl⟩) | ((go_at_call 60; with_reducible refine (CSG.out _).mono ?_); rintro e w' ⟨rfl, rfl⟩) | ((go_at_call 66; with_reducible refine (CMR.out _).mono ?_); rintro e w' ⟨rfl, rfl⟩))
  clear hW0
  refine wp_region_held_drew (S := (fun wk => Since W0 wk)) (by kernel_rfl) kp (fun hHeld => ?_)
  refine tk 0 ?_; refine tk 1 ?_; refine tk 2 ?_; refine tk 4 ?_; refine tk 5 ?_; refine tk 6 ?_; refine tk 7 ?_
  refine rd1 3 (fun K hK => ?_)
  (go_simp; first | ((go_at_call 66; with_reducible refine (CMR.out _).mono ?_); rintro e w' ⟨rfl, rfl⟩))
  refine hK.out _ _ kp (fun hHeld => ?_); clear hK K; try go_frame
  refine rd1 8 (fun K hK => ?_)
  go_simp
  refine hK.out _ _ kp (fun hHeld => ?_); clear hK K; try go_frame
  refine tk 9 ?_; refine tk 10 ?_
  refine wpAnyH_done (by kernel_rfl) ?_ _
  go_wp2_with fail
  go_ret2
  exact MRet.mk HOK.out.symm (fun h => HRW.out _ (RowI.lit W0 #[.int .u8 131, .int .u8 _, .int .u8 _] [131, _, _] .u8 5 w.heap.size 3 HB.out.size rfl rfl (by unfold maxLen; simp)) (by simp [IntKind.wrap_u8, i64_and255])) (bel_litd HB.out)) : p := h
theorem qMi0 {p : Prop} (h : p := by
  go_wp2_with (first | ((go_at_call 64; first | (with_reducible refine (CisRd.out _).mono ?_) | (with_reducible refine (CisRs.out _).mono ?_)); rintro e w' ⟨rfl, rfl⟩) | ((go_at_call 68; with_reducible refine (CinZ.out _).mono ?_); rintro e w' ⟨rfl, rfl⟩) | ((go_at_call 71; with_reducible refine (CDI.out _).mono ?_); rintro e w' ⟨rfl, rfl⟩))
  go_ret2
  exact MRet.mk HOK.out.symm (fun h => absurd h (by rw [HOK.out]; simp)) HB.out) : p := h
set_option maxRecDepth 100000 in
set_option maxHeartbeats 4000000 in
theorem ref_14_8 (d s i : Int) (w : World) (hi : I64 i) : Calls Try.prog 49 #[.agg #[.int .i64 14, .int .i64 d, .int .i64 s, .int .i64 8, .int .i64 i]] w (MRet ⟨14, d, s, 8, i⟩ w) := by
  obtain ⟨W0, hW0⟩ : ∃ W, w.alloc (.cells #[.int .i64 14, .int .i64 d, .int .i64 s, .int .i64 8, .int .i64 i] 25) = W := ⟨_, rfl⟩
  have HB : Hid (Below w.heap.size w W0) := by rw [← hW0]; exact (Below.refl _ _).alloc (Nat.le_refl _) _
  have hlt0 : w.heap.size < W0.heap.size := by rw [← hW0]; simp
  obtain ⟨q0, q1, q2, q3, q4⟩ := ins_box 14 d s 8 i w W0 hW0
  have h00 := Since.refl W0
  have q0a := q0 _ h00
  have q1a := q1 _ h00
  have q2a := q2 _ h00
  have q3a := q3 _ h00
  have q4a := q4 _ h00
  have CisRd := Lib.hid (fun w => isReg_ref d w)
  have CisRs := Lib.hid (fun w => isReg_ref s w)
  have CinZ := Lib.hid (fun w => fits_ref i 8 w (by decide))
  have CMR := Lib.hid (fun w => rmr_any 0 d w)
  have CDI : Hid (∀ w, Calls Try.prog 71 #[.int .i64 14] w fun e w' => e = .returned (.int .i64 0) ∧ w = w') := fun w => digit_any 14 w (by decide)
  obtain ⟨rd, hrd⟩ : ∃ b, isR d = b := ⟨_, rfl⟩
  rw [hrd] at CisRd
  obtain ⟨rs, hrs⟩ : ∃ b, isR s = b := ⟨_, rfl⟩
  rw [hrs] at CisRs
  have HRD := Lib.hid hrd
  clear hrd hrs
  obtain ⟨s0, hs0⟩ : ∃ b, (s == 0) = b := ⟨_, rfl⟩
  have hs1 : (s != 0) = !s0 := by simp [bne, hs0]
  obtain ⟨e0, he0⟩ : ∃ b, (i == 0) = b := ⟨_, rfl⟩
  go_enter Try.func49, Try.ntmps49
  go_upto_region 3 with (first | ((go_at_call 64; first | (with_reducible refine (CisRd.out _).mono ?_) | (with_reducible refine (CisRs.out _).mono ?_)); rintro e w' ⟨rfl, rfl⟩) | ((go_at_call 68; with_reducible refine (CinZ.out _).mono ?_); rintro e w' ⟨rfl, rfl⟩) | ((go_at_call 71; with_reducible refine (CDI.out _).mono ?_); rintro e w' ⟨rfl, rfl⟩))
  go_cut [6] from 19 to 31 (fun b wx => b = .bool (rd && (rs && e0)) ∧ W0 = wx)
  case first =>
    cases rd
    rotate_left
    cases rs
    all_goals
     exact qMi3
  case rest =>
    obtain ⟨rfl, rfl⟩ := hcut
    go_upto_region 4 with (first | ((go_at_call 64; first | (with_reducible refine (CisRd.out _).mono ?_) | (with_reducible refine (CisRs.out _).mono ?_)); rintro e w' ⟨rfl, rfl⟩) | ((go_at_call 68; with_reducible refine (CinZ.out _).mono ?_); rintro e w' ⟨rfl, rfl⟩) | ((go_at_call 71; with_reducible refine (CDI.out _).mono ?_); rintro e w' ⟨rfl, rfl⟩))
    go_cut [7] from 32 to 44 (fun b wx => b = .bool (rd && (s0 && e0)) ∧ W0 = wx)
    case first =>
      cases rd
      rotate_left
      cases s0
      all_goals
       exact qMi3
    case rest =>
      obtain ⟨rfl, rfl⟩ := hcut
      generalize (rd && (s0 && e0)) = one at *
      generalize (rd && (rs && e0)) = rg at *
      have HOK : Hid (okI ⟨14, d, s, 8, i⟩ = false) := by show _ = _; simp [okI, szI, fitI]
      exact qMi0
set_option maxRecDepth 100000 in
set_option maxHeartbeats 4000000 in
theorem ref_14_16 (d s i : Int) (w : World) (hi : I64 i) : Calls Try.prog 49 #[.agg #[.int .i64 14, .int .i64 d, .int .i64 s, .int .i64 16, .int .i64 i]] w (MRet ⟨14, d, s, 16, i⟩ w) := by
  obtain ⟨W0, hW0⟩ : ∃ W, w.alloc (.cells #[.int .i64 14, .int .i64 d, .int .i64 s, .int .i64 16, .int .i64 i] 25) = W := ⟨_, rfl⟩
  have HB : Hid (Below w.heap.size w W0) := by rw [← hW0]; exact (Below.refl _ _).alloc (Nat.le_refl _) _
  have hlt0 : w.heap.size < W0.heap.size := by rw [← hW0]; simp
  obtain ⟨q0, q1, q2, q3, q4⟩ := ins_box 14 d s 16 i w W0 hW0
  have h00 := Since.refl W0
  have q0a := q0 _ h00
  have q1a := q1 _ h00
  have q2a := q2 _ h00
  have q3a := q3 _ h00
  have q4a := q4 _ h00
  have CisRd := Lib.hid (fun w => isReg_ref d w)
  have CisRs := Lib.hid (fun w => isReg_ref s w)
  have CinZ := Lib.hid (fun w => fits_ref i 16 w (by decide))
  have CMR := Lib.hid (fun w => rmr_any 0 d w)
  have CDI : Hid (∀ w, Calls Try.prog 71 #[.int .i64 14] w fun e w' => e = .returned (.int .i64 0) ∧ w = w') := fun w => digit_any 14 w (by decide)
  obtain ⟨rd, hrd⟩ : ∃ b, isR d = b := ⟨_, rfl⟩
  rw [hrd] at CisRd
  obtain ⟨rs, hrs⟩ : ∃ b, isR s = b := ⟨_, rfl⟩
  rw [hrs] at CisRs
  have HRD := Lib.hid hrd
  clear hrd hrs
  obtain ⟨s0, hs0⟩ : ∃ b, (s == 0) = b := ⟨_, rfl⟩
  have hs1 : (s != 0) = !s0 := by simp [bne, hs0]
  obtain ⟨e0, he0⟩ : ∃ b, (i == 0) = b := ⟨_, rfl⟩
  go_enter Try.func49, Try.ntmps49
  go_upto_region 3 with (first | ((go_at_call 64; first | (with_reducible refine (CisRd.out _).mono ?_) | (with_reducible refine (CisRs.out _).mono ?_)); rintro e w' ⟨rfl, rfl⟩) | ((go_at_call 68; with_reducible refine (CinZ.out _).mono ?_); rintro e w' ⟨rfl, rfl⟩) | ((go_at_call 71; with_reducible refine (CDI.out _).mono ?_); rintro e w' ⟨rfl, rfl⟩))
  go_cut [6] from 19 to 31 (fun b wx => b = .bool (rd && (rs && e0)) ∧ W0 = wx)
  case first =>
    cases rd
    rotate_left
    cases rs
    all_goals
     exact qMi3
  case rest =>
    obtain ⟨rfl, rfl⟩ := hcut
    go_upto_region 4 with (first | ((go_at_call 64; first | (with_reducible refine (CisRd.out _).mono ?_) | (with_reducible refine (CisRs.out _).mono ?_)); rintro e w' ⟨rfl, rfl⟩) | ((go_at_call 68; with_reducible refine (CinZ.out _).mono ?_); rintro e w' ⟨rfl, rfl⟩) | ((go_at_call 71; with_reducible refine (CDI.out _).mono ?_); rintro e w' ⟨rfl, rfl⟩))
    go_cut [7] from 32 to 44 (fun b wx => b = .bool (rd && (s0 && e0)) ∧ W0 = wx)
    case first =>
      cases rd
      rotate_left
      cases s0
      all_goals
       exact qMi3
    case rest =>
      obtain ⟨rfl, rfl⟩ := hcut
      generalize (rd && (s0 && e0)) = one at *
      generalize (rd && (rs && e0)) = rg at *
      cases rd
      · have HOK : Hid (okI ⟨14, d, s, 16, i⟩ = false) := by show _ = _; simp [okI, szI, fitI, HRD.out]
        exact qMi0
      · cases s0
        · have HOK : Hid (okI ⟨14, d, s, 16, i⟩ = false) := by show _ = _; simp [okI, szI, fitI, HRD.out, hs0]
          exact qMi0
        · cases hz : inZ i 16
          · rw [hz] at CinZ
            have HOK : Hid (okI ⟨14, d, s, 16, i⟩ = false) := by show _ = _; simp [okI, szI, fitI, HRD.out, hs0, hz]
            clear hz
            exact qMi0
          · rw [hz] at CinZ
            have HOK : Hid (okI ⟨14, d, s, 16, i⟩ = true) := by show _ = _; simp [okI, szI, fitI, HRD.out, hs0, hz]
            have hzb : 0 ≤ i ∧ i ≤ 65535 := by have pz : pwZ 16 = 65536 := rfl; simp [inZ] at hz; omega
            clear hz
            obtain ⟨z1, z2⟩ := hzb
            have CSG := Lib.hid (fun w => signed_ref i 16 w hi (by omega) (by decide))
            have hsg : (i < 32768 ∧ sgB i 16 = i) ∨ (32768 ≤ i ∧ sgB i 16 = i - 65536) := by have e : sgB i 16 = if 32768 ≤ i then i - 65536 else i := rfl; rw [e]; split <;> omega
            by_cases hs : -128 ≤ sgB i 16 ∧ sgB i 16 ≤ 127
            · have HRW : Hid (∀ {wk : World} {v : Value} (u : Int), RowI wk w.heap.size 5 .u8 v [131, mrB 0 d, u] → u = i % 256 → RowI wk w.heap.size 5 .u8 v (bodyI ⟨14, d, s, 16, i⟩)) := fun u h e => by rw [show bodyI ⟨14, d, s, 16, i⟩ = [131, mrB 0 d, i % 256] by simp [bodyI, hs, digI], ← e]; exact h
              have u1 : decide (-128 ≤ sgB i 16) = true := decide_eq_true hs.1
              have u2 : decide (sgB i 16 ≤ 127) = true := decide_eq_true hs.2
              have HSG := Lib.hid hsg
              generalize sgB i 16 = g at *
              clear hsg hs
              exact qMi1
            · have HEQ : Hid ([129, mrB 0 d] ++ leB i 2 = bodyI ⟨14, d, s, 16, i⟩) := by show _ = _; simp [bodyI, hs, digI]
              have CY : Hid (∀ wk, Since W0 wk → Calls Try.prog 67 #[.int .i64 i, .int .i64 (IntKind.i64.wrap 2)] wk fun e w' => ∃ v, e = .returned v ∧ RowI w' W0.heap.size 5 .u8 v (leB i 2) ∧ Below wk.heap.size wk w' ∧ Since W0 w') := fun wk h => acc_r (little_any i 2 wk hi (by decide)) h
              have hml : (leB i 2).length = 2 := by simp [leB_length]
              have HLEN : Hid (([(0 : Int), 0]).length + (leB i 2).length ≤ 100000) := by show _ ≤ _; rw [hml]; decide
              have HPOS : Hid (0 < (leB i 2).length) := by show 0 < _; omega
              have HY5 : Hid ((leB i 2).length ≤ 140737488351232) := by show _ ≤ _; omega
              clear hml
              have HNS := Lib.hid hs
              obtain ⟨u1, hu1⟩ : ∃ b, decide (-128 ≤ sgB i 16) = b := ⟨_, rfl⟩
              obtain ⟨u2, hu2⟩ : ∃ b, decide (sgB i 16 ≤ 127) = b := ⟨_, rfl⟩
              have huu : (u1 && u2) = false := by rw [← hu1, ← hu2, Bool.eq_false_iff]; intro h; simp only [Bool.and_eq_true, decide_eq_true_eq] at h; exact hs h
              clear hs hsg
              generalize sgB i 16 = g at *
              cases u1
              · clear huu
                exact qMi4
              · cases u2
                · clear huu
                  exact qMi4
                · simp at huu
set_option maxRecDepth 100000 in
set_option maxHeartbeats 4000000 in
theorem ref_14_32 (d s i : Int) (w : World) (hi : I64 i) : Calls Try.prog 49 #[.agg #[.int .i64 14, .int .i64 d, .int .i64 s, .int .i64 32, .int .i64 i]] w (MRet ⟨14, d, s, 32, i⟩ w) := by
  obtain ⟨W0, hW0⟩ : ∃ W, w.alloc (.cells #[.int .i64 14, .int .i64 d, .int .i64 s, .int .i64 32, .int .i64 i] 25) = W := ⟨_, rfl⟩
  have HB : Hid (Below w.heap.size w W0) := by rw [← hW0]; exact (Below.refl _ _).alloc (Nat.le_refl _) _
  have hlt0 : w.heap.size < W0.heap.size := by rw [← hW0]; simp
  obtain ⟨q0, q1, q2, q3, q4⟩ := ins_box 14 d s 32 i w W0 hW0
  have h00 := Since.refl W0
  have q0a := q0 _ h00
  have q1a := q1 _ h00
  have q2a := q2 _ h00
  have q3a := q3 _ h00
  have q4a := q4 _ h00
  have CisRd := Lib.hid (fun w => isReg_ref d w)
  have CisRs := Lib.hid (fun w => isReg_ref s w)
  have CinZ := Lib.hid (fun w => fits_ref i 32 w (by decide))
  have CMR := Lib.hid (fun w => rmr_any 0 d w)
  have CDI : Hid (∀ w, Calls Try.prog 71 #[.int .i64 14] w fun e w' => e = .returned (.int .i64 0) ∧ w = w') := fun w => digit_any 14 w (by decide)
  obtain ⟨rd, hrd⟩ : ∃ b, isR d = b := ⟨_, rfl⟩
  rw [hrd] at CisRd
  obtain ⟨rs, hrs⟩ : ∃ b, isR s = b := ⟨_, rfl⟩
  rw [hrs] at CisRs
  have HRD := Lib.hid hrd
  clear hrd hrs
  obtain ⟨s0, hs0⟩ : ∃ b, (s == 0) = b := ⟨_, rfl⟩
  have hs1 : (s != 0) = !s0 := by simp [bne, hs0]
  obtain ⟨e0, he0⟩ : ∃ b, (i == 0) = b := ⟨_, rfl⟩
  go_enter Try.func49, Try.ntmps49
  go_upto_region 3 with (first | ((go_at_call 64; first | (with_reducible refine (CisRd.out _).mono ?_) | (with_reducible refine (CisRs.out _).mono ?_)); rintro e w' ⟨rfl, rfl⟩) | ((go_at_call 68; with_reducible refine (CinZ.out _).mono ?_); rintro e w' ⟨rfl, rfl⟩) | ((go_at_call 71; with_reducible refine (CDI.out _).mono ?_); rintro e w' ⟨rfl, rfl⟩))
  go_cut [6] from 19 to 31 (fun b wx => b = .bool (rd && (rs && e0)) ∧ W0 = wx)
  case first =>
    cases rd
    rotate_left
    cases rs
    all_goals
     exact qMi3
  case rest =>
    obtain ⟨rfl, rfl⟩ := hcut
    go_upto_region 4 with (first | ((go_at_call 64; first | (with_reducible refine (CisRd.out _).mono ?_) | (with_reducible refine (CisRs.out _).mono ?_)); rintro e w' ⟨rfl, rfl⟩) | ((go_at_call 68; with_reducible refine (CinZ.out _).mono ?_); rintro e w' ⟨rfl, rfl⟩) | ((go_at_call 71; with_reducible refine (CDI.out _).mono ?_); rintro e w' ⟨rfl, rfl⟩))
    go_cut [7] from 32 to 44 (fun b wx => b = .bool (rd && (s0 && e0)) ∧ W0 = wx)
    case first =>
      cases rd
      rotate_left
      cases s0
      all_goals
       exact qMi3
    case rest =>
      obtain ⟨rfl, rfl⟩ := hcut
      generalize (rd && (s0 && e0)) = one at *
      generalize (rd && (rs && e0)) = rg at *
      cases rd
      · have HOK : Hid (okI ⟨14, d, s, 32, i⟩ = false) := by show _ = _; simp [okI, szI, fitI, HRD.out]
        exact qMi0
      · cases s0
        · have HOK : Hid (okI ⟨14, d, s, 32, i⟩ = false) := by show _ = _; simp [okI, szI, fitI, HRD.out, hs0]
          exact qMi0
        · cases hz : inZ i 32
          · rw [hz] at CinZ
            have HOK : Hid (okI ⟨14, d, s, 32, i⟩ = false) := by show _ = _; simp [okI, szI, fitI, HRD.out, hs0, hz]
            clear hz
            exact qMi0
          · rw [hz] at CinZ
            have HOK : Hid (okI ⟨14, d, s, 32, i⟩ = true) := by show _ = _; simp [okI, szI, fitI, HRD.out, hs0, hz]
            have hzb : 0 ≤ i ∧ i ≤ 4294967295 := by have pz : pwZ 32 = 4294967296 := rfl; simp [inZ] at hz; omega
            clear hz
            obtain ⟨z1, z2⟩ := hzb
            have CSG := Lib.hid (fun w => signed_ref i 32 w hi (by omega) (by decide))
            have hsg : (i < 2147483648 ∧ sgB i 32 = i) ∨ (2147483648 ≤ i ∧ sgB i 32 = i - 4294967296) := by have e : sgB i 32 = if 2147483648 ≤ i then i - 4294967296 else i := rfl; rw [e]; split <;> omega
            by_cases hs : -128 ≤ sgB i 32 ∧ sgB i 32 ≤ 127
            · have HRW : Hid (∀ {wk : World} {v : Value} (u : Int), RowI wk w.heap.size 5 .u8 v [131, mrB 0 d, u] → u = i % 256 → RowI wk w.heap.size 5 .u8 v (bodyI ⟨14, d, s, 32, i⟩)) := fun u h e => by rw [show bodyI ⟨14, d, s, 32, i⟩ = [131, mrB 0 d, i % 256] by simp [bodyI, hs, digI], ← e]; exact h
              have u1 : decide (-128 ≤ sgB i 32) = true := decide_eq_true hs.1
              have u2 : decide (sgB i 32 ≤ 127) = true := decide_eq_true hs.2
              have HSG := Lib.hid hsg
              generalize sgB i 32 = g at *
              clear hsg hs
              exact qMi1
            · have HEQ : Hid ([129, mrB 0 d] ++ leB i 4 = bodyI ⟨14, d, s, 32, i⟩) := by show _ = _; simp [bodyI, hs, digI]
              have CY : Hid (∀ wk, Since W0 wk → Calls Try.prog 67 #[.int .i64 i, .int .i64 (IntKind.i64.wrap 4)] wk fun e w' => ∃ v, e = .returned v ∧ RowI w' W0.heap.size 5 .u8 v (leB i 4) ∧ Below wk.heap.size wk w' ∧ Since W0 w') := fun wk h => acc_r (little_any i 4 wk hi (by decide)) h
              have hml : (leB i 4).length = 4 := by simp [leB_length]
              have HLEN : Hid (([(0 : Int), 0]).length + (leB i 4).length ≤ 100000) := by show _ ≤ _; rw [hml]; decide
              have HPOS : Hid (0 < (leB i 4).length) := by show 0 < _; omega
              have HY5 : Hid ((leB i 4).length ≤ 140737488351232) := by show _ ≤ _; omega
              clear hml
              have HNS := Lib.hid hs
              obtain ⟨u1, hu1⟩ : ∃ b, decide (-128 ≤ sgB i 32) = b := ⟨_, rfl⟩
              obtain ⟨u2, hu2⟩ : ∃ b, decide (sgB i 32 ≤ 127) = b := ⟨_, rfl⟩
              have huu : (u1 && u2) = false := by rw [← hu1, ← hu2, Bool.eq_false_iff]; intro h; simp only [Bool.and_eq_true, decide_eq_true_eq] at h; exact hs h
              clear hs hsg
              generalize sgB i 32 = g at *
              cases u1
              · clear huu
                exact qMi5
              · cases u2
                · clear huu
                  exact qMi5
                · simp at huu
set_option maxRecDepth 100000 in
set_option maxHeartbeats 4000000 in
theorem ref_15_8 (d s i : Int) (w : World) (hi : I64 i) : Calls Try.prog 49 #[.agg #[.int .i64 15, .int .i64 d, .int .i64 s, .int .i64 8, .int .i64 i]] w (MRet ⟨15, d, s, 8, i⟩ w) := by
  obtain ⟨W0, hW0⟩ : ∃ W, w.alloc (.cells #[.int .i64 15, .int .i64 d, .int .i64 s, .int .i64 8, .int .i64 i] 25) = W := ⟨_, rfl⟩
  have HB : Hid (Below w.heap.size w W0) := by rw [← hW0]; exact (Below.refl _ _).alloc (Nat.le_refl _) _
  have hlt0 : w.heap.size < W0.heap.size := by rw [← hW0]; simp
  obtain ⟨q0, q1, q2, q3, q4⟩ := ins_box 15 d s 8 i w W0 hW0
  have h00 := Since.refl W0
  have q0a := q0 _ h00
  have q1a := q1 _ h00
  have q2a := q2 _ h00
  have q3a := q3 _ h00
  have q4a := q4 _ h00
  have CisRd := Lib.hid (fun w => isReg_ref d w)
  have CisRs := Lib.hid (fun w => isReg_ref s w)
  have CinZ := Lib.hid (fun w => fits_ref i 8 w (by decide))
  have CMR := Lib.hid (fun w => rmr_any 1 d w)
  have CDI : Hid (∀ w, Calls Try.prog 71 #[.int .i64 15] w fun e w' => e = .returned (.int .i64 1) ∧ w = w') := fun w => digit_any 15 w (by decide)
  obtain ⟨rd, hrd⟩ : ∃ b, isR d = b := ⟨_, rfl⟩
  rw [hrd] at CisRd
  obtain ⟨rs, hrs⟩ : ∃ b, isR s = b := ⟨_, rfl⟩
  rw [hrs] at CisRs
  have HRD := Lib.hid hrd
  clear hrd hrs
  obtain ⟨s0, hs0⟩ : ∃ b, (s == 0) = b := ⟨_, rfl⟩
  have hs1 : (s != 0) = !s0 := by simp [bne, hs0]
  obtain ⟨e0, he0⟩ : ∃ b, (i == 0) = b := ⟨_, rfl⟩
  go_enter Try.func49, Try.ntmps49
  go_upto_region 3 with (first | ((go_at_call 64; first | (with_reducible refine (CisRd.out _).mono ?_) | (with_reducible refine (CisRs.out _).mono ?_)); rintro e w' ⟨rfl, rfl⟩) | ((go_at_call 68; with_reducible refine (CinZ.out _).mono ?_); rintro e w' ⟨rfl, rfl⟩) | ((go_at_call 71; with_reducible refine (CDI.out _).mono ?_); rintro e w' ⟨rfl, rfl⟩))
  go_cut [6] from 19 to 31 (fun b wx => b = .bool (rd && (rs && e0)) ∧ W0 = wx)
  case first =>
    cases rd
    rotate_left
    cases rs
    all_goals
     exact qMi3
  case rest =>
    obtain ⟨rfl, rfl⟩ := hcut
    go_upto_region 4 with (first | ((go_at_call 64; first | (with_reducible refine (CisRd.out _).mono ?_) | (with_reducible refine (CisRs.out _).mono ?_)); rintro e w' ⟨rfl, rfl⟩) | ((go_at_call 68; with_reducible refine (CinZ.out _).mono ?_); rintro e w' ⟨rfl, rfl⟩) | ((go_at_call 71; with_reducible refine (CDI.out _).mono ?_); rintro e w' ⟨rfl, rfl⟩))
    go_cut [7] from 32 to 44 (fun b wx => b = .bool (rd && (s0 && e0)) ∧ W0 = wx)
    case first =>
      cases rd
      rotate_left
      cases s0
      all_goals
       exact qMi3
    case rest =>
      obtain ⟨rfl, rfl⟩ := hcut
      generalize (rd && (s0 && e0)) = one at *
      generalize (rd && (rs && e0)) = rg at *
      have HOK : Hid (okI ⟨15, d, s, 8, i⟩ = false) := by show _ = _; simp [okI, szI, fitI]
      exact qMi0
set_option maxRecDepth 100000 in
set_option maxHeartbeats 4000000 in
theorem ref_15_16 (d s i : Int) (w : World) (hi : I64 i) : Calls Try.prog 49 #[.agg #[.int .i64 15, .int .i64 d, .int .i64 s, .int .i64 16, .int .i64 i]] w (MRet ⟨15, d, s, 16, i⟩ w) := by
  obtain ⟨W0, hW0⟩ : ∃ W, w.alloc (.cells #[.int .i64 15, .int .i64 d, .int .i64 s, .int .i64 16, .int .i64 i] 25) = W := ⟨_, rfl⟩
  have HB : Hid (Below w.heap.size w W0) := by rw [← hW0]; exact (Below.refl _ _).alloc (Nat.le_refl _) _
  have hlt0 : w.heap.size < W0.heap.size := by rw [← hW0]; simp
  obtain ⟨q0, q1, q2, q3, q4⟩ := ins_box 15 d s 16 i w W0 hW0
  have h00 := Since.refl W0
  have q0a := q0 _ h00
  have q1a := q1 _ h00
  have q2a := q2 _ h00
  have q3a := q3 _ h00
  have q4a := q4 _ h00
  have CisRd := Lib.hid (fun w => isReg_ref d w)
  have CisRs := Lib.hid (fun w => isReg_ref s w)
  have CinZ := Lib.hid (fun w => fits_ref i 16 w (by decide))
  have CMR := Lib.hid (fun w => rmr_any 1 d w)
  have CDI : Hid (∀ w, Calls Try.prog 71 #[.int .i64 15] w fun e w' => e = .returned (.int .i64 1) ∧ w = w') := fun w => digit_any 15 w (by decide)
  obtain ⟨rd, hrd⟩ : ∃ b, isR d = b := ⟨_, rfl⟩
  rw [hrd] at CisRd
  obtain ⟨rs, hrs⟩ : ∃ b, isR s = b := ⟨_, rfl⟩
  rw [hrs] at CisRs
  have HRD := Lib.hid hrd
  clear hrd hrs
  obtain ⟨s0, hs0⟩ : ∃ b, (s == 0) = b := ⟨_, rfl⟩
  have hs1 : (s != 0) = !s0 := by simp [bne, hs0]
  obtain ⟨e0, he0⟩ : ∃ b, (i == 0) = b := ⟨_, rfl⟩
  go_enter Try.func49, Try.ntmps49
  go_upto_region 3 with (first | ((go_at_call 64; first | (with_reducible refine (CisRd.out _).mono ?_) | (with_reducible refine (CisRs.out _).mono ?_)); rintro e w' ⟨rfl, rfl⟩) | ((go_at_call 68; with_reducible refine (CinZ.out _).mono ?_); rintro e w' ⟨rfl, rfl⟩) | ((go_at_call 71; with_reducible refine (CDI.out _).mono ?_); rintro e w' ⟨rfl, rfl⟩))
  go_cut [6] from 19 to 31 (fun b wx => b = .bool (rd && (rs && e0)) ∧ W0 = wx)
  case first =>
    cases rd
    rotate_left
    cases rs
    all_goals
     exact qMi3
  case rest =>
    obtain ⟨rfl, rfl⟩ := hcut
    go_upto_region 4 with (first | ((go_at_call 64; first | (with_reducible refine (CisRd.out _).mono ?_) | (with_reducible refine (CisRs.out _).mono ?_)); rintro e w' ⟨rfl, rfl⟩) | ((go_at_call 68; with_reducible refine (CinZ.out _).mono ?_); rintro e w' ⟨rfl, rfl⟩) | ((go_at_call 71; with_reducible refine (CDI.out _).mono ?_); rintro e w' ⟨rfl, rfl⟩))
    go_cut [7] from 32 to 44 (fun b wx => b = .bool (rd && (s0 && e0)) ∧ W0 = wx)
    case first =>
      cases rd
      rotate_left
      cases s0
      all_goals
       exact qMi3
    case rest =>
      obtain ⟨rfl, rfl⟩ := hcut
      generalize (rd && (s0 && e0)) = one at *
      generalize (rd && (rs && e0)) = rg at *
      cases rd
      · have HOK : Hid (okI ⟨15, d, s, 16, i⟩ = false) := by show _ = _; simp [okI, szI, fitI, HRD.out]
        exact qMi0
      · cases s0
        · have HOK : Hid (okI ⟨15, d, s, 16, i⟩ = false) := by show _ = _; simp [okI, szI, fitI, HRD.out, hs0]
          exact qMi0
        · cases hz : inZ i 16
          · rw [hz] at CinZ
            have HOK : Hid (okI ⟨15, d, s, 16, i⟩ = false) := by show _ = _; simp [okI, szI, fitI, HRD.out, hs0, hz]
            clear hz
            exact qMi0
          · rw [hz] at CinZ
            have HOK : Hid (okI ⟨15, d, s, 16, i⟩ = true) := by show _ = _; simp [okI, szI, fitI, HRD.out, hs0, hz]
            have hzb : 0 ≤ i ∧ i ≤ 65535 := by have pz : pwZ 16 = 65536 := rfl; simp [inZ] at hz; omega
            clear hz
            obtain ⟨z1, z2⟩ := hzb
            have CSG := Lib.hid (fun w => signed_ref i 16 w hi (by omega) (by decide))
            have hsg : (i < 32768 ∧ sgB i 16 = i) ∨ (32768 ≤ i ∧ sgB i 16 = i - 65536) := by have e : sgB i 16 = if 32768 ≤ i then i - 65536 else i := rfl; rw [e]; split <;> omega
            by_cases hs : -128 ≤ sgB i 16 ∧ sgB i 16 ≤ 127
            · have HRW : Hid (∀ {wk : World} {v : Value} (u : Int), RowI wk w.heap.size 5 .u8 v [131, mrB 1 d, u] → u = i % 256 → RowI wk w.heap.size 5 .u8 v (bodyI ⟨15, d, s, 16, i⟩)) := fun u h e => by rw [show bodyI ⟨15, d, s, 16, i⟩ = [131, mrB 1 d, i % 256] by simp [bodyI, hs, digI], ← e]; exact h
              have u1 : decide (-128 ≤ sgB i 16) = true := decide_eq_true hs.1
              have u2 : decide (sgB i 16 ≤ 127) = true := decide_eq_true hs.2
              have HSG := Lib.hid hsg
              generalize sgB i 16 = g at *
              clear hsg hs
              exact qMi1
            · have HEQ : Hid ([129, mrB 1 d] ++ leB i 2 = bodyI ⟨15, d, s, 16, i⟩) := by show _ = _; simp [bodyI, hs, digI]
              have CY : Hid (∀ wk, Since W0 wk → Calls Try.prog 67 #[.int .i64 i, .int .i64 (IntKind.i64.wrap 2)] wk fun e w' => ∃ v, e = .returned v ∧ RowI w' W0.heap.size 5 .u8 v (leB i 2) ∧ Below wk.heap.size wk w' ∧ Since W0 w') := fun wk h => acc_r (little_any i 2 wk hi (by decide)) h
              have hml : (leB i 2).length = 2 := by simp [leB_length]
              have HLEN : Hid (([(0 : Int), 0]).length + (leB i 2).length ≤ 100000) := by show _ ≤ _; rw [hml]; decide
              have HPOS : Hid (0 < (leB i 2).length) := by show 0 < _; omega
              have HY5 : Hid ((leB i 2).length ≤ 140737488351232) := by show _ ≤ _; omega
              clear hml
              have HNS := Lib.hid hs
              obtain ⟨u1, hu1⟩ : ∃ b, decide (-128 ≤ sgB i 16) = b := ⟨_, rfl⟩
              obtain ⟨u2, hu2⟩ : ∃ b, decide (sgB i 16 ≤ 127) = b := ⟨_, rfl⟩
              have huu : (u1 && u2) = false := by rw [← hu1, ← hu2, Bool.eq_false_iff]; intro h; simp only [Bool.and_eq_true, decide_eq_true_eq] at h; exact hs h
              clear hs hsg
              generalize sgB i 16 = g at *
              cases u1
              · clear huu
                exact qMi6
              · cases u2
                · clear huu
                  exact qMi6
                · simp at huu
set_option maxRecDepth 100000 in
set_option maxHeartbeats 4000000 in
theorem ref_15_32 (d s i : Int) (w : World) (hi : I64 i) : Calls Try.prog 49 #[.agg #[.int .i64 15, .int .i64 d, .int .i64 s, .int .i64 32, .int .i64 i]] w (MRet ⟨15, d, s, 32, i⟩ w) := by
  obtain ⟨W0, hW0⟩ : ∃ W, w.alloc (.cells #[.int .i64 15, .int .i64 d, .int .i64 s, .int .i64 32, .int .i64 i] 25) = W := ⟨_, rfl⟩
  have HB : Hid (Below w.heap.size w W0) := by rw [← hW0]; exact (Below.refl _ _).alloc (Nat.le_refl _) _
  have hlt0 : w.heap.size < W0.heap.size := by rw [← hW0]; simp
  obtain ⟨q0, q1, q2, q3, q4⟩ := ins_box 15 d s 32 i w W0 hW0
  have h00 := Since.refl W0
  have q0a := q0 _ h00
  have q1a := q1 _ h00
  have q2a := q2 _ h00
  have q3a := q3 _ h00
  have q4a := q4 _ h00
  have CisRd := Lib.hid (fun w => isReg_ref d w)
  have CisRs := Lib.hid (fun w => isReg_ref s w)
  have CinZ := Lib.hid (fun w => fits_ref i 32 w (by decide))
  have CMR := Lib.hid (fun w => rmr_any 1 d w)
  have CDI : Hid (∀ w, Calls Try.prog 71 #[.int .i64 15] w fun e w' => e = .returned (.int .i64 1) ∧ w = w') := fun w => digit_any 15 w (by decide)
  obtain ⟨rd, hrd⟩ : ∃ b, isR d = b := ⟨_, rfl⟩
  rw [hrd] at CisRd
  obtain ⟨rs, hrs⟩ : ∃ b, isR s = b := ⟨_, rfl⟩
  rw [hrs] at CisRs
  have HRD := Lib.hid hrd
  clear hrd hrs
  obtain ⟨s0, hs0⟩ : ∃ b, (s == 0) = b := ⟨_, rfl⟩
  have hs1 : (s != 0) = !s0 := by simp [bne, hs0]
  obtain ⟨e0, he0⟩ : ∃ b, (i == 0) = b := ⟨_, rfl⟩
  go_enter Try.func49, Try.ntmps49
  go_upto_region 3 with (first | ((go_at_call 64; first | (with_reducible refine (CisRd.out _).mono ?_) | (with_reducible refine (CisRs.out _).mono ?_)); rintro e w' ⟨rfl, rfl⟩) | ((go_at_call 68; with_reducible refine (CinZ.out _).mono ?_); rintro e w' ⟨rfl, rfl⟩) | ((go_at_call 71; with_reducible refine (CDI.out _).mono ?_); rintro e w' ⟨rfl, rfl⟩))
  go_cut [6] from 19 to 31 (fun b wx => b = .bool (rd && (rs && e0)) ∧ W0 = wx)
  case first =>
    cases rd
    rotate_left
    cases rs
    all_goals
     exact qMi3
  case rest =>
    obtain ⟨rfl, rfl⟩ := hcut
    go_upto_region 4 with (first | ((go_at_call 64; first | (with_reducible refine (CisRd.out _).mono ?_) | (with_reducible refine (CisRs.out _).mono ?_)); rintro e w' ⟨rfl, rfl⟩) | ((go_at_call 68; with_reducible refine (CinZ.out _).mono ?_); rintro e w' ⟨rfl, rfl⟩) | ((go_at_call 71; with_reducible refine (CDI.out _).mono ?_); rintro e w' ⟨rfl, rfl⟩))
    go_cut [7] from 32 to 44 (fun b wx => b = .bool (rd && (s0 && e0)) ∧ W0 = wx)
    case first =>
      cases rd
      rotate_left
      cases s0
      all_goals
       exact qMi3
    case rest =>
      obtain ⟨rfl, rfl⟩ := hcut
      generalize (rd && (s0 && e0)) = one at *
      generalize (rd && (rs && e0)) = rg at *
      cases rd
      · have HOK : Hid (okI ⟨15, d, s, 32, i⟩ = false) := by show _ = _; simp [okI, szI, fitI, HRD.out]
        exact qMi0
      · cases s0
        · have HOK : Hid (okI ⟨15, d, s, 32, i⟩ = false) := by show _ = _; simp [okI, szI, fitI, HRD.out, hs0]
          exact qMi0
        · cases hz : inZ i 32
          · rw [hz] at CinZ
            have HOK : Hid (okI ⟨15, d, s, 32, i⟩ = false) := by show _ = _; simp [okI, szI, fitI, HRD.out, hs0, hz]
            clear hz
            exact qMi0
          · rw [hz] at CinZ
            have HOK : Hid (okI ⟨15, d, s, 32, i⟩ = true) := by show _ = _; simp [okI, szI, fitI, HRD.out, hs0, hz]
            have hzb : 0 ≤ i ∧ i ≤ 4294967295 := by have pz : pwZ 32 = 4294967296 := rfl; simp [inZ] at hz; omega
            clear hz
            obtain ⟨z1, z2⟩ := hzb
            have CSG := Lib.hid (fun w => signed_ref i 32 w hi (by omega) (by decide))
            have hsg : (i < 2147483648 ∧ sgB i 32 = i) ∨ (2147483648 ≤ i ∧ sgB i 32 = i - 4294967296) := by have e : sgB i 32 = if 2147483648 ≤ i then i - 4294967296 else i := rfl; rw [e]; split <;> omega
            by_cases hs : -128 ≤ sgB i 32 ∧ sgB i 32 ≤ 127
            · have HRW : Hid (∀ {wk : World} {v : Value} (u : Int), RowI wk w.heap.size 5 .u8 v [131, mrB 1 d, u] → u = i % 256 → RowI wk w.heap.size 5 .u8 v (bodyI ⟨15, d, s, 32, i⟩)) := fun u h e => by rw [show bodyI ⟨15, d, s, 32, i⟩ = [131, mrB 1 d, i % 256] by simp [bodyI, hs, digI], ← e]; exact h
              have u1 : decide (-128 ≤ sgB i 32) = true := decide_eq_true hs.1
              have u2 : decide (sgB i 32 ≤ 127) = true := decide_eq_true hs.2
              have HSG := Lib.hid hsg
              generalize sgB i 32 = g at *
              clear hsg hs
              exact qMi1
            · have HEQ : Hid ([129, mrB 1 d] ++ leB i 4 = bodyI ⟨15, d, s, 32, i⟩) := by show _ = _; simp [bodyI, hs, digI]
              have CY : Hid (∀ wk, Since W0 wk → Calls Try.prog 67 #[.int .i64 i, .int .i64 (IntKind.i64.wrap 4)] wk fun e w' => ∃ v, e = .returned v ∧ RowI w' W0.heap.size 5 .u8 v (leB i 4) ∧ Below wk.heap.size wk w' ∧ Since W0 w') := fun wk h => acc_r (little_any i 4 wk hi (by decide)) h
              have hml : (leB i 4).length = 4 := by simp [leB_length]
              have HLEN : Hid (([(0 : Int), 0]).length + (leB i 4).length ≤ 100000) := by show _ ≤ _; rw [hml]; decide
              have HPOS : Hid (0 < (leB i 4).length) := by show 0 < _; omega
              have HY5 : Hid ((leB i 4).length ≤ 140737488351232) := by show _ ≤ _; omega
              clear hml
              have HNS := Lib.hid hs
              obtain ⟨u1, hu1⟩ : ∃ b, decide (-128 ≤ sgB i 32) = b := ⟨_, rfl⟩
              obtain ⟨u2, hu2⟩ : ∃ b, decide (sgB i 32 ≤ 127) = b := ⟨_, rfl⟩
              have huu : (u1 && u2) = false := by rw [← hu1, ← hu2, Bool.eq_false_iff]; intro h; simp only [Bool.and_eq_true, decide_eq_true_eq] at h; exact hs h
              clear hs hsg
              generalize sgB i 32 = g at *
              cases u1
              · clear huu
                exact qMi7
              · cases u2
                · clear huu
                  exact qMi7
                · simp at huu
set_option maxRecDepth 100000 in
set_option maxHeartbeats 4000000 in
theorem ref_16_8 (d s i : Int) (w : World) (hi : I64 i) : Calls Try.prog 49 #[.agg #[.int .i64 16, .int .i64 d, .int .i64 s, .int .i64 8, .int .i64 i]] w (MRet ⟨16, d, s, 8, i⟩ w) := by
  obtain ⟨W0, hW0⟩ : ∃ W, w.alloc (.cells #[.int .i64 16, .int .i64 d, .int .i64 s, .int .i64 8, .int .i64 i] 25) = W := ⟨_, rfl⟩
  have HB : Hid (Below w.heap.size w W0) := by rw [← hW0]; exact (Below.refl _ _).alloc (Nat.le_refl _) _
  have hlt0 : w.heap.size < W0.heap.size := by rw [← hW0]; simp
  obtain ⟨q0, q1, q2, q3, q4⟩ := ins_box 16 d s 8 i w W0 hW0
  have h00 := Since.refl W0
  have q0a := q0 _ h00
  have q1a := q1 _ h00
  have q2a := q2 _ h00
  have q3a := q3 _ h00
  have q4a := q4 _ h00
  have CisRd := Lib.hid (fun w => isReg_ref d w)
  have CisRs := Lib.hid (fun w => isReg_ref s w)
  have CinZ := Lib.hid (fun w => fits_ref i 8 w (by decide))
  have CMR := Lib.hid (fun w => rmr_any 4 d w)
  have CDI : Hid (∀ w, Calls Try.prog 71 #[.int .i64 16] w fun e w' => e = .returned (.int .i64 4) ∧ w = w') := fun w => digit_any 16 w (by decide)
  obtain ⟨rd, hrd⟩ : ∃ b, isR d = b := ⟨_, rfl⟩
  rw [hrd] at CisRd
  obtain ⟨rs, hrs⟩ : ∃ b, isR s = b := ⟨_, rfl⟩
  rw [hrs] at CisRs
  have HRD := Lib.hid hrd
  clear hrd hrs
  obtain ⟨s0, hs0⟩ : ∃ b, (s == 0) = b := ⟨_, rfl⟩
  have hs1 : (s != 0) = !s0 := by simp [bne, hs0]
  obtain ⟨e0, he0⟩ : ∃ b, (i == 0) = b := ⟨_, rfl⟩
  go_enter Try.func49, Try.ntmps49
  go_upto_region 3 with (first | ((go_at_call 64; first | (with_reducible refine (CisRd.out _).mono ?_) | (with_reducible refine (CisRs.out _).mono ?_)); rintro e w' ⟨rfl, rfl⟩) | ((go_at_call 68; with_reducible refine (CinZ.out _).mono ?_); rintro e w' ⟨rfl, rfl⟩) | ((go_at_call 71; with_reducible refine (CDI.out _).mono ?_); rintro e w' ⟨rfl, rfl⟩))
  go_cut [6] from 19 to 31 (fun b wx => b = .bool (rd && (rs && e0)) ∧ W0 = wx)
  case first =>
    cases rd
    rotate_left
    cases rs
    all_goals
     exact qMi3
  case rest =>
    obtain ⟨rfl, rfl⟩ := hcut
    go_upto_region 4 with (first | ((go_at_call 64; first | (with_reducible refine (CisRd.out _).mono ?_) | (with_reducible refine (CisRs.out _).mono ?_)); rintro e w' ⟨rfl, rfl⟩) | ((go_at_call 68; with_reducible refine (CinZ.out _).mono ?_); rintro e w' ⟨rfl, rfl⟩) | ((go_at_call 71; with_reducible refine (CDI.out _).mono ?_); rintro e w' ⟨rfl, rfl⟩))
    go_cut [7] from 32 to 44 (fun b wx => b = .bool (rd && (s0 && e0)) ∧ W0 = wx)
    case first =>
      cases rd
      rotate_left
      cases s0
      all_goals
       exact qMi3
    case rest =>
      obtain ⟨rfl, rfl⟩ := hcut
      generalize (rd && (s0 && e0)) = one at *
      generalize (rd && (rs && e0)) = rg at *
      have HOK : Hid (okI ⟨16, d, s, 8, i⟩ = false) := by show _ = _; simp [okI, szI, fitI]
      exact qMi0
set_option maxRecDepth 100000 in
set_option maxHeartbeats 4000000 in
theorem ref_16_16 (d s i : Int) (w : World) (hi : I64 i) : Calls Try.prog 49 #[.agg #[.int .i64 16, .int .i64 d, .int .i64 s, .int .i64 16, .int .i64 i]] w (MRet ⟨16, d, s, 16, i⟩ w) := by
  obtain ⟨W0, hW0⟩ : ∃ W, w.alloc (.cells #[.int .i64 16, .int .i64 d, .int .i64 s, .int .i64 16, .int .i64 i] 25) = W := ⟨_, rfl⟩
  have HB : Hid (Below w.heap.size w W0) := by rw [← hW0]; exact (Below.refl _ _).alloc (Nat.le_refl _) _
  have hlt0 : w.heap.size < W0.heap.size := by rw [← hW0]; simp
  obtain ⟨q0, q1, q2, q3, q4⟩ := ins_box 16 d s 16 i w W0 hW0
  have h00 := Since.refl W0
  have q0a := q0 _ h00
  have q1a := q1 _ h00
  have q2a := q2 _ h00
  have q3a := q3 _ h00
  have q4a := q4 _ h00
  have CisRd := Lib.hid (fun w => isReg_ref d w)
  have CisRs := Lib.hid (fun w => isReg_ref s w)
  have CinZ := Lib.hid (fun w => fits_ref i 16 w (by decide))
  have CMR := Lib.hid (fun w => rmr_any 4 d w)
  have CDI : Hid (∀ w, Calls Try.prog 71 #[.int .i64 16] w fun e w' => e = .returned (.int .i64 4) ∧ w = w') := fun w => digit_any 16 w (by decide)
  obtain ⟨rd, hrd⟩ : ∃ b, isR d = b := ⟨_, rfl⟩
  rw [hrd] at CisRd
  obtain ⟨rs, hrs⟩ : ∃ b, isR s = b := ⟨_, rfl⟩
  rw [hrs] at CisRs
  have HRD := Lib.hid hrd
  clear hrd hrs
  obtain ⟨s0, hs0⟩ : ∃ b, (s == 0) = b := ⟨_, rfl⟩
  have hs1 : (s != 0) = !s0 := by simp [bne, hs0]
  obtain ⟨e0, he0⟩ : ∃ b, (i == 0) = b := ⟨_, rfl⟩
  go_enter Try.func49, Try.ntmps49
  go_upto_region 3 with (first | ((go_at_call 64; first | (with_reducible refine (CisRd.out _).mono ?_) | (with_reducible refine (CisRs.out _).mono ?_)); rintro e w' ⟨rfl, rfl⟩) | ((go_at_call 68; with_reducible refine (CinZ.out _).mono ?_); rintro e w' ⟨rfl, rfl⟩) | ((go_at_call 71; with_reducible refine (CDI.out _).mono ?_); rintro e w' ⟨rfl, rfl⟩))
  go_cut [6] from 19 to 31 (fun b wx => b = .bool (rd && (rs && e0)) ∧ W0 = wx)
  case first =>
    cases rd
    rotate_left
    cases rs
    all_goals
     exact qMi3
  case rest =>
    obtain ⟨rfl, rfl⟩ := hcut
    go_upto_region 4 with (first | ((go_at_call 64; first | (with_reducible refine (CisRd.out _).mono ?_) | (with_reducible refine (CisRs.out _).mono ?_)); rintro e w' ⟨rfl, rfl⟩) | ((go_at_call 68; with_reducible refine (CinZ.out _).mono ?_); rintro e w' ⟨rfl, rfl⟩) | ((go_at_call 71; with_reducible refine (CDI.out _).mono ?_); rintro e w' ⟨rfl, rfl⟩))
    go_cut [7] from 32 to 44 (fun b wx => b = .bool (rd && (s0 && e0)) ∧ W0 = wx)
    case first =>
      cases rd
      rotate_left
      cases s0
      all_goals
       exact qMi3
    case rest =>
      obtain ⟨rfl, rfl⟩ := hcut
      generalize (rd && (s0 && e0)) = one at *
      generalize (rd && (rs && e0)) = rg at *
      cases rd
      · have HOK : Hid (okI ⟨16, d, s, 16, i⟩ = false) := by show _ = _; simp [okI, szI, fitI, HRD.out]
        exact qMi0
      · cases s0
        · have HOK : Hid (okI ⟨16, d, s, 16, i⟩ = false) := by show _ = _; simp [okI, szI, fitI, HRD.out, hs0]
          exact qMi0
        · cases hz : inZ i 16
          · rw [hz] at CinZ
            have HOK : Hid (okI ⟨16, d, s, 16, i⟩ = false) := by show _ = _; simp [okI, szI, fitI, HRD.out, hs0, hz]
            clear hz
            exact qMi0
          · rw [hz] at CinZ
            have HOK : Hid (okI ⟨16, d, s, 16, i⟩ = true) := by show _ = _; simp [okI, szI, fitI, HRD.out, hs0, hz]
            have hzb : 0 ≤ i ∧ i ≤ 65535 := by have pz : pwZ 16 = 65536 := rfl; simp [inZ] at hz; omega
            clear hz
            obtain ⟨z1, z2⟩ := hzb
            have CSG := Lib.hid (fun w => signed_ref i 16 w hi (by omega) (by decide))
            have hsg : (i < 32768 ∧ sgB i 16 = i) ∨ (32768 ≤ i ∧ sgB i 16 = i - 65536) := by have e : sgB i 16 = if 32768 ≤ i then i - 65536 else i := rfl; rw [e]; split <;> omega
            by_cases hs : -128 ≤ sgB i 16 ∧ sgB i 16 ≤ 127
            · have HRW : Hid (∀ {wk : World} {v : Value} (u : Int), RowI wk w.heap.size 5 .u8 v [131, mrB 4 d, u] → u = i % 256 → RowI wk w.heap.size 5 .u8 v (bodyI ⟨16, d, s, 16, i⟩)) := fun u h e => by rw [show bodyI ⟨16, d, s, 16, i⟩ = [131, mrB 4 d, i % 256] by simp [bodyI, hs, digI], ← e]; exact h
              have u1 : decide (-128 ≤ sgB i 16) = true := decide_eq_true hs.1
              have u2 : decide (sgB i 16 ≤ 127) = true := decide_eq_true hs.2
              have HSG := Lib.hid hsg
              generalize sgB i 16 = g at *
              clear hsg hs
              exact qMi1
            · have HEQ : Hid ([129, mrB 4 d] ++ leB i 2 = bodyI ⟨16, d, s, 16, i⟩) := by show _ = _; simp [bodyI, hs, digI]
              have CY : Hid (∀ wk, Since W0 wk → Calls Try.prog 67 #[.int .i64 i, .int .i64 (IntKind.i64.wrap 2)] wk fun e w' => ∃ v, e = .returned v ∧ RowI w' W0.heap.size 5 .u8 v (leB i 2) ∧ Below wk.heap.size wk w' ∧ Since W0 w') := fun wk h => acc_r (little_any i 2 wk hi (by decide)) h
              have hml : (leB i 2).length = 2 := by simp [leB_length]
              have HLEN : Hid (([(0 : Int), 0]).length + (leB i 2).length ≤ 100000) := by show _ ≤ _; rw [hml]; decide
              have HPOS : Hid (0 < (leB i 2).length) := by show 0 < _; omega
              have HY5 : Hid ((leB i 2).length ≤ 140737488351232) := by show _ ≤ _; omega
              clear hml
              have HNS := Lib.hid hs
              obtain ⟨u1, hu1⟩ : ∃ b, decide (-128 ≤ sgB i 16) = b := ⟨_, rfl⟩
              obtain ⟨u2, hu2⟩ : ∃ b, decide (sgB i 16 ≤ 127) = b := ⟨_, rfl⟩
              have huu : (u1 && u2) = false := by rw [← hu1, ← hu2, Bool.eq_false_iff]; intro h; simp only [Bool.and_eq_true, decide_eq_true_eq] at h; exact hs h
              clear hs hsg
              generalize sgB i 16 = g at *
              cases u1
              · clear huu
                exact qMi8
              · cases u2
                · clear huu
                  exact qMi8
                · simp at huu
set_option maxRecDepth 100000 in
set_option maxHeartbeats 4000000 in
theorem ref_16_32 (d s i : Int) (w : World) (hi : I64 i) : Calls Try.prog 49 #[.agg #[.int .i64 16, .int .i64 d, .int .i64 s, .int .i64 32, .int .i64 i]] w (MRet ⟨16, d, s, 32, i⟩ w) := by
  obtain ⟨W0, hW0⟩ : ∃ W, w.alloc (.cells #[.int .i64 16, .int .i64 d, .int .i64 s, .int .i64 32, .int .i64 i] 25) = W := ⟨_, rfl⟩
  have HB : Hid (Below w.heap.size w W0) := by rw [← hW0]; exact (Below.refl _ _).alloc (Nat.le_refl _) _
  have hlt0 : w.heap.size < W0.heap.size := by rw [← hW0]; simp
  obtain ⟨q0, q1, q2, q3, q4⟩ := ins_box 16 d s 32 i w W0 hW0
  have h00 := Since.refl W0
  have q0a := q0 _ h00
  have q1a := q1 _ h00
  have q2a := q2 _ h00
  have q3a := q3 _ h00
  have q4a := q4 _ h00
  have CisRd := Lib.hid (fun w => isReg_ref d w)
  have CisRs := Lib.hid (fun w => isReg_ref s w)
  have CinZ := Lib.hid (fun w => fits_ref i 32 w (by decide))
  have CMR := Lib.hid (fun w => rmr_any 4 d w)
  have CDI : Hid (∀ w, Calls Try.prog 71 #[.int .i64 16] w fun e w' => e = .returned (.int .i64 4) ∧ w = w') := fun w => digit_any 16 w (by decide)
  obtain ⟨rd, hrd⟩ : ∃ b, isR d = b := ⟨_, rfl⟩
  rw [hrd] at CisRd
  obtain ⟨rs, hrs⟩ : ∃ b, isR s = b := ⟨_, rfl⟩
  rw [hrs] at CisRs
  have HRD := Lib.hid hrd
  clear hrd hrs
  obtain ⟨s0, hs0⟩ : ∃ b, (s == 0) = b := ⟨_, rfl⟩
  have hs1 : (s != 0) = !s0 := by simp [bne, hs0]
  obtain ⟨e0, he0⟩ : ∃ b, (i == 0) = b := ⟨_, rfl⟩
  go_enter Try.func49, Try.ntmps49
  go_upto_region 3 with (first | ((go_at_call 64; first | (with_reducible refine (CisRd.out _).mono ?_) | (with_reducible refine (CisRs.out _).mono ?_)); rintro e w' ⟨rfl, rfl⟩) | ((go_at_call 68; with_reducible refine (CinZ.out _).mono ?_); rintro e w' ⟨rfl, rfl⟩) | ((go_at_call 71; with_reducible refine (CDI.out _).mono ?_); rintro e w' ⟨rfl, rfl⟩))
  go_cut [6] from 19 to 31 (fun b wx => b = .bool (rd && (rs && e0)) ∧ W0 = wx)
  case first =>
    cases rd
    rotate_left
    cases rs
    all_goals
     exact qMi3
  case rest =>
    obtain ⟨rfl, rfl⟩ := hcut
    go_upto_region 4 with (first | ((go_at_call 64; first | (with_reducible refine (CisRd.out _).mono ?_) | (with_reducible refine (CisRs.out _).mono ?_)); rintro e w' ⟨rfl, rfl⟩) | ((go_at_call 68; with_reducible refine (CinZ.out _).mono ?_); rintro e w' ⟨rfl, rfl⟩) | ((go_at_call 71; with_reducible refine (CDI.out _).mono ?_); rintro e w' ⟨rfl, rfl⟩))
    go_cut [7] from 32 to 44 (fun b wx => b = .bool (rd && (s0 && e0)) ∧ W0 = wx)
    case first =>
      cases rd
      rotate_left
      cases s0
      all_goals
       exact qMi3
    case rest =>
      obtain ⟨rfl, rfl⟩ := hcut
      generalize (rd && (s0 && e0)) = one at *
      generalize (rd && (rs && e0)) = rg at *
      cases rd
      · have HOK : Hid (okI ⟨16, d, s, 32, i⟩ = false) := by show _ = _; simp [okI, szI, fitI, HRD.out]
        exact qMi0
      · cases s0
        · have HOK : Hid (okI ⟨16, d, s, 32, i⟩ = false) := by show _ = _; simp [okI, szI, fitI, HRD.out, hs0]
          exact qMi0
        · cases hz : inZ i 32
          · rw [hz] at CinZ
            have HOK : Hid (okI ⟨16, d, s, 32, i⟩ = false) := by show _ = _; simp [okI, szI, fitI, HRD.out, hs0, hz]
            clear hz
            exact qMi0
          · rw [hz] at CinZ
            have HOK : Hid (okI ⟨16, d, s, 32, i⟩ = true) := by show _ = _; simp [okI, szI, fitI, HRD.out, hs0, hz]
            have hzb : 0 ≤ i ∧ i ≤ 4294967295 := by have pz : pwZ 32 = 4294967296 := rfl; simp [inZ] at hz; omega
            clear hz
            obtain ⟨z1, z2⟩ := hzb
            have CSG := Lib.hid (fun w => signed_ref i 32 w hi (by omega) (by decide))
            have hsg : (i < 2147483648 ∧ sgB i 32 = i) ∨ (2147483648 ≤ i ∧ sgB i 32 = i - 4294967296) := by have e : sgB i 32 = if 2147483648 ≤ i then i - 4294967296 else i := rfl; rw [e]; split <;> omega
            by_cases hs : -128 ≤ sgB i 32 ∧ sgB i 32 ≤ 127
            · have HRW : Hid (∀ {wk : World} {v : Value} (u : Int), RowI wk w.heap.size 5 .u8 v [131, mrB 4 d, u] → u = i % 256 → RowI wk w.heap.size 5 .u8 v (bodyI ⟨16, d, s, 32, i⟩)) := fun u h e => by rw [show bodyI ⟨16, d, s, 32, i⟩ = [131, mrB 4 d, i % 256] by simp [bodyI, hs, digI], ← e]; exact h
              have u1 : decide (-128 ≤ sgB i 32) = true := decide_eq_true hs.1
              have u2 : decide (sgB i 32 ≤ 127) = true := decide_eq_true hs.2
              have HSG := Lib.hid hsg
              generalize sgB i 32 = g at *
              clear hsg hs
              exact qMi1
            · have HEQ : Hid ([129, mrB 4 d] ++ leB i 4 = bodyI ⟨16, d, s, 32, i⟩) := by show _ = _; simp [bodyI, hs, digI]
              have CY : Hid (∀ wk, Since W0 wk → Calls Try.prog 67 #[.int .i64 i, .int .i64 (IntKind.i64.wrap 4)] wk fun e w' => ∃ v, e = .returned v ∧ RowI w' W0.heap.size 5 .u8 v (leB i 4) ∧ Below wk.heap.size wk w' ∧ Since W0 w') := fun wk h => acc_r (little_any i 4 wk hi (by decide)) h
              have hml : (leB i 4).length = 4 := by simp [leB_length]
              have HLEN : Hid (([(0 : Int), 0]).length + (leB i 4).length ≤ 100000) := by show _ ≤ _; rw [hml]; decide
              have HPOS : Hid (0 < (leB i 4).length) := by show 0 < _; omega
              have HY5 : Hid ((leB i 4).length ≤ 140737488351232) := by show _ ≤ _; omega
              clear hml
              have HNS := Lib.hid hs
              obtain ⟨u1, hu1⟩ : ∃ b, decide (-128 ≤ sgB i 32) = b := ⟨_, rfl⟩
              obtain ⟨u2, hu2⟩ : ∃ b, decide (sgB i 32 ≤ 127) = b := ⟨_, rfl⟩
              have huu : (u1 && u2) = false := by rw [← hu1, ← hu2, Bool.eq_false_iff]; intro h; simp only [Bool.and_eq_true, decide_eq_true_eq] at h; exact hs h
              clear hs hsg
              generalize sgB i 32 = g at *
              cases u1
              · clear huu
                exact qMi9
              · cases u2
                · clear huu
                  exact qMi9
                · simp at huu
set_option maxRecDepth 100000 in
set_option maxHeartbeats 4000000 in
theorem ref_17_8 (d s i : Int) (w : World) (hi : I64 i) : Calls Try.prog 49 #[.agg #[.int .i64 17, .int .i64 d, .int .i64 s, .int .i64 8, .int .i64 i]] w (MRet ⟨17, d, s, 8, i⟩ w) := by
  obtain ⟨W0, hW0⟩ : ∃ W, w.alloc (.cells #[.int .i64 17, .int .i64 d, .int .i64 s, .int .i64 8, .int .i64 i] 25) = W := ⟨_, rfl⟩
  have HB : Hid (Below w.heap.size w W0) := by rw [← hW0]; exact (Below.refl _ _).alloc (Nat.le_refl _) _
  have hlt0 : w.heap.size < W0.heap.size := by rw [← hW0]; simp
  obtain ⟨q0, q1, q2, q3, q4⟩ := ins_box 17 d s 8 i w W0 hW0
  have h00 := Since.refl W0
  have q0a := q0 _ h00
  have q1a := q1 _ h00
  have q2a := q2 _ h00
  have q3a := q3 _ h00
  have q4a := q4 _ h00
  have CisRd := Lib.hid (fun w => isReg_ref d w)
  have CisRs := Lib.hid (fun w => isReg_ref s w)
  have CinZ := Lib.hid (fun w => fits_ref i 8 w (by decide))
  have CMR := Lib.hid (fun w => rmr_any 5 d w)
  have CDI : Hid (∀ w, Calls Try.prog 71 #[.int .i64 17] w fun e w' => e = .returned (.int .i64 5) ∧ w = w') := fun w => digit_any 17 w (by decide)
  obtain ⟨rd, hrd⟩ : ∃ b, isR d = b := ⟨_, rfl⟩
  rw [hrd] at CisRd
  obtain ⟨rs, hrs⟩ : ∃ b, isR s = b := ⟨_, rfl⟩
  rw [hrs] at CisRs
  have HRD := Lib.hid hrd
  clear hrd hrs
  obtain ⟨s0, hs0⟩ : ∃ b, (s == 0) = b := ⟨_, rfl⟩
  have hs1 : (s != 0) = !s0 := by simp [bne, hs0]
  obtain ⟨e0, he0⟩ : ∃ b, (i == 0) = b := ⟨_, rfl⟩
  go_enter Try.func49, Try.ntmps49
  go_upto_region 3 with (first | ((go_at_call 64; first | (with_reducible refine (CisRd.out _).mono ?_) | (with_reducible refine (CisRs.out _).mono ?_)); rintro e w' ⟨rfl, rfl⟩) | ((go_at_call 68; with_reducible refine (CinZ.out _).mono ?_); rintro e w' ⟨rfl, rfl⟩) | ((go_at_call 71; with_reducible refine (CDI.out _).mono ?_); rintro e w' ⟨rfl, rfl⟩))
  go_cut [6] from 19 to 31 (fun b wx => b = .bool (rd && (rs && e0)) ∧ W0 = wx)
  case first =>
    cases rd
    rotate_left
    cases rs
    all_goals
     exact qMi3
  case rest =>
    obtain ⟨rfl, rfl⟩ := hcut
    go_upto_region 4 with (first | ((go_at_call 64; first | (with_reducible refine (CisRd.out _).mono ?_) | (with_reducible refine (CisRs.out _).mono ?_)); rintro e w' ⟨rfl, rfl⟩) | ((go_at_call 68; with_reducible refine (CinZ.out _).mono ?_); rintro e w' ⟨rfl, rfl⟩) | ((go_at_call 71; with_reducible refine (CDI.out _).mono ?_); rintro e w' ⟨rfl, rfl⟩))
    go_cut [7] from 32 to 44 (fun b wx => b = .bool (rd && (s0 && e0)) ∧ W0 = wx)
    case first =>
      cases rd
      rotate_left
      cases s0
      all_goals
       exact qMi3
    case rest =>
      obtain ⟨rfl, rfl⟩ := hcut
      generalize (rd && (s0 && e0)) = one at *
      generalize (rd && (rs && e0)) = rg at *
      have HOK : Hid (okI ⟨17, d, s, 8, i⟩ = false) := by show _ = _; simp [okI, szI, fitI]
      exact qMi0
set_option maxRecDepth 100000 in
set_option maxHeartbeats 4000000 in
theorem ref_17_16 (d s i : Int) (w : World) (hi : I64 i) : Calls Try.prog 49 #[.agg #[.int .i64 17, .int .i64 d, .int .i64 s, .int .i64 16, .int .i64 i]] w (MRet ⟨17, d, s, 16, i⟩ w) := by
  obtain ⟨W0, hW0⟩ : ∃ W, w.alloc (.cells #[.int .i64 17, .int .i64 d, .int .i64 s, .int .i64 16, .int .i64 i] 25) = W := ⟨_, rfl⟩
  have HB : Hid (Below w.heap.size w W0) := by rw [← hW0]; exact (Below.refl _ _).alloc (Nat.le_refl _) _
  have hlt0 : w.heap.size < W0.heap.size := by rw [← hW0]; simp
  obtain ⟨q0, q1, q2, q3, q4⟩ := ins_box 17 d s 16 i w W0 hW0
  have h00 := Since.refl W0
  have q0a := q0 _ h00
  have q1a := q1 _ h00
  have q2a := q2 _ h00
  have q3a := q3 _ h00
  have q4a := q4 _ h00
  have CisRd := Lib.hid (fun w => isReg_ref d w)
  have CisRs := Lib.hid (fun w => isReg_ref s w)
  have CinZ := Lib.hid (fun w => fits_ref i 16 w (by decide))
  have CMR := Lib.hid (fun w => rmr_any 5 d w)
  have CDI : Hid (∀ w, Calls Try.prog 71 #[.int .i64 17] w fun e w' => e = .returned (.int .i64 5) ∧ w = w') := fun w => digit_any 17 w (by decide)
  obtain ⟨rd, hrd⟩ : ∃ b, isR d = b := ⟨_, rfl⟩
  rw [hrd] at CisRd
  obtain ⟨rs, hrs⟩ : ∃ b, isR s = b := ⟨_, rfl⟩
  rw [hrs] at CisRs
  have HRD := Lib.hid hrd
  clear hrd hrs
  obtain ⟨s0, hs0⟩ : ∃ b, (s == 0) = b := ⟨_, rfl⟩
  have hs1 : (s != 0) = !s0 := by simp [bne, hs0]
  obtain ⟨e0, he0⟩ : ∃ b, (i == 0) = b := ⟨_, rfl⟩
  go_enter Try.func49, Try.ntmps49
  go_upto_region 3 with (first | ((go_at_call 64; first | (with_reducible refine (CisRd.out _).mono ?_) | (with_reducible refine (CisRs.out _).mono ?_)); rintro e w' ⟨rfl, rfl⟩) | ((go_at_call 68; with_reducible refine (CinZ.out _).mono ?_); rintro e w' ⟨rfl, rfl⟩) | ((go_at_call 71; with_reducible refine (CDI.out _).mono ?_); rintro e w' ⟨rfl, rfl⟩))
  go_cut [6] from 19 to 31 (fun b wx => b = .bool (rd && (rs && e0)) ∧ W0 = wx)
  case first =>
    cases rd
    rotate_left
    cases rs
    all_goals
     exact qMi3
  case rest =>
    obtain ⟨rfl, rfl⟩ := hcut
    go_upto_region 4 with (first | ((go_at_call 64; first | (with_reducible refine (CisRd.out _).mono ?_) | (with_reducible refine (CisRs.out _).mono ?_)); rintro e w' ⟨rfl, rfl⟩) | ((go_at_call 68; with_reducible refine (CinZ.out _).mono ?_); rintro e w' ⟨rfl, rfl⟩) | ((go_at_call 71; with_reducible refine (CDI.out _).mono ?_); rintro e w' ⟨rfl, rfl⟩))
    go_cut [7] from 32 to 44 (fun b wx => b = .bool (rd && (s0 && e0)) ∧ W0 = wx)
    case first =>
      cases rd
      rotate_left
      cases s0
      all_goals
       exact qMi3
    case rest =>
      obtain ⟨rfl, rfl⟩ := hcut
      generalize (rd && (s0 && e0)) = one at *
      generalize (rd && (rs && e0)) = rg at *
      cases rd
      · have HOK : Hid (okI ⟨17, d, s, 16, i⟩ = false) := by show _ = _; simp [okI, szI, fitI, HRD.out]
        exact qMi0
      · cases s0
        · have HOK : Hid (okI ⟨17, d, s, 16, i⟩ = false) := by show _ = _; simp [okI, szI, fitI, HRD.out, hs0]
          exact qMi0
        · cases hz : inZ i 16
          · rw [hz] at CinZ
            have HOK : Hid (okI ⟨17, d, s, 16, i⟩ = false) := by show _ = _; simp [okI, szI, fitI, HRD.out, hs0, hz]
            clear hz
            exact qMi0
          · rw [hz] at CinZ
            have HOK : Hid (okI ⟨17, d, s, 16, i⟩ = true) := by show _ = _; simp [okI, szI, fitI, HRD.out, hs0, hz]
            have hzb : 0 ≤ i ∧ i ≤ 65535 := by have pz : pwZ 16 = 65536 := rfl; simp [inZ] at hz; omega
            clear hz
            obtain ⟨z1, z2⟩ := hzb
            have CSG := Lib.hid (fun w => signed_ref i 16 w hi (by omega) (by decide))
            have hsg : (i < 32768 ∧ sgB i 16 = i) ∨ (32768 ≤ i ∧ sgB i 16 = i - 65536) := by have e : sgB i 16 = if 32768 ≤ i then i - 65536 else i := rfl; rw [e]; split <;> omega
            by_cases hs : -128 ≤ sgB i 16 ∧ sgB i 16 ≤ 127
            · have HRW : Hid (∀ {wk : World} {v : Value} (u : Int), RowI wk w.heap.size 5 .u8 v [131, mrB 5 d, u] → u = i % 256 → RowI wk w.heap.size 5 .u8 v (bodyI ⟨17, d, s, 16, i⟩)) := fun u h e => by rw [show bodyI ⟨17, d, s, 16, i⟩ = [131, mrB 5 d, i % 256] by simp [bodyI, hs, digI], ← e]; exact h
              have u1 : decide (-128 ≤ sgB i 16) = true := decide_eq_true hs.1
              have u2 : decide (sgB i 16 ≤ 127) = true := decide_eq_true hs.2
              have HSG := Lib.hid hsg
              generalize sgB i 16 = g at *
              clear hsg hs
              exact qMi1
            · have HEQ : Hid ([129, mrB 5 d] ++ leB i 2 = bodyI ⟨17, d, s, 16, i⟩) := by show _ = _; simp [bodyI, hs, digI]
              have CY : Hid (∀ wk, Since W0 wk → Calls Try.prog 67 #[.int .i64 i, .int .i64 (IntKind.i64.wrap 2)] wk fun e w' => ∃ v, e = .returned v ∧ RowI w' W0.heap.size 5 .u8 v (leB i 2) ∧ Below wk.heap.size wk w' ∧ Since W0 w') := fun wk h => acc_r (little_any i 2 wk hi (by decide)) h
              have hml : (leB i 2).length = 2 := by simp [leB_length]
              have HLEN : Hid (([(0 : Int), 0]).length + (leB i 2).length ≤ 100000) := by show _ ≤ _; rw [hml]; decide
              have HPOS : Hid (0 < (leB i 2).length) := by show 0 < _; omega
              have HY5 : Hid ((leB i 2).length ≤ 140737488351232) := by show _ ≤ _; omega
              clear hml
              have HNS := Lib.hid hs
              obtain ⟨u1, hu1⟩ : ∃ b, decide (-128 ≤ sgB i 16) = b := ⟨_, rfl⟩
              obtain ⟨u2, hu2⟩ : ∃ b, decide (sgB i 16 ≤ 127) = b := ⟨_, rfl⟩
              have huu : (u1 && u2) = false := by rw [← hu1, ← hu2, Bool.eq_false_iff]; intro h; simp only [Bool.and_eq_true, decide_eq_true_eq] at h; exact hs h
              clear hs hsg
              generalize sgB i 16 = g at *
              cases u1
              · clear huu
                exact qMi10
              · cases u2
                · clear huu
                  exact qMi10
                · simp at huu
set_option maxRecDepth 100000 in
set_option maxHeartbeats 4000000 in
theorem ref_17_32 (d s i : Int) (w : World) (hi : I64 i) : Calls Try.prog 49 #[.agg #[.int .i64 17, .int .i64 d, .int .i64 s, .int .i64 32, .int .i64 i]] w (MRet ⟨17, d, s, 32, i⟩ w) := by
  obtain ⟨W0, hW0⟩ : ∃ W, w.alloc (.cells #[.int .i64 17, .int .i64 d, .int .i64 s, .int .i64 32, .int .i64 i] 25) = W := ⟨_, rfl⟩
  have HB : Hid (Below w.heap.size w W0) := by rw [← hW0]; exact (Below.refl _ _).alloc (Nat.le_refl _) _
  have hlt0 : w.heap.size < W0.heap.size := by rw [← hW0]; simp
  obtain ⟨q0, q1, q2, q3, q4⟩ := ins_box 17 d s 32 i w W0 hW0
  have h00 := Since.refl W0
  have q0a := q0 _ h00
  have q1a := q1 _ h00
  have q2a := q2 _ h00
  have q3a := q3 _ h00
  have q4a := q4 _ h00
  have CisRd := Lib.hid (fun w => isReg_ref d w)
  have CisRs := Lib.hid (fun w => isReg_ref s w)
  have CinZ := Lib.hid (fun w => fits_ref i 32 w (by decide))
  have CMR := Lib.hid (fun w => rmr_any 5 d w)
  have CDI : Hid (∀ w, Calls Try.prog 71 #[.int .i64 17] w fun e w' => e = .returned (.int .i64 5) ∧ w = w') := fun w => digit_any 17 w (by decide)
  obtain ⟨rd, hrd⟩ : ∃ b, isR d = b := ⟨_, rfl⟩
  rw [hrd] at CisRd
  obtain ⟨rs, hrs⟩ : ∃ b, isR s = b := ⟨_, rfl⟩
  rw [hrs] at CisRs
  have HRD := Lib.hid hrd
  clear hrd hrs
  obtain ⟨s0, hs0⟩ : ∃ b, (s == 0) = b := ⟨_, rfl⟩
  have hs1 : (s != 0) = !s0 := by simp [bne, hs0]
  obtain ⟨e0, he0⟩ : ∃ b, (i == 0) = b := ⟨_, rfl⟩
  go_enter Try.func49, Try.ntmps49
  go_upto_region 3 with (first | ((go_at_call 64; first | (with_reducible refine (CisRd.out _).mono ?_) | (with_reducible refine (CisRs.out _).mono ?_)); rintro e w' ⟨rfl, rfl⟩) | ((go_at_call 68; with_reducible refine (CinZ.out _).mono ?_); rintro e w' ⟨rfl, rfl⟩) | ((go_at_call 71; with_reducible refine (CDI.out _).mono ?_); rintro e w' ⟨rfl, rfl⟩))
  go_cut [6] from 19 to 31 (fun b wx => b = .bool (rd && (rs && e0)) ∧ W0 = wx)
  case first =>
    cases rd
    rotate_left
    cases rs
    all_goals
     exact qMi3
  case rest =>
    obtain ⟨rfl, rfl⟩ := hcut
    go_upto_region 4 with (first | ((go_at_call 64; first | (with_reducible refine (CisRd.out _).mono ?_) | (with_reducible refine (CisRs.out _).mono ?_)); rintro e w' ⟨rfl, rfl⟩) | ((go_at_call 68; with_reducible refine (CinZ.out _).mono ?_); rintro e w' ⟨rfl, rfl⟩) | ((go_at_call 71; with_reducible refine (CDI.out _).mono ?_); rintro e w' ⟨rfl, rfl⟩))
    go_cut [7] from 32 to 44 (fun b wx => b = .bool (rd && (s0 && e0)) ∧ W0 = wx)
    case first =>
      cases rd
      rotate_left
      cases s0
      all_goals
       exact qMi3
    case rest =>
      obtain ⟨rfl, rfl⟩ := hcut
      generalize (rd && (s0 && e0)) = one at *
      generalize (rd && (rs && e0)) = rg at *
      cases rd
      · have HOK : Hid (okI ⟨17, d, s, 32, i⟩ = false) := by show _ = _; simp [okI, szI, fitI, HRD.out]
        exact qMi0
      · cases s0
        · have HOK : Hid (okI ⟨17, d, s, 32, i⟩ = false) := by show _ = _; simp [okI, szI, fitI, HRD.out, hs0]
          exact qMi0
        · cases hz : inZ i 32
          · rw [hz] at CinZ
            have HOK : Hid (okI ⟨17, d, s, 32, i⟩ = false) := by show _ = _; simp [okI, szI, fitI, HRD.out, hs0, hz]
            clear hz
            exact qMi0
          · rw [hz] at CinZ
            have HOK : Hid (okI ⟨17, d, s, 32, i⟩ = true) := by show _ = _; simp [okI, szI, fitI, HRD.out, hs0, hz]
            have hzb : 0 ≤ i ∧ i ≤ 4294967295 := by have pz : pwZ 32 = 4294967296 := rfl; simp [inZ] at hz; omega
            clear hz
            obtain ⟨z1, z2⟩ := hzb
            have CSG := Lib.hid (fun w => signed_ref i 32 w hi (by omega) (by decide))
            have hsg : (i < 2147483648 ∧ sgB i 32 = i) ∨ (2147483648 ≤ i ∧ sgB i 32 = i - 4294967296) := by have e : sgB i 32 = if 2147483648 ≤ i then i - 4294967296 else i := rfl; rw [e]; split <;> omega
            by_cases hs : -128 ≤ sgB i 32 ∧ sgB i 32 ≤ 127
            · have HRW : Hid (∀ {wk : World} {v : Value} (u : Int), RowI wk w.heap.size 5 .u8 v [131, mrB 5 d, u] → u = i % 256 → RowI wk w.heap.size 5 .u8 v (bodyI ⟨17, d, s, 32, i⟩)) := fun u h e => by rw [show bodyI ⟨17, d, s, 32, i⟩ = [131, mrB 5 d, i % 256] by simp [bodyI, hs, digI], ← e]; exact h
              have u1 : decide (-128 ≤ sgB i 32) = true := decide_eq_true hs.1
              have u2 : decide (sgB i 32 ≤ 127) = true := decide_eq_true hs.2
              have HSG := Lib.hid hsg
              generalize sgB i 32 = g at *
              clear hsg hs
              exact qMi1
            · have HEQ : Hid ([129, mrB 5 d] ++ leB i 4 = bodyI ⟨17, d, s, 32, i⟩) := by show _ = _; simp [bodyI, hs, digI]
              have CY : Hid (∀ wk, Since W0 wk → Calls Try.prog 67 #[.int .i64 i, .int .i64 (IntKind.i64.wrap 4)] wk fun e w' => ∃ v, e = .returned v ∧ RowI w' W0.heap.size 5 .u8 v (leB i 4) ∧ Below wk.heap.size wk w' ∧ Since W0 w') := fun wk h => acc_r (little_any i 4 wk hi (by decide)) h
              have hml : (leB i 4).length = 4 := by simp [leB_length]
              have HLEN : Hid (([(0 : Int), 0]).length + (leB i 4).length ≤ 100000) := by show _ ≤ _; rw [hml]; decide
              have HPOS : Hid (0 < (leB i 4).length) := by show 0 < _; omega
              have HY5 : Hid ((leB i 4).length ≤ 140737488351232) := by show _ ≤ _; omega
              clear hml
              have HNS := Lib.hid hs
              obtain ⟨u1, hu1⟩ : ∃ b, decide (-128 ≤ sgB i 32) = b := ⟨_, rfl⟩
              obtain ⟨u2, hu2⟩ : ∃ b, decide (sgB i 32 ≤ 127) = b := ⟨_, rfl⟩
              have huu : (u1 && u2) = false := by rw [← hu1, ← hu2, Bool.eq_false_iff]; intro h; simp only [Bool.and_eq_true, decide_eq_true_eq] at h; exact hs h
              clear hs hsg
              generalize sgB i 32 = g at *
              cases u1
              · clear huu
                exact qMi11
              · cases u2
                · clear huu
                  exact qMi11
                · simp at huu
set_option maxRecDepth 100000 in
set_option maxHeartbeats 4000000 in
theorem ref_18_8 (d s i : Int) (w : World) (hi : I64 i) : Calls Try.prog 49 #[.agg #[.int .i64 18, .int .i64 d, .int .i64 s, .int .i64 8, .int .i64 i]] w (MRet ⟨18, d, s, 8, i⟩ w) := by
  obtain ⟨W0, hW0⟩ : ∃ W, w.alloc (.cells #[.int .i64 18, .int .i64 d, .int .i64 s, .int .i64 8, .int .i64 i] 25) = W := ⟨_, rfl⟩
  have HB : Hid (Below w.heap.size w W0) := by rw [← hW0]; exact (Below.refl _ _).alloc (Nat.le_refl _) _
  have hlt0 : w.heap.size < W0.heap.size := by rw [← hW0]; simp
  obtain ⟨q0, q1, q2, q3, q4⟩ := ins_box 18 d s 8 i w W0 hW0
  have h00 := Since.refl W0
  have q0a := q0 _ h00
  have q1a := q1 _ h00
  have q2a := q2 _ h00
  have q3a := q3 _ h00
  have q4a := q4 _ h00
  have CisRd := Lib.hid (fun w => isReg_ref d w)
  have CisRs := Lib.hid (fun w => isReg_ref s w)
  have CinZ := Lib.hid (fun w => fits_ref i 8 w (by decide))
  have CMR := Lib.hid (fun w => rmr_any 6 d w)
  have CDI : Hid (∀ w, Calls Try.prog 71 #[.int .i64 18] w fun e w' => e = .returned (.int .i64 6) ∧ w = w') := fun w => digit_any 18 w (by decide)
  obtain ⟨rd, hrd⟩ : ∃ b, isR d = b := ⟨_, rfl⟩
  rw [hrd] at CisRd
  obtain ⟨rs, hrs⟩ : ∃ b, isR s = b := ⟨_, rfl⟩
  rw [hrs] at CisRs
  have HRD := Lib.hid hrd
  clear hrd hrs
  obtain ⟨s0, hs0⟩ : ∃ b, (s == 0) = b := ⟨_, rfl⟩
  have hs1 : (s != 0) = !s0 := by simp [bne, hs0]
  obtain ⟨e0, he0⟩ : ∃ b, (i == 0) = b := ⟨_, rfl⟩
  go_enter Try.func49, Try.ntmps49
  go_upto_region 3 with (first | ((go_at_call 64; first | (with_reducible refine (CisRd.out _).mono ?_) | (with_reducible refine (CisRs.out _).mono ?_)); rintro e w' ⟨rfl, rfl⟩) | ((go_at_call 68; with_reducible refine (CinZ.out _).mono ?_); rintro e w' ⟨rfl, rfl⟩) | ((go_at_call 71; with_reducible refine (CDI.out _).mono ?_); rintro e w' ⟨rfl, rfl⟩))
  go_cut [6] from 19 to 31 (fun b wx => b = .bool (rd && (rs && e0)) ∧ W0 = wx)
  case first =>
    cases rd
    rotate_left
    cases rs
    all_goals
     exact qMi3
  case rest =>
    obtain ⟨rfl, rfl⟩ := hcut
    go_upto_region 4 with (first | ((go_at_call 64; first | (with_reducible refine (CisRd.out _).mono ?_) | (with_reducible refine (CisRs.out _).mono ?_)); rintro e w' ⟨rfl, rfl⟩) | ((go_at_call 68; with_reducible refine (CinZ.out _).mono ?_); rintro e w' ⟨rfl, rfl⟩) | ((go_at_call 71; with_reducible refine (CDI.out _).mono ?_); rintro e w' ⟨rfl, rfl⟩))
    go_cut [7] from 32 to 44 (fun b wx => b = .bool (rd && (s0 && e0)) ∧ W0 = wx)
    case first =>
      cases rd
      rotate_left
      cases s0
      all_goals
       exact qMi3
    case rest =>
      obtain ⟨rfl, rfl⟩ := hcut
      generalize (rd && (s0 && e0)) = one at *
      generalize (rd && (rs && e0)) = rg at *
      have HOK : Hid (okI ⟨18, d, s, 8, i⟩ = false) := by show _ = _; simp [okI, szI, fitI]
      exact qMi0
set_option maxRecDepth 100000 in
set_option maxHeartbeats 4000000 in
theorem ref_18_16 (d s i : Int) (w : World) (hi : I64 i) : Calls Try.prog 49 #[.agg #[.int .i64 18, .int .i64 d, .int .i64 s, .int .i64 16, .int .i64 i]] w (MRet ⟨18, d, s, 16, i⟩ w) := by
  obtain ⟨W0, hW0⟩ : ∃ W, w.alloc (.cells #[.int .i64 18, .int .i64 d, .int .i64 s, .int .i64 16, .int .i64 i] 25) = W := ⟨_, rfl⟩
  have HB : Hid (Below w.heap.size w W0) := by rw [← hW0]; exact (Below.refl _ _).alloc (Nat.le_refl _) _
  have hlt0 : w.heap.size < W0.heap.size := by rw [← hW0]; simp
  obtain ⟨q0, q1, q2, q3, q4⟩ := ins_box 18 d s 16 i w W0 hW0
  have h00 := Since.refl W0
  have q0a := q0 _ h00
  have q1a := q1 _ h00
  have q2a := q2 _ h00
  have q3a := q3 _ h00
  have q4a := q4 _ h00
  have CisRd := Lib.hid (fun w => isReg_ref d w)
  have CisRs := Lib.hid (fun w => isReg_ref s w)
  have CinZ := Lib.hid (fun w => fits_ref i 16 w (by decide))
  have CMR := Lib.hid (fun w => rmr_any 6 d w)
  have CDI : Hid (∀ w, Calls Try.prog 71 #[.int .i64 18] w fun e w' => e = .returned (.int .i64 6) ∧ w = w') := fun w => digit_any 18 w (by decide)
  obtain ⟨rd, hrd⟩ : ∃ b, isR d = b := ⟨_, rfl⟩
  rw [hrd] at CisRd
  obtain ⟨rs, hrs⟩ : ∃ b, isR s = b := ⟨_, rfl⟩
  rw [hrs] at CisRs
  have HRD := Lib.hid hrd
  clear hrd hrs
  obtain ⟨s0, hs0⟩ : ∃ b, (s == 0) = b := ⟨_, rfl⟩
  have hs1 : (s != 0) = !s0 := by simp [bne, hs0]
  obtain ⟨e0, he0⟩ : ∃ b, (i == 0) = b := ⟨_, rfl⟩
  go_enter Try.func49, Try.ntmps49
  go_upto_region 3 with (first | ((go_at_call 64; first | (with_reducible refine (CisRd.out _).mono ?_) | (with_reducible refine (CisRs.out _).mono ?_)); rintro e w' ⟨rfl, rfl⟩) | ((go_at_call 68; with_reducible refine (CinZ.out _).mono ?_); rintro e w' ⟨rfl, rfl⟩) | ((go_at_call 71; with_reducible refine (CDI.out _).mono ?_); rintro e w' ⟨rfl, rfl⟩))
  go_cut [6] from 19 to 31 (fun b wx => b = .bool (rd && (rs && e0)) ∧ W0 = wx)
  case first =>
    cases rd
    rotate_left
    cases rs
    all_goals
     exact qMi3
  case rest =>
    obtain ⟨rfl, rfl⟩ := hcut
    go_upto_region 4 with (first | ((go_at_call 64; first | (with_reducible refine (CisRd.out _).mono ?_) | (with_reducible refine (CisRs.out _).mono ?_)); rintro e w' ⟨rfl, rfl⟩) | ((go_at_call 68; with_reducible refine (CinZ.out _).mono ?_); rintro e w' ⟨rfl, rfl⟩) | ((go_at_call 71; with_reducible refine (CDI.out _).mono ?_); rintro e w' ⟨rfl, rfl⟩))
    go_cut [7] from 32 to 44 (fun b wx => b = .bool (rd && (s0 && e0)) ∧ W0 = wx)
    case first =>
      cases rd
      rotate_left
      cases s0
      all_goals
       exact qMi3
    case rest =>
      obtain ⟨rfl, rfl⟩ := hcut
      generalize (rd && (s0 && e0)) = one at *
      generalize (rd && (rs && e0)) = rg at *
      cases rd
      · have HOK : Hid (okI ⟨18, d, s, 16, i⟩ = false) := by show _ = _; simp [okI, szI, fitI, HRD.out]
        exact qMi0
      · cases s0
        · have HOK : Hid (okI ⟨18, d, s, 16, i⟩ = false) := by show _ = _; simp [okI, szI, fitI, HRD.out, hs0]
          exact qMi0
        · cases hz : inZ i 16
          · rw [hz] at CinZ
            have HOK : Hid (okI ⟨18, d, s, 16, i⟩ = false) := by show _ = _; simp [okI, szI, fitI, HRD.out, hs0, hz]
            clear hz
            exact qMi0
          · rw [hz] at CinZ
            have HOK : Hid (okI ⟨18, d, s, 16, i⟩ = true) := by show _ = _; simp [okI, szI, fitI, HRD.out, hs0, hz]
            have hzb : 0 ≤ i ∧ i ≤ 65535 := by have pz : pwZ 16 = 65536 := rfl; simp [inZ] at hz; omega
            clear hz
            obtain ⟨z1, z2⟩ := hzb
            have CSG := Lib.hid (fun w => signed_ref i 16 w hi (by omega) (by decide))
            have hsg : (i < 32768 ∧ sgB i 16 = i) ∨ (32768 ≤ i ∧ sgB i 16 = i - 65536) := by have e : sgB i 16 = if 32768 ≤ i then i - 65536 else i := rfl; rw [e]; split <;> omega
            by_cases hs : -128 ≤ sgB i 16 ∧ sgB i 16 ≤ 127
            · have HRW : Hid (∀ {wk : World} {v : Value} (u : Int), RowI wk w.heap.size 5 .u8 v [131, mrB 6 d, u] → u = i % 256 → RowI wk w.heap.size 5 .u8 v (bodyI ⟨18, d, s, 16, i⟩)) := fun u h e => by rw [show bodyI ⟨18, d, s, 16, i⟩ = [131, mrB 6 d, i % 256] by simp [bodyI, hs, digI], ← e]; exact h
              have u1 : decide (-128 ≤ sgB i 16) = true := decide_eq_true hs.1
              have u2 : decide (sgB i 16 ≤ 127) = true := decide_eq_true hs.2
              have HSG := Lib.hid hsg
              generalize sgB i 16 = g at *
              clear hsg hs
              exact qMi1
            · have HEQ : Hid ([129, mrB 6 d] ++ leB i 2 = bodyI ⟨18, d, s, 16, i⟩) := by show _ = _; simp [bodyI, hs, digI]
              have CY : Hid (∀ wk, Since W0 wk → Calls Try.prog 67 #[.int .i64 i, .int .i64 (IntKind.i64.wrap 2)] wk fun e w' => ∃ v, e = .returned v ∧ RowI w' W0.heap.size 5 .u8 v (leB i 2) ∧ Below wk.heap.size wk w' ∧ Since W0 w') := fun wk h => acc_r (little_any i 2 wk hi (by decide)) h
              have hml : (leB i 2).length = 2 := by simp [leB_length]
              have HLEN : Hid (([(0 : Int), 0]).length + (leB i 2).length ≤ 100000) := by show _ ≤ _; rw [hml]; decide
              have HPOS : Hid (0 < (leB i 2).length) := by show 0 < _; omega
              have HY5 : Hid ((leB i 2).length ≤ 140737488351232) := by show _ ≤ _; omega
              clear hml
              have HNS := Lib.hid hs
              obtain ⟨u1, hu1⟩ : ∃ b, decide (-128 ≤ sgB i 16) = b := ⟨_, rfl⟩
              obtain ⟨u2, hu2⟩ : ∃ b, decide (sgB i 16 ≤ 127) = b := ⟨_, rfl⟩
              have huu : (u1 && u2) = false := by rw [← hu1, ← hu2, Bool.eq_false_iff]; intro h; simp only [Bool.and_eq_true, decide_eq_true_eq] at h; exact hs h
              clear hs hsg
              generalize sgB i 16 = g at *
              cases u1
              · clear huu
                exact qMi12
              · cases u2
                · clear huu
                  exact qMi12
                · simp at huu
set_option maxRecDepth 100000 in
set_option maxHeartbeats 4000000 in
theorem ref_18_32 (d s i : Int) (w : World) (hi : I64 i) : Calls Try.prog 49 #[.agg #[.int .i64 18, .int .i64 d, .int .i64 s, .int .i64 32, .int .i64 i]] w (MRet ⟨18, d, s, 32, i⟩ w) := by
  obtain ⟨W0, hW0⟩ : ∃ W, w.alloc (.cells #[.int .i64 18, .int .i64 d, .int .i64 s, .int .i64 32, .int .i64 i] 25) = W := ⟨_, rfl⟩
  have HB : Hid (Below w.heap.size w W0) := by rw [← hW0]; exact (Below.refl _ _).alloc (Nat.le_refl _) _
  have hlt0 : w.heap.size < W0.heap.size := by rw [← hW0]; simp
  obtain ⟨q0, q1, q2, q3, q4⟩ := ins_box 18 d s 32 i w W0 hW0
  have h00 := Since.refl W0
  have q0a := q0 _ h00
  have q1a := q1 _ h00
  have q2a := q2 _ h00
  have q3a := q3 _ h00
  have q4a := q4 _ h00
  have CisRd := Lib.hid (fun w => isReg_ref d w)
  have CisRs := Lib.hid (fun w => isReg_ref s w)
  have CinZ := Lib.hid (fun w => fits_ref i 32 w (by decide))
  have CMR := Lib.hid (fun w => rmr_any 6 d w)
  have CDI : Hid (∀ w, Calls Try.prog 71 #[.int .i64 18] w fun e w' => e = .returned (.int .i64 6) ∧ w = w') := fun w => digit_any 18 w (by decide)
  obtain ⟨rd, hrd⟩ : ∃ b, isR d = b := ⟨_, rfl⟩
  rw [hrd] at CisRd
  obtain ⟨rs, hrs⟩ : ∃ b, isR s = b := ⟨_, rfl⟩
  rw [hrs] at CisRs
  have HRD := Lib.hid hrd
  clear hrd hrs
  obtain ⟨s0, hs0⟩ : ∃ b, (s == 0) = b := ⟨_, rfl⟩
  have hs1 : (s != 0) = !s0 := by simp [bne, hs0]
  obtain ⟨e0, he0⟩ : ∃ b, (i == 0) = b := ⟨_, rfl⟩
  go_enter Try.func49, Try.ntmps49
  go_upto_region 3 with (first | ((go_at_call 64; first | (with_reducible refine (CisRd.out _).mono ?_) | (with_reducible refine (CisRs.out _).mono ?_)); rintro e w' ⟨rfl, rfl⟩) | ((go_at_call 68; with_reducible refine (CinZ.out _).mono ?_); rintro e w' ⟨rfl, rfl⟩) | ((go_at_call 71; with_reducible refine (CDI.out _).mono ?_); rintro e w' ⟨rfl, rfl⟩))
  go_cut [6] from 19 to 31 (fun b wx => b = .bool (rd && (rs && e0)) ∧ W0 = wx)
  case first =>
    cases rd
    rotate_left
    cases rs
    all_goals
     exact qMi3
  case rest =>
    obtain ⟨rfl, rfl⟩ := hcut
    go_upto_region 4 with (first | ((go_at_call 64; first | (with_reducible refine (CisRd.out _).mono ?_) | (with_reducible refine (CisRs.out _).mono ?_)); rintro e w' ⟨rfl, rfl⟩) | ((go_at_call 68; with_reducible refine (CinZ.out _).mono ?_); rintro e w' ⟨rfl, rfl⟩) | ((go_at_call 71; with_reducible refine (CDI.out _).mono ?_); rintro e w' ⟨rfl, rfl⟩))
    go_cut [7] from 32 to 44 (fun b wx => b = .bool (rd && (s0 && e0)) ∧ W0 = wx)
    case first =>
      cases rd
      rotate_left
      cases s0
      all_goals
       exact qMi3
    case rest =>
      obtain ⟨rfl, rfl⟩ := hcut
      generalize (rd && (s0 && e0)) = one at *
      generalize (rd && (rs && e0)) = rg at *
      cases rd
      · have HOK : Hid (okI ⟨18, d, s, 32, i⟩ = false) := by show _ = _; simp [okI, szI, fitI, HRD.out]
        exact qMi0
      · cases s0
        · have HOK : Hid (okI ⟨18, d, s, 32, i⟩ = false) := by show _ = _; simp [okI, szI, fitI, HRD.out, hs0]
          exact qMi0
        · cases hz : inZ i 32
          · rw [hz] at CinZ
            have HOK : Hid (okI ⟨18, d, s, 32, i⟩ = false) := by show _ = _; simp [okI, szI, fitI, HRD.out, hs0, hz]
            clear hz
            exact qMi0
          · rw [hz] at CinZ
            have HOK : Hid (okI ⟨18, d, s, 32, i⟩ = true) := by show _ = _; simp [okI, szI, fitI, HRD.out, hs0, hz]
            have hzb : 0 ≤ i ∧ i ≤ 4294967295 := by have pz : pwZ 32 = 4294967296 := rfl; simp [inZ] at hz; omega
            clear hz
            obtain ⟨z1, z2⟩ := hzb
            have CSG := Lib.hid (fun w => signed_ref i 32 w hi (by omega) (by decide))
            have hsg : (i < 2147483648 ∧ sgB i 32 = i) ∨ (2147483648 ≤ i ∧ sgB i 32 = i - 4294967296) := by have e : sgB i 32 = if 2147483648 ≤ i then i - 4294967296 else i := rfl; rw [e]; split <;> omega
            by_cases hs : -128 ≤ sgB i 32 ∧ sgB i 32 ≤ 127
            · have HRW : Hid (∀ {wk : World} {v : Value} (u : Int), RowI wk w.heap.size 5 .u8 v [131, mrB 6 d, u] → u = i % 256 → RowI wk w.heap.size 5 .u8 v (bodyI ⟨18, d, s, 32, i⟩)) := fun u h e => by rw [show bodyI ⟨18, d, s, 32, i⟩ = [131, mrB 6 d, i % 256] by simp [bodyI, hs, digI], ← e]; exact h
              have u1 : decide (-128 ≤ sgB i 32) = true := decide_eq_true hs.1
              have u2 : decide (sgB i 32 ≤ 127) = true := decide_eq_true hs.2
              have HSG := Lib.hid hsg
              generalize sgB i 32 = g at *
              clear hsg hs
              exact qMi1
            · have HEQ : Hid ([129, mrB 6 d] ++ leB i 4 = bodyI ⟨18, d, s, 32, i⟩) := by show _ = _; simp [bodyI, hs, digI]
              have CY : Hid (∀ wk, Since W0 wk → Calls Try.prog 67 #[.int .i64 i, .int .i64 (IntKind.i64.wrap 4)] wk fun e w' => ∃ v, e = .returned v ∧ RowI w' W0.heap.size 5 .u8 v (leB i 4) ∧ Below wk.heap.size wk w' ∧ Since W0 w') := fun wk h => acc_r (little_any i 4 wk hi (by decide)) h
              have hml : (leB i 4).length = 4 := by simp [leB_length]
              have HLEN : Hid (([(0 : Int), 0]).length + (leB i 4).length ≤ 100000) := by show _ ≤ _; rw [hml]; decide
              have HPOS : Hid (0 < (leB i 4).length) := by show 0 < _; omega
              have HY5 : Hid ((leB i 4).length ≤ 140737488351232) := by show _ ≤ _; omega
              clear hml
              have HNS := Lib.hid hs
              obtain ⟨u1, hu1⟩ : ∃ b, decide (-128 ≤ sgB i 32) = b := ⟨_, rfl⟩
              obtain ⟨u2, hu2⟩ : ∃ b, decide (sgB i 32 ≤ 127) = b := ⟨_, rfl⟩
              have huu : (u1 && u2) = false := by rw [← hu1, ← hu2, Bool.eq_false_iff]; intro h; simp only [Bool.and_eq_true, decide_eq_true_eq] at h; exact hs h
              clear hs hsg
              generalize sgB i 32 = g at *
              cases u1
              · clear huu
                exact qMi13
              · cases u2
                · clear huu
                  exact qMi13
                · simp at huu
set_option maxRecDepth 100000 in
set_option maxHeartbeats 4000000 in
theorem ref_19_8 (d s i : Int) (w : World) (hi : I64 i) : Calls Try.prog 49 #[.agg #[.int .i64 19, .int .i64 d, .int .i64 s, .int .i64 8, .int .i64 i]] w (MRet ⟨19, d, s, 8, i⟩ w) := by
  obtain ⟨W0, hW0⟩ : ∃ W, w.alloc (.cells #[.int .i64 19, .int .i64 d, .int .i64 s, .int .i64 8, .int .i64 i] 25) = W := ⟨_, rfl⟩
  have HB : Hid (Below w.heap.size w W0) := by rw [← hW0]; exact (Below.refl _ _).alloc (Nat.le_refl _) _
  have hlt0 : w.heap.size < W0.heap.size := by rw [← hW0]; simp
  obtain ⟨q0, q1, q2, q3, q4⟩ := ins_box 19 d s 8 i w W0 hW0
  have h00 := Since.refl W0
  have q0a := q0 _ h00
  have q1a := q1 _ h00
  have q2a := q2 _ h00
  have q3a := q3 _ h00
  have q4a := q4 _ h00
  have CisRd := Lib.hid (fun w => isReg_ref d w)
  have CisRs := Lib.hid (fun w => isReg_ref s w)
  have CinZ := Lib.hid (fun w => fits_ref i 8 w (by decide))
  have CMR := Lib.hid (fun w => rmr_any 7 d w)
  have CDI : Hid (∀ w, Calls Try.prog 71 #[.int .i64 19] w fun e w' => e = .returned (.int .i64 7) ∧ w = w') := fun w => digit_any 19 w (by decide)
  obtain ⟨rd, hrd⟩ : ∃ b, isR d = b := ⟨_, rfl⟩
  rw [hrd] at CisRd
  obtain ⟨rs, hrs⟩ : ∃ b, isR s = b := ⟨_, rfl⟩
  rw [hrs] at CisRs
  have HRD := Lib.hid hrd
  clear hrd hrs
  obtain ⟨s0, hs0⟩ : ∃ b, (s == 0) = b := ⟨_, rfl⟩
  have hs1 : (s != 0) = !s0 := by simp [bne, hs0]
  obtain ⟨e0, he0⟩ : ∃ b, (i == 0) = b := ⟨_, rfl⟩
  go_enter Try.func49, Try.ntmps49
  go_upto_region 3 with (first | ((go_at_call 64; first | (with_reducible refine (CisRd.out _).mono ?_) | (with_reducible refine (CisRs.out _).mono ?_)); rintro e w' ⟨rfl, rfl⟩) | ((go_at_call 68; with_reducible refine (CinZ.out _).mono ?_); rintro e w' ⟨rfl, rfl⟩) | ((go_at_call 71; with_reducible refine (CDI.out _).mono ?_); rintro e w' ⟨rfl, rfl⟩))
  go_cut [6] from 19 to 31 (fun b wx => b = .bool (rd && (rs && e0)) ∧ W0 = wx)
  case first =>
    cases rd
    rotate_left
    cases rs
    all_goals
     exact qMi3
  case rest =>
    obtain ⟨rfl, rfl⟩ := hcut
    go_upto_region 4 with (first | ((go_at_call 64; first | (with_reducible refine (CisRd.out _).mono ?_) | (with_reducible refine (CisRs.out _).mono ?_)); rintro e w' ⟨rfl, rfl⟩) | ((go_at_call 68; with_reducible refine (CinZ.out _).mono ?_); rintro e w' ⟨rfl, rfl⟩) | ((go_at_call 71; with_reducible refine (CDI.out _).mono ?_); rintro e w' ⟨rfl, rfl⟩))
    go_cut [7] from 32 to 44 (fun b wx => b = .bool (rd && (s0 && e0)) ∧ W0 = wx)
    case first =>
      cases rd
      rotate_left
      cases s0
      all_goals
       exact qMi3
    case rest =>
      obtain ⟨rfl, rfl⟩ := hcut
      generalize (rd && (s0 && e0)) = one at *
      generalize (rd && (rs && e0)) = rg at *
      have HOK : Hid (okI ⟨19, d, s, 8, i⟩ = false) := by show _ = _; simp [okI, szI, fitI]
      exact qMi0
set_option maxRecDepth 100000 in
set_option maxHeartbeats 4000000 in
theorem ref_19_16 (d s i : Int) (w : World) (hi : I64 i) : Calls Try.prog 49 #[.agg #[.int .i64 19, .int .i64 d, .int .i64 s, .int .i64 16, .int .i64 i]] w (MRet ⟨19, d, s, 16, i⟩ w) := by
  obtain ⟨W0, hW0⟩ : ∃ W, w.alloc (.cells #[.int .i64 19, .int .i64 d, .int .i64 s, .int .i64 16, .int .i64 i] 25) = W := ⟨_, rfl⟩
  have HB : Hid (Below w.heap.size w W0) := by rw [← hW0]; exact (Below.refl _ _).alloc (Nat.le_refl _) _
  have hlt0 : w.heap.size < W0.heap.size := by rw [← hW0]; simp
  obtain ⟨q0, q1, q2, q3, q4⟩ := ins_box 19 d s 16 i w W0 hW0
  have h00 := Since.refl W0
  have q0a := q0 _ h00
  have q1a := q1 _ h00
  have q2a := q2 _ h00
  have q3a := q3 _ h00
  have q4a := q4 _ h00
  have CisRd := Lib.hid (fun w => isReg_ref d w)
  have CisRs := Lib.hid (fun w => isReg_ref s w)
  have CinZ := Lib.hid (fun w => fits_ref i 16 w (by decide))
  have CMR := Lib.hid (fun w => rmr_any 7 d w)
  have CDI : Hid (∀ w, Calls Try.prog 71 #[.int .i64 19] w fun e w' => e = .returned (.int .i64 7) ∧ w = w') := fun w => digit_any 19 w (by decide)
  obtain ⟨rd, hrd⟩ : ∃ b, isR d = b := ⟨_, rfl⟩
  rw [hrd] at CisRd
  obtain ⟨rs, hrs⟩ : ∃ b, isR s = b := ⟨_, rfl⟩
  rw [hrs] at CisRs
  have HRD := Lib.hid hrd
  clear hrd hrs
  obtain ⟨s0, hs0⟩ : ∃ b, (s == 0) = b := ⟨_, rfl⟩
  have hs1 : (s != 0) = !s0 := by simp [bne, hs0]
  obtain ⟨e0, he0⟩ : ∃ b, (i == 0) = b := ⟨_, rfl⟩
  go_enter Try.func49, Try.ntmps49
  go_upto_region 3 with (first | ((go_at_call 64; first | (with_reducible refine (CisRd.out _).mono ?_) | (with_reducible refine (CisRs.out _).mono ?_)); rintro e w' ⟨rfl, rfl⟩) | ((go_at_call 68; with_reducible refine (CinZ.out _).mono ?_); rintro e w' ⟨rfl, rfl⟩) | ((go_at_call 71; with_reducible refine (CDI.out _).mono ?_); rintro e w' ⟨rfl, rfl⟩))
  go_cut [6] from 19 to 31 (fun b wx => b = .bool (rd && (rs && e0)) ∧ W0 = wx)
  case first =>
    cases rd
    rotate_left
    cases rs
    all_goals
     exact qMi3
  case rest =>
    obtain ⟨rfl, rfl⟩ := hcut
    go_upto_region 4 with (first | ((go_at_call 64; first | (with_reducible refine (CisRd.out _).mono ?_) | (with_reducible refine (CisRs.out _).mono ?_)); rintro e w' ⟨rfl, rfl⟩) | ((go_at_call 68; with_reducible refine (CinZ.out _).mono ?_); rintro e w' ⟨rfl, rfl⟩) | ((go_at_call 71; with_reducible refine (CDI.out _).mono ?_); rintro e w' ⟨rfl, rfl⟩))
    go_cut [7] from 32 to 44 (fun b wx => b = .bool (rd && (s0 && e0)) ∧ W0 = wx)
    case first =>
      cases rd
      rotate_left
      cases s0
      all_goals
       exact qMi3
    case rest =>
      obtain ⟨rfl, rfl⟩ := hcut
      generalize (rd && (s0 && e0)) = one at *
      generalize (rd && (rs && e0)) = rg at *
      cases rd
      · have HOK : Hid (okI ⟨19, d, s, 16, i⟩ = false) := by show _ = _; simp [okI, szI, fitI, HRD.out]
        exact qMi0
      · cases s0
        · have HOK : Hid (okI ⟨19, d, s, 16, i⟩ = false) := by show _ = _; simp [okI, szI, fitI, HRD.out, hs0]
          exact qMi0
        · cases hz : inZ i 16
          · rw [hz] at CinZ
            have HOK : Hid (okI ⟨19, d, s, 16, i⟩ = false) := by show _ = _; simp [okI, szI, fitI, HRD.out, hs0, hz]
            clear hz
            exact qMi0
          · rw [hz] at CinZ
            have HOK : Hid (okI ⟨19, d, s, 16, i⟩ = true) := by show _ = _; simp [okI, szI, fitI, HRD.out, hs0, hz]
            have hzb : 0 ≤ i ∧ i ≤ 65535 := by have pz : pwZ 16 = 65536 := rfl; simp [inZ] at hz; omega
            clear hz
            obtain ⟨z1, z2⟩ := hzb
            have CSG := Lib.hid (fun w => signed_ref i 16 w hi (by omega) (by decide))
            have hsg : (i < 32768 ∧ sgB i 16 = i) ∨ (32768 ≤ i ∧ sgB i 16 = i - 65536) := by have e : sgB i 16 = if 32768 ≤ i then i - 65536 else i := rfl; rw [e]; split <;> omega
            by_cases hs : -128 ≤ sgB i 16 ∧ sgB i 16 ≤ 127
            · have HRW : Hid (∀ {wk : World} {v : Value} (u : Int), RowI wk w.heap.size 5 .u8 v [131, mrB 7 d, u] → u = i % 256 → RowI wk w.heap.size 5 .u8 v (bodyI ⟨19, d, s, 16, i⟩)) := fun u h e => by rw [show bodyI ⟨19, d, s, 16, i⟩ = [131, mrB 7 d, i % 256] by simp [bodyI, hs, digI], ← e]; exact h
              have u1 : decide (-128 ≤ sgB i 16) = true := decide_eq_true hs.1
              have u2 : decide (sgB i 16 ≤ 127) = true := decide_eq_true hs.2
              have HSG := Lib.hid hsg
              generalize sgB i 16 = g at *
              clear hsg hs
              exact qMi1
            · have HEQ : Hid ([129, mrB 7 d] ++ leB i 2 = bodyI ⟨19, d, s, 16, i⟩) := by show _ = _; simp [bodyI, hs, digI]
              have CY : Hid (∀ wk, Since W0 wk → Calls Try.prog 67 #[.int .i64 i, .int .i64 (IntKind.i64.wrap 2)] wk fun e w' => ∃ v, e = .returned v ∧ RowI w' W0.heap.size 5 .u8 v (leB i 2) ∧ Below wk.heap.size wk w' ∧ Since W0 w') := fun wk h => acc_r (little_any i 2 wk hi (by decide)) h
              have hml : (leB i 2).length = 2 := by simp [leB_length]
              have HLEN : Hid (([(0 : Int), 0]).length + (leB i 2).length ≤ 100000) := by show _ ≤ _; rw [hml]; decide
              have HPOS : Hid (0 < (leB i 2).length) := by show 0 < _; omega
              have HY5 : Hid ((leB i 2).length ≤ 140737488351232) := by show _ ≤ _; omega
              clear hml
              have HNS := Lib.hid hs
              obtain ⟨u1, hu1⟩ : ∃ b, decide (-128 ≤ sgB i 16) = b := ⟨_, rfl⟩
              obtain ⟨u2, hu2⟩ : ∃ b, decide (sgB i 16 ≤ 127) = b := ⟨_, rfl⟩
              have huu : (u1 && u2) = false := by rw [← hu1, ← hu2, Bool.eq_false_iff]; intro h; simp only [Bool.and_eq_true, decide_eq_true_eq] at h; exact hs h
              clear hs hsg
              generalize sgB i 16 = g at *
              cases u1
              · clear huu
                exact qMi14
              · cases u2
                · clear huu
                  exact qMi14
                · simp at huu
set_option maxRecDepth 100000 in
set_option maxHeartbeats 4000000 in
theorem ref_19_32 (d s i : Int) (w : World) (hi : I64 i) : Calls Try.prog 49 #[.agg #[.int .i64 19, .int .i64 d, .int .i64 s, .int .i64 32, .int .i64 i]] w (MRet ⟨19, d, s, 32, i⟩ w) := by
  obtain ⟨W0, hW0⟩ : ∃ W, w.alloc (.cells #[.int .i64 19, .int .i64 d, .int .i64 s, .int .i64 32, .int .i64 i] 25) = W := ⟨_, rfl⟩
  have HB : Hid (Below w.heap.size w W0) := by rw [← hW0]; exact (Below.refl _ _).alloc (Nat.le_refl _) _
  have hlt0 : w.heap.size < W0.heap.size := by rw [← hW0]; simp
  obtain ⟨q0, q1, q2, q3, q4⟩ := ins_box 19 d s 32 i w W0 hW0
  have h00 := Since.refl W0
  have q0a := q0 _ h00
  have q1a := q1 _ h00
  have q2a := q2 _ h00
  have q3a := q3 _ h00
  have q4a := q4 _ h00
  have CisRd := Lib.hid (fun w => isReg_ref d w)
  have CisRs := Lib.hid (fun w => isReg_ref s w)
  have CinZ := Lib.hid (fun w => fits_ref i 32 w (by decide))
  have CMR := Lib.hid (fun w => rmr_any 7 d w)
  have CDI : Hid (∀ w, Calls Try.prog 71 #[.int .i64 19] w fun e w' => e = .returned (.int .i64 7) ∧ w = w') := fun w => digit_any 19 w (by decide)
  obtain ⟨rd, hrd⟩ : ∃ b, isR d = b := ⟨_, rfl⟩
  rw [hrd] at CisRd
  obtain ⟨rs, hrs⟩ : ∃ b, isR s = b := ⟨_, rfl⟩
  rw [hrs] at CisRs
  have HRD := Lib.hid hrd
  clear hrd hrs
  obtain ⟨s0, hs0⟩ : ∃ b, (s == 0) = b := ⟨_, rfl⟩
  have hs1 : (s != 0) = !s0 := by simp [bne, hs0]
  obtain ⟨e0, he0⟩ : ∃ b, (i == 0) = b := ⟨_, rfl⟩
  go_enter Try.func49, Try.ntmps49
  go_upto_region 3 with (first | ((go_at_call 64; first | (with_reducible refine (CisRd.out _).mono ?_) | (with_reducible refine (CisRs.out _).mono ?_)); rintro e w' ⟨rfl, rfl⟩) | ((go_at_call 68; with_reducible refine (CinZ.out _).mono ?_); rintro e w' ⟨rfl, rfl⟩) | ((go_at_call 71; with_reducible refine (CDI.out _).mono ?_); rintro e w' ⟨rfl, rfl⟩))
  go_cut [6] from 19 to 31 (fun b wx => b = .bool (rd && (rs && e0)) ∧ W0 = wx)
  case first =>
    cases rd
    rotate_left
    cases rs
    all_goals
     exact qMi3
  case rest =>
    obtain ⟨rfl, rfl⟩ := hcut
    go_upto_region 4 with (first | ((go_at_call 64; first | (with_reducible refine (CisRd.out _).mono ?_) | (with_reducible refine (CisRs.out _).mono ?_)); rintro e w' ⟨rfl, rfl⟩) | ((go_at_call 68; with_reducible refine (CinZ.out _).mono ?_); rintro e w' ⟨rfl, rfl⟩) | ((go_at_call 71; with_reducible refine (CDI.out _).mono ?_); rintro e w' ⟨rfl, rfl⟩))
    go_cut [7] from 32 to 44 (fun b wx => b = .bool (rd && (s0 && e0)) ∧ W0 = wx)
    case first =>
      cases rd
      rotate_left
      cases s0
      all_goals
       exact qMi3
    case rest =>
      obtain ⟨rfl, rfl⟩ := hcut
      generalize (rd && (s0 && e0)) = one at *
      generalize (rd && (rs && e0)) = rg at *
      cases rd
      · have HOK : Hid (okI ⟨19, d, s, 32, i⟩ = false) := by show _ = _; simp [okI, szI, fitI, HRD.out]
        exact qMi0
      · cases s0
        · have HOK : Hid (okI ⟨19, d, s, 32, i⟩ = false) := by show _ = _; simp [okI, szI, fitI, HRD.out, hs0]
          exact qMi0
        · cases hz : inZ i 32
          · rw [hz] at CinZ
            have HOK : Hid (okI ⟨19, d, s, 32, i⟩ = false) := by show _ = _; simp [okI, szI, fitI, HRD.out, hs0, hz]
            clear hz
            exact qMi0
          · rw [hz] at CinZ
            have HOK : Hid (okI ⟨19, d, s, 32, i⟩ = true) := by show _ = _; simp [okI, szI, fitI, HRD.out, hs0, hz]
            have hzb : 0 ≤ i ∧ i ≤ 4294967295 := by have pz : pwZ 32 = 4294967296 := rfl; simp [inZ] at hz; omega
            clear hz
            obtain ⟨z1, z2⟩ := hzb
            have CSG := Lib.hid (fun w => signed_ref i 32 w hi (by omega) (by decide))
            have hsg : (i < 2147483648 ∧ sgB i 32 = i) ∨ (2147483648 ≤ i ∧ sgB i 32 = i - 4294967296) := by have e : sgB i 32 = if 2147483648 ≤ i then i - 4294967296 else i := rfl; rw [e]; split <;> omega
            by_cases hs : -128 ≤ sgB i 32 ∧ sgB i 32 ≤ 127
            · have HRW : Hid (∀ {wk : World} {v : Value} (u : Int), RowI wk w.heap.size 5 .u8 v [131, mrB 7 d, u] → u = i % 256 → RowI wk w.heap.size 5 .u8 v (bodyI ⟨19, d, s, 32, i⟩)) := fun u h e => by rw [show bodyI ⟨19, d, s, 32, i⟩ = [131, mrB 7 d, i % 256] by simp [bodyI, hs, digI], ← e]; exact h
              have u1 : decide (-128 ≤ sgB i 32) = true := decide_eq_true hs.1
              have u2 : decide (sgB i 32 ≤ 127) = true := decide_eq_true hs.2
              have HSG := Lib.hid hsg
              generalize sgB i 32 = g at *
              clear hsg hs
              exact qMi1
            · have HEQ : Hid ([129, mrB 7 d] ++ leB i 4 = bodyI ⟨19, d, s, 32, i⟩) := by show _ = _; simp [bodyI, hs, digI]
              have CY : Hid (∀ wk, Since W0 wk → Calls Try.prog 67 #[.int .i64 i, .int .i64 (IntKind.i64.wrap 4)] wk fun e w' => ∃ v, e = .returned v ∧ RowI w' W0.heap.size 5 .u8 v (leB i 4) ∧ Below wk.heap.size wk w' ∧ Since W0 w') := fun wk h => acc_r (little_any i 4 wk hi (by decide)) h
              have hml : (leB i 4).length = 4 := by simp [leB_length]
              have HLEN : Hid (([(0 : Int), 0]).length + (leB i 4).length ≤ 100000) := by show _ ≤ _; rw [hml]; decide
              have HPOS : Hid (0 < (leB i 4).length) := by show 0 < _; omega
              have HY5 : Hid ((leB i 4).length ≤ 140737488351232) := by show _ ≤ _; omega
              clear hml
              have HNS := Lib.hid hs
              obtain ⟨u1, hu1⟩ : ∃ b, decide (-128 ≤ sgB i 32) = b := ⟨_, rfl⟩
              obtain ⟨u2, hu2⟩ : ∃ b, decide (sgB i 32 ≤ 127) = b := ⟨_, rfl⟩
              have huu : (u1 && u2) = false := by rw [← hu1, ← hu2, Bool.eq_false_iff]; intro h; simp only [Bool.and_eq_true, decide_eq_true_eq] at h; exact hs h
              clear hs hsg
              generalize sgB i 32 = g at *
              cases u1
              · clear huu
                exact qMi15
              · cases u2
                · clear huu
                  exact qMi15
                · simp at huu
end Go.Proofs.Ytdojafpjipcbjaa
