/- -/
import Derived.Test.YtgcfadnnajahhaaRows
import Derived.WalkKit
import Derived.WalkSpells
import Derived.WalkLawsBesides
import Derived.Laws.EntriesVeiled
import Derived.Lib.Hide
import Derived.OwnWalk
import Derived.Laws.OwnMore
import Derived.Deep.Quiet
import Derived.StillTail
import Derived.BigQuiet
import Derived.Below
import Derived.Deep.QuietTactic
import Derived.Deep.RegionHeld3
import Derived.BigGuardPart
import Derived.Deep.AppendLies
import Derived.Deep.Cut
import Derived.Maps.Keyed
import Derived.DeepKeys5
import Derived.Deep.DeepMust
import Derived.Sort.Grow
import Derived.Shelf.SlicesQ.IndexFunc
import Derived.Ground.SlgfProg
import Derived.Shelf.SlicesE.IndexFunc
import Derived.Shelf.SlSorted.IsSorted
import Derived.Ground.SlsoProg
import Derived.Deep.MidRow
import Derived.Laws.CopyOwn
import Derived.Laws.ResultCell
import Derived.Laws.StructEq
import Derived.ChangeKeysEq
import Derived.Shelf.SlSortCmp.NoneTotal
import Derived.Ground.SlsfProg
import Derived.Deep.RegionWith
import Derived.Laws.AppendOwnNone
set_option maxHeartbeats 1000000
set_option maxRecDepth 100000
namespace Go.Proofs.Ytgcfadnnajahhaa
set_option linter.unusedVariables false
set_option linter.unusedSimpArgs false
structure Pl where
  f : Int
  t : Int
  v : Int
  k : Int
  n : Int
  deriving DecidableEq, Inhabited
def Pl.lt (a b : Pl) : Prop := a.f < b.f ∨ (a.f = b.f ∧ (a.t < b.t ∨ (a.t = b.t ∧ (a.v < b.v ∨ (a.v = b.v ∧ (a.k < b.k ∨ (a.k = b.k ∧ a.n < b.n)))))))
theorem Pl.ext' {a b : Pl} (h1 : a.f = b.f) (h2 : a.t = b.t) (h3 : a.v = b.v) (h4 : a.k = b.k) (h5 : a.n = b.n) : a = b := by cases a; cases b; simp_all
theorem Pl.lt_irrefl (a : Pl) : ¬ a.lt a := by unfold Pl.lt; omega
theorem Pl.lt_trans {a b c : Pl} (h : a.lt b) (h' : b.lt c) : a.lt c := by unfold Pl.lt at *; omega
theorem Pl.lt_tri (a b : Pl) : a.lt b ∨ a = b ∨ b.lt a := by
  by_cases h : a = b
  · exact .inr (.inl h)
  · by_cases h1 : a.lt b
    · exact .inl h1
    · refine .inr (.inr ?_)
      have hne : ¬ (a.f = b.f ∧ a.t = b.t ∧ a.v = b.v ∧ a.k = b.k ∧ a.n = b.n) := fun ⟨e1, e2, e3, e4, e5⟩ => h (Pl.ext' e1 e2 e3 e4 e5)
      unfold Pl.lt at *; omega
def Pl.th (a b : Pl) : Prop := a.v = b.v ∧ a.k = b.k ∧ a.n = b.n
instance (a b : Pl) : Decidable (a.th b) := by unfold Pl.th; infer_instance
def limP (k : Int) : Int := if k = 0 then 31 else if k = 1 then 32764 else 4294967295
def Pl.ok (x : Pl) : Prop := 0 ≤ x.f ∧ x.f < x.t ∧ x.t ≤ 32768 ∧ (0 ≤ x.v ∧ x.v ≤ 63) ∧ (0 ≤ x.k ∧ x.k ≤ 2) ∧ (0 ≤ x.n ∧ x.n ≤ limP x.k)
def Pl.meet (x y : Pl) : Prop := x.v = y.v ∧ x.f < y.t ∧ y.f < x.t
def cov (l : List Pl) (v k n a : Int) : Prop := ∃ x ∈ l, (x.v = v ∧ x.k = k ∧ x.n = n) ∧ x.f ≤ a ∧ a < x.t
def ApartP (l : List Pl) : Prop := ∀ x ∈ l, ∀ y ∈ l, x.meet y → x = y
def Ends (l : List Pl) : Prop := ∀ x ∈ l, ∀ y ∈ l, x.th y → x.t ≠ y.f
structure ValidP (l : List Pl) : Prop where
  len : l.length ≤ 64
  ok : ∀ x ∈ l, x.ok
  srt : l.Pairwise Pl.lt
  apart : l.Pairwise fun x y => ¬ x.meet y
theorem Pl.meet_comm {x y : Pl} (h : x.meet y) : y.meet x := ⟨h.1.symm, h.2.2, h.2.1⟩
theorem apart_of {l : List Pl} (h : l.Pairwise fun x y => ¬ x.meet y) : ApartP l := by
  induction l with
  | nil => intro x hx; cases hx
  | cons a l ih =>
    rw [List.pairwise_cons] at h
    intro x hx y hy hm
    rcases List.mem_cons.1 hx with e | hx'
    · rcases List.mem_cons.1 hy with e' | hy'
      · rw [e, e']
      · subst e; exact absurd hm (h.1 y hy')
    · rcases List.mem_cons.1 hy with e' | hy'
      · subst e'; exact absurd (Pl.meet_comm hm) (h.1 x hx')
      · exact ih h.2 x hx' y hy' hm
theorem ValidP.apt {l : List Pl} (h : ValidP l) : ApartP l := apart_of h.apart
theorem sorted_eq : ∀ {l m : List Pl}, l.Pairwise Pl.lt → m.Pairwise Pl.lt → (∀ x, x ∈ l ↔ x ∈ m) → l = m
  | [], [], _, _, _ => rfl
  | [], b :: m, _, _, h => by have := (h b).2 (List.mem_cons_self ..); cases this
  | a :: l, [], _, _, h => by have := (h a).1 (List.mem_cons_self ..); cases this
  | a :: l, b :: m, h1, h2, h => by
    rw [List.pairwise_cons] at h1 h2
    have e : a = b := by
      rcases List.mem_cons.1 ((h a).1 (List.mem_cons_self ..)) with e | hm
      · exact e
      · rcases List.mem_cons.1 ((h b).2 (List.mem_cons_self ..)) with e | hl
        · exact e.symm
        · exact absurd (Pl.lt_trans (h1.1 b hl) (h2.1 a hm)) (Pl.lt_irrefl a)
    subst e
    congr 1
    refine sorted_eq h1.2 h2.2 fun x => ⟨fun hx => ?_, fun hx => ?_⟩
    · rcases List.mem_cons.1 ((h x).1 (List.mem_cons_of_mem _ hx)) with e | hm
      · subst e; exact absurd (h1.1 x hx) (Pl.lt_irrefl x)
      · exact hm
    · rcases List.mem_cons.1 ((h x).2 (List.mem_cons_of_mem _ hx)) with e | hm
      · subst e; exact absurd (h2.1 x hx) (Pl.lt_irrefl x)
      · exact hm
theorem canon_sub {l m : List Pl} (hl : ∀ x ∈ l, x.f < x.t) (al : ApartP l) (am : ApartP m) (el : Ends l) (em : Ends m) (hm : ∀ x ∈ m, x.f < x.t) (h : ∀ v k n a, cov l v k n a ↔ cov m v k n a) : ∀ x ∈ l, x ∈ m := by
  intro x hx
  have hxt := hl x hx
  obtain ⟨y, hy, ⟨y1, y2, y3⟩, y4, y5⟩ := (h x.v x.k x.n x.f).1 ⟨x, hx, ⟨rfl, rfl, rfl⟩, by omega, hxt⟩
  have e1 : y.f = x.f := by
    by_cases e : y.f = x.f
    · exact e
    · exfalso
      obtain ⟨z, hz, ⟨z1, z2, z3⟩, z4, z5⟩ := (h x.v x.k x.n (x.f - 1)).2 ⟨y, hy, ⟨y1, y2, y3⟩, by omega, by omega⟩
      by_cases e2 : z.t = x.f
      · exact el z hz x hx ⟨z1, z2, z3⟩ e2
      · have := al z hz x hx ⟨z1, by omega, by omega⟩
        subst this; omega
  have e2 : y.t = x.t := by
    rcases Int.lt_trichotomy y.t x.t with e | e | e
    · exfalso
      obtain ⟨z, hz, ⟨z1, z2, z3⟩, z4, z5⟩ := (h x.v x.k x.n y.t).1 ⟨x, hx, ⟨rfl, rfl, rfl⟩, by omega, e⟩
      by_cases e3 : z.f = y.t
      · exact em y hy z hz ⟨by omega, by omega, by omega⟩ e3.symm
      · have := am z hz y hy ⟨by omega, by omega, by omega⟩
        subst this; omega
    · exact e
    · exfalso
      obtain ⟨z, hz, ⟨z1, z2, z3⟩, z4, z5⟩ := (h x.v x.k x.n x.t).2 ⟨y, hy, ⟨y1, y2, y3⟩, by omega, e⟩
      by_cases e3 : z.f = x.t
      · exact el x hx z hz ⟨by omega, by omega, by omega⟩ e3.symm
      · have := al z hz x hx ⟨z1, by omega, by omega⟩
        subst this; omega
  have : x = y := Pl.ext' e1.symm e2.symm y1.symm y2.symm y3.symm
  rw [this]; exact hy
theorem canon_eq {l m : List Pl} (hl : ∀ x ∈ l, x.f < x.t) (hm : ∀ x ∈ m, x.f < x.t) (al : ApartP l) (am : ApartP m) (el : Ends l) (em : Ends m) (sl : l.Pairwise Pl.lt) (sm : m.Pairwise Pl.lt) (h : ∀ v k n a, cov l v k n a ↔ cov m v k n a) : l = m :=
  sorted_eq sl sm fun x => ⟨canon_sub hl al am el em hm h x, canon_sub hm am al em el hl (fun v k n a => (h v k n a).symm) x⟩
def mext (x y : Pl) : Pl := if y.th x ∧ y.t = x.f then { y with t := x.t } else y
def mstep (out : List Pl) (x : Pl) : List Pl := if ∃ y ∈ out, y.th x ∧ y.t = x.f then out.map (mext x) else out ++ [x]
def mrg (l : List Pl) : List Pl := l.foldl mstep []
structure MInv (p out : List Pl) : Prop where
  len : out.length ≤ p.length
  ok : ∀ x ∈ out, x.ok
  fr : ∀ x ∈ out, ∃ y ∈ p, y.f = x.f
  apart : out.Pairwise fun x y => ¬ x.meet y
  ends : Ends out
  tell : ∀ v k n a, cov out v k n a ↔ cov p v k n a
theorem MInv.nil : MInv [] [] := ⟨Nat.le_refl _, fun x h => by simp at h, fun x h => by simp at h, List.Pairwise.nil, fun x h => by simp at h, fun _ _ _ _ => Iff.rfl⟩
theorem mext_same {x y : Pl} (h : ¬ (y.th x ∧ y.t = x.f)) : mext x y = y := if_neg h
theorem mext_th (x y : Pl) : (mext x y).v = y.v ∧ (mext x y).k = y.k ∧ (mext x y).n = y.n ∧ (mext x y).f = y.f := by unfold mext; split <;> exact ⟨rfl, rfl, rfl, rfl⟩
theorem mext_t (x y : Pl) : (mext x y).t = y.t ∨ ((y.th x ∧ y.t = x.f) ∧ (mext x y).t = x.t) := by
  unfold mext; split
  · rename_i h; exact .inr ⟨h, rfl⟩
  · exact .inl rfl
theorem cov_append (l m : List Pl) (v k n a : Int) : cov (l ++ m) v k n a ↔ cov l v k n a ∨ cov m v k n a := by
  unfold cov
  constructor
  · rintro ⟨x, hx, h⟩
    rcases List.mem_append.1 hx with hx | hx
    · exact .inl ⟨x, hx, h⟩
    · exact .inr ⟨x, hx, h⟩
  · rintro (⟨x, hx, h⟩ | ⟨x, hx, h⟩)
    · exact ⟨x, List.mem_append_left _ hx, h⟩
    · exact ⟨x, List.mem_append_right _ hx, h⟩
theorem MInv.step {p out : List Pl} {x : Pl} (h : MInv p out) (hx : x.ok) (hs : ∀ y ∈ p, y.lt x) (ha : ∀ y ∈ p, ¬ y.meet x) : MInv (p ++ [x]) (mstep out x) := by
  have F1 : ∀ z ∈ out, z.f ≤ x.f := fun z hz => by
    obtain ⟨y, hy, e⟩ := h.fr z hz
    have := hs y hy
    unfold Pl.lt at this; omega
  have F2 : ∀ z ∈ out, ¬ z.meet x := fun z hz hm => by
    obtain ⟨y, hy, ⟨y1, y2, y3⟩, y4, y5⟩ := (h.tell z.v z.k z.n x.f).1 ⟨z, hz, ⟨rfl, rfl, rfl⟩, F1 z hz, hm.2.2⟩
    exact ha y hy ⟨by rw [y1, hm.1], by have := hx.2.1; omega, y5⟩
  have hxt := hx.2.1
  unfold mstep
  by_cases hc : ∃ y ∈ out, y.th x ∧ y.t = x.f
  · rw [if_pos hc]
    obtain ⟨y0, hy0, t0, e0⟩ := hc
    exact {
      len := by rw [List.length_map, List.length_append]; have := h.len; omega
      ok := fun z hz => by
        obtain ⟨y, hy, rfl⟩ := List.mem_map.1 hz
        have hok := h.ok y hy
        obtain ⟨a1, a2, a3, a4⟩ := mext_th x y
        unfold Pl.ok at hok hx ⊢
        rw [a1, a2, a3, a4]
        rcases mext_t x y with e | ⟨⟨_, e1⟩, e2⟩
        · rw [e]; exact hok
        · rw [e2]; exact ⟨hok.1, by omega, hx.2.2.1, hok.2.2.2⟩
      fr := fun z hz => by
        obtain ⟨y, hy, rfl⟩ := List.mem_map.1 hz
        obtain ⟨u, hu, e⟩ := h.fr y hy
        exact ⟨u, List.mem_append_left _ hu, by rw [e, (mext_th x y).2.2.2]⟩
      apart := by
        rw [List.pairwise_map]
        refine List.Pairwise.imp_of_mem (fun {a b} hma hmb hab hm => ?_) h.apart
        obtain ⟨a1, a2, a3, a4⟩ := mext_th x a
        obtain ⟨b1, b2, b3, b4⟩ := mext_th x b
        obtain ⟨m1, m2, m3⟩ := hm
        have ga := F2 a hma
        have gb := F2 b hmb
        have oa := (h.ok a hma).2.1
        have ob := (h.ok b hmb).2.1
        rw [a1, b1] at m1
        rw [a4] at m2
        rw [b4] at m3
        unfold Pl.meet at hab ga gb
        rcases mext_t x a with ea | ⟨⟨ta, ea⟩, ea2⟩
        · rw [ea] at m3
          rcases mext_t x b with eb | ⟨⟨tb, eb⟩, eb2⟩
          · rw [eb] at m2; exact hab ⟨m1, m2, m3⟩
          · rw [eb2] at m2
            have := tb.1
            exact hab ⟨m1, by omega, by omega⟩
        · rw [ea2] at m3
          rcases mext_t x b with eb | ⟨⟨tb, eb⟩, eb2⟩
          · rw [eb] at m2
            have := ta.1
            exact hab ⟨m1, by omega, by omega⟩
          · exact hab ⟨m1, by omega, by omega⟩
      ends := fun z hz u hu hth => by
        obtain ⟨a, hma, rfl⟩ := List.mem_map.1 hz
        obtain ⟨b, hmb, rfl⟩ := List.mem_map.1 hu
        obtain ⟨a1, a2, a3, a4⟩ := mext_th x a
        obtain ⟨b1, b2, b3, b4⟩ := mext_th x b
        unfold Pl.th at hth
        rw [a1, a2, a3, b1, b2, b3] at hth
        rw [b4]
        have := F1 b hmb
        rcases mext_t x a with ea | ⟨⟨ta, ea⟩, ea2⟩
        · rw [ea]; exact h.ends a hma b hmb hth
        · rw [ea2]; omega
      tell := fun v k n a => by
        rw [cov_append, ← h.tell]
        constructor
        · rintro ⟨z, hz, ⟨z1, z2, z3⟩, z4, z5⟩
          obtain ⟨y, hy, rfl⟩ := List.mem_map.1 hz
          obtain ⟨a1, a2, a3, a4⟩ := mext_th x y
          rw [a1] at z1; rw [a2] at z2; rw [a3] at z3; rw [a4] at z4
          rcases mext_t x y with e | ⟨⟨ty, e⟩, e2⟩
          · rw [e] at z5; exact .inl ⟨y, hy, ⟨z1, z2, z3⟩, z4, z5⟩
          · rw [e2] at z5
            by_cases h5 : a < y.t
            · exact .inl ⟨y, hy, ⟨z1, z2, z3⟩, z4, h5⟩
            · obtain ⟨t1, t2, t3⟩ := ty
              exact .inr ⟨x, by simp, ⟨by omega, by omega, by omega⟩, by omega, z5⟩
        · rintro (⟨y, hy, ⟨z1, z2, z3⟩, z4, z5⟩ | ⟨y, hy, ⟨z1, z2, z3⟩, z4, z5⟩)
          · obtain ⟨a1, a2, a3, a4⟩ := mext_th x y
            refine ⟨mext x y, List.mem_map.2 ⟨y, hy, rfl⟩, ⟨by rw [a1]; exact z1, by rw [a2]; exact z2, by rw [a3]; exact z3⟩, by rw [a4]; exact z4, ?_⟩
            rcases mext_t x y with e | ⟨⟨ty, e⟩, e2⟩
            · rw [e]; exact z5
            · rw [e2]; omega
          · simp only [List.mem_singleton] at hy
            subst hy
            obtain ⟨a1, a2, a3, a4⟩ := mext_th y y0
            obtain ⟨t1, t2, t3⟩ := t0
            have o0 := (h.ok y0 hy0).2.1
            refine ⟨mext y y0, List.mem_map.2 ⟨y0, hy0, rfl⟩, ⟨by omega, by omega, by omega⟩, by omega, ?_⟩
            unfold mext
            rw [if_pos ⟨⟨t1, t2, t3⟩, e0⟩]
            exact z5 }
  · rw [if_neg hc]
    have hc' : ∀ y ∈ out, y.th x → y.t ≠ x.f := fun y hy h1 h2 => hc ⟨y, hy, h1, h2⟩
    exact {
      len := by rw [List.length_append, List.length_append]; have := h.len; simp; exact this
      ok := fun z hz => by
        rcases List.mem_append.1 hz with hz | hz
        · exact h.ok z hz
        · simp only [List.mem_singleton] at hz; subst hz; exact hx
      fr := fun z hz => by
        rcases List.mem_append.1 hz with hz | hz
        · obtain ⟨u, hu, e⟩ := h.fr z hz
          exact ⟨u, List.mem_append_left _ hu, e⟩
        · exact ⟨z, List.mem_append_right _ hz, rfl⟩
      apart := by
        rw [List.pairwise_append]
        exact ⟨h.apart, by simp, fun z hz u hu => by simp only [List.mem_singleton] at hu; subst hu; exact F2 z hz⟩
      ends := fun z hz u hu hth => by
        rcases List.mem_append.1 hz with hz' | hz'
        · rcases List.mem_append.1 hu with hu' | hu'
          · exact h.ends z hz' u hu' hth
          · rw [List.mem_singleton] at hu'; rw [hu'] at hth ⊢; exact hc' z hz' hth
        · rw [List.mem_singleton] at hz'; rw [hz']
          rcases List.mem_append.1 hu with hu' | hu'
          · have := F1 u hu'; omega
          · rw [List.mem_singleton] at hu'; rw [hu']; omega
      tell := fun v k n a => by rw [cov_append, cov_append, h.tell] }
theorem mrg_inv {l : List Pl} (h : ValidP l) : MInv l (mrg l) := by
  have key : ∀ (rest p out : List Pl), MInv p out → (∀ x ∈ rest, x.ok) → (p ++ rest).Pairwise Pl.lt → (p ++ rest).Pairwise (fun x y => ¬ x.meet y) → MInv (p ++ rest) (rest.foldl mstep out) := by
    intro rest
    induction rest with
    | nil => intro p out hi _ _ _; rw [List.append_nil]; exact hi
    | cons x rest ih =>
      intro p out hi ho hs ha
      have h1 := (List.pairwise_append.1 hs).2.2
      have h2 := (List.pairwise_append.1 ha).2.2
      have e : p ++ x :: rest = (p ++ [x]) ++ rest := by simp
      rw [e] at hs ha ⊢
      exact ih (p ++ [x]) (mstep out x) (hi.step (ho x (List.mem_cons_self ..)) (fun y hy => h1 y hy x (List.mem_cons_self ..)) (fun y hy => h2 y hy x (List.mem_cons_self ..))) (fun y hy => ho y (List.mem_cons_of_mem _ hy)) hs ha
  exact key l [] [] MInv.nil h.ok h.srt h.apart
theorem strict_of {s : List Pl} (hs : s.Pairwise fun a b => ¬ b.lt a) (hok : ∀ x ∈ s, x.f < x.t) (ha : s.Pairwise fun x y => ¬ x.meet y) : s.Pairwise Pl.lt :=
  List.Pairwise.imp_of_mem (fun {a b} hma hmb h => by
    rcases Pl.lt_tri a b with h1 | h1 | h1
    · exact h1
    · subst h1; exact absurd ⟨rfl, hok a hma, hok a hma⟩ h.2
    · exact absurd h1 h.1) (hs.and ha)
theorem perm_apart {l s : List Pl} (hp : s.Perm l) (h : l.Pairwise fun x y => ¬ x.meet y) : s.Pairwise fun x y => ¬ x.meet y :=
  (hp.pairwise_iff (fun {x y} h hm => h (Pl.meet_comm hm))).2 h
theorem perm_cov {l s : List Pl} (hp : s.Perm l) (v k n a : Int) : cov s v k n a ↔ cov l v k n a :=
  ⟨fun ⟨x, hx, h⟩ => ⟨x, hp.mem_iff.1 hx, h⟩, fun ⟨x, hx, h⟩ => ⟨x, hp.mem_iff.2 hx, h⟩⟩
theorem mrg_sorted {l s : List Pl} (h : ValidP l) (hp : s.Perm (mrg l)) (hs : s.Pairwise fun a b => ¬ b.lt a) : ValidP s ∧ Ends s ∧ ∀ v k n a, cov s v k n a ↔ cov l v k n a := by
  have hi := mrg_inv h
  have hok : ∀ x ∈ s, x.ok := fun x hx => hi.ok x (hp.mem_iff.1 hx)
  have ha := perm_apart hp hi.apart
  exact ⟨⟨by rw [hp.length_eq]; have := hi.len; have := h.len; omega, hok, strict_of hs (fun x hx => (hok x hx).2.1) ha, ha⟩,
    fun x hx y hy => hi.ends x (hp.mem_iff.1 hx) y (hp.mem_iff.1 hy), fun v k n a => (perm_cov hp v k n a).trans (hi.tell v k n a)⟩
def clip (a b : Int) (x : Pl) : Pl := { x with f := max x.f a, t := min x.t b }
def cutP (a b : Int) (l : List Pl) : List Pl := (l.map (clip a b)).filter fun x => decide (x.f < x.t)
theorem cut_mem {a b : Int} {l : List Pl} {x : Pl} : x ∈ cutP a b l ↔ x.f < x.t ∧ ∃ y ∈ l, clip a b y = x := by
  unfold cutP
  rw [List.mem_filter, List.mem_map, decide_eq_true_eq, and_comm]
theorem cut_sorted {l s : List Pl} {a b : Int} (h : ValidP l) (ha : 0 ≤ a) (hb : b ≤ 32768) (hp : s.Perm (cutP a b l)) (hs : s.Pairwise fun x y => ¬ y.lt x) :
    ValidP s ∧ (∀ x ∈ s, a ≤ x.f ∧ x.t ≤ b) ∧ ∀ v k n p, cov s v k n p ↔ cov l v k n p ∧ a ≤ p ∧ p < b := by
  have hm : ∀ x, x ∈ s ↔ x.f < x.t ∧ ∃ y ∈ l, clip a b y = x := fun x => hp.mem_iff.trans cut_mem
  have hok : ∀ x ∈ s, x.ok := fun x hx => by
    obtain ⟨h1, y, hy, rfl⟩ := (hm x).1 hx
    have := h.ok y hy
    unfold Pl.ok clip at *
    simp only at h1 ⊢
    exact ⟨by omega, h1, by omega, this.2.2.2⟩
  have hap : s.Pairwise fun x y => ¬ x.meet y := by
    refine perm_apart hp ?_
    unfold cutP
    refine List.Pairwise.filter _ ?_
    rw [List.pairwise_map]
    exact h.apart.imp fun {x y} hxy hm => hxy (by unfold Pl.meet clip at *; simp only at hm; exact ⟨hm.1, by omega, by omega⟩)
  refine ⟨⟨?_, hok, strict_of hs (fun x hx => (hok x hx).2.1) hap, hap⟩, fun x hx => ?_, fun v k n p => ?_⟩
  · rw [hp.length_eq]
    unfold cutP
    have h1 := List.length_filter_le (fun x : Pl => decide (x.f < x.t)) (l.map (clip a b))
    rw [List.length_map] at h1
    have := h.len
    omega
  · obtain ⟨h1, y, hy, rfl⟩ := (hm x).1 hx
    unfold clip; simp only; omega
  · constructor
    · rintro ⟨x, hx, ⟨x1, x2, x3⟩, x4, x5⟩
      obtain ⟨h1, y, hy, rfl⟩ := (hm x).1 hx
      unfold clip at x1 x2 x3 x4 x5
      simp only at x1 x2 x3 x4 x5
      exact ⟨⟨y, hy, ⟨x1, x2, x3⟩, by omega, by omega⟩, by omega, by omega⟩
    · rintro ⟨⟨y, hy, y1, y2, y3⟩, h1, h2⟩
      refine ⟨clip a b y, (hm _).2 ⟨?_, y, hy, rfl⟩, y1, ?_, ?_⟩ <;> (unfold clip; simp only; omega)
theorem whole_valid {l lo hi : List Pl} {c : Int} (h : ValidP l) (hlo : ValidP lo ∧ (∀ x ∈ lo, 0 ≤ x.f ∧ x.t ≤ c) ∧ ∀ v k n p, cov lo v k n p ↔ cov l v k n p ∧ 0 ≤ p ∧ p < c)
    (hhi : ValidP hi ∧ (∀ x ∈ hi, c ≤ x.f ∧ x.t ≤ 32768) ∧ ∀ v k n p, cov hi v k n p ↔ cov l v k n p ∧ c ≤ p ∧ p < 32768) (hl : (lo ++ hi).length ≤ 64) :
    ValidP (lo ++ hi) ∧ ∀ v k n p, cov (lo ++ hi) v k n p ↔ cov l v k n p := by
  obtain ⟨l1, l2, l3⟩ := hlo
  obtain ⟨h1, h2, h3⟩ := hhi
  refine ⟨⟨hl, fun x hx => ?_, ?_, ?_⟩, fun v k n p => ?_⟩
  · rcases List.mem_append.1 hx with hx | hx
    · exact l1.ok x hx
    · exact h1.ok x hx
  · rw [List.pairwise_append]
    refine ⟨l1.srt, h1.srt, fun x hx y hy => ?_⟩
    have := l2 x hx; have := h2 y hy; have := (l1.ok x hx).2.1
    unfold Pl.lt; omega
  · rw [List.pairwise_append]
    refine ⟨l1.apart, h1.apart, fun x hx y hy hm => ?_⟩
    have := l2 x hx; have := h2 y hy; have := hm.2
    omega
  · rw [cov_append, l3, h3]
    constructor
    · rintro (h | h) <;> exact h.1
    · intro hc
      obtain ⟨x, hx, x1, x2, x3⟩ := id hc
      have hok := h.ok x hx
      unfold Pl.ok at hok
      by_cases hp : p < c
      · exact .inl ⟨hc, by omega, hp⟩
      · exact .inr ⟨hc, by omega, by omega⟩
theorem again {l lo hi s s' : List Pl} {c : Int} (h : ValidP l) (hw : ValidP (lo ++ hi) ∧ ∀ v k n p, cov (lo ++ hi) v k n p ↔ cov l v k n p) (hp : s.Perm (mrg l)) (hs : s.Pairwise fun a b => ¬ b.lt a) (hp' : s'.Perm (mrg (lo ++ hi))) (hs' : s'.Pairwise fun a b => ¬ b.lt a) : s' = s := by
  obtain ⟨v1, e1, t1⟩ := mrg_sorted h hp hs
  obtain ⟨v2, e2, t2⟩ := mrg_sorted hw.1 hp' hs'
  exact canon_eq (fun x hx => (v2.ok x hx).2.1) (fun x hx => (v1.ok x hx).2.1) v2.apt v1.apt e2 e1 v2.srt v1.srt fun v k n a => ((t2 v k n a).trans (hw.2 v k n a)).trans (t1 v k n a).symm
def fnd (l : List Pl) (v a : Int) : Option Pl := l.find? fun x => decide (x.v = v) && (decide (x.f ≤ a) && decide (a ≤ x.t - 1))
def fndT (l : List Pl) (v a : Int) : Option (Int × Int) := (fnd l v a).map fun x => (x.k, x.n)
theorem fndT_iff {l : List Pl} (h : ApartP l) (v a k n : Int) : fndT l v a = some (k, n) ↔ cov l v k n a := by
  unfold fndT
  constructor
  · intro he
    cases e : fnd l v a with
    | none => rw [e] at he; cases he
    | some x =>
      rw [e] at he
      have h1 := List.mem_of_find?_eq_some e
      have h2 := List.find?_some e
      simp only [Bool.and_eq_true, decide_eq_true_eq] at h2
      simp only [Option.map_some, Option.some.injEq, Prod.mk.injEq] at he
      exact ⟨x, h1, ⟨h2.1, he.1, he.2⟩, h2.2.1, by omega⟩
  · rintro ⟨x, hx, ⟨x1, x2, x3⟩, x4, x5⟩
    cases e : fnd l v a with
    | none =>
      have := List.find?_eq_none.1 e x hx
      simp only [Bool.and_eq_true, decide_eq_true_eq] at this
      exact absurd ⟨x1, x4, by omega⟩ this
    | some y =>
      have h1 := List.mem_of_find?_eq_some e
      have h2 := List.find?_some e
      simp only [Bool.and_eq_true, decide_eq_true_eq] at h2
      have := h y h1 x hx ⟨by omega, by omega, by omega⟩
      subst this
      simp only [Option.map_some, x2, x3]
theorem fndT_eq {l m : List Pl} {v a : Int} (hl : ApartP l) (hm : ApartP m) (h : ∀ k n, cov l v k n a ↔ cov m v k n a) : fndT l v a = fndT m v a := by
  cases e : fndT l v a with
  | none =>
    cases e' : fndT m v a with
    | none => rfl
    | some y =>
      have := (fndT_iff hl v a y.1 y.2).2 ((h _ _).2 ((fndT_iff hm v a y.1 y.2).1 e'))
      rw [e] at this; cases this
  | some y => exact ((fndT_iff hm v a y.1 y.2).2 ((h _ _).1 ((fndT_iff hl v a y.1 y.2).1 e))).symm
theorem fnd_low {l lo : List Pl} {c p : Int} (h : ValidP l) (hlo : ValidP lo ∧ (∀ x ∈ lo, 0 ≤ x.f ∧ x.t ≤ c) ∧ ∀ v k n p, cov lo v k n p ↔ cov l v k n p ∧ 0 ≤ p ∧ p < c) (h0 : 0 ≤ p) (hp : p < c) (v : Int) : fndT lo v p = fndT l v p :=
  fndT_eq hlo.1.apt h.apt fun k n => by rw [hlo.2.2]; exact ⟨And.left, fun hc => ⟨hc, h0, hp⟩⟩
theorem fnd_high {l hi : List Pl} {c p : Int} (h : ValidP l) (hhi : ValidP hi ∧ (∀ x ∈ hi, c ≤ x.f ∧ x.t ≤ 32768) ∧ ∀ v k n p, cov hi v k n p ↔ cov l v k n p ∧ c ≤ p ∧ p < 32768) (hp : c ≤ p) (v : Int) : fndT hi v p = fndT l v p :=
  fndT_eq hhi.1.apt h.apt fun k n => by
    rw [hhi.2.2]
    refine ⟨And.left, fun hc => ⟨hc, hp, ?_⟩⟩
    obtain ⟨x, hx, _, _, h5⟩ := hc
    have := (h.ok x hx).2.2.1
    omega
theorem fnd_mrg {l s : List Pl} (h : ValidP l) (hs : ValidP s ∧ Ends s ∧ ∀ v k n a, cov s v k n a ↔ cov l v k n a) (v p : Int) : fndT s v p = fndT l v p :=
  fndT_eq hs.1.apt h.apt fun k n => hs.2.2 v k n p
end Go.Proofs.Ytgcfadnnajahhaa
namespace Go.Proofs.Ytgcfadnnajahhaa
open Go.RowKit
def mapAt (w : World) (r : Nat) : Option (Array MapEntry × Nat) := match w.heap[r]? with | some (.map es c) => some (es, c) | _ => none
def setMap (w : World) (r : Nat) (es : Array MapEntry) (c : Nat) : World := { w with heap := w.heap.setIfInBounds r (.map es c) }
theorem mapAt_alloc_at (w : World) (es : Array MapEntry) (c n : Nat) (hn : n = w.heap.size) : mapAt (w.alloc (.map es c)) n = some (es, c) := by
  subst hn
  unfold mapAt
  rw [show (w.alloc (.map es c)).heap[w.heap.size]? = some (.map es c) from Array.getElem?_push_size]
theorem mapAt_alloc_past (w : World) (o : Obj) (n : Nat) (hn : n < w.heap.size) : mapAt (w.alloc o) n = mapAt w n := by
  unfold mapAt; rw [Below.heap_alloc w o n hn]
theorem mapAt_drew (w : World) (n : Nat) : mapAt w.drew n = mapAt w n := rfl
theorem mapAt_drewN (w : World) (n k : Nat) : mapAt (w.drewN k) n = mapAt w n := rfl
theorem setMap_alloc_at (w : World) (es es' : Array MapEntry) (c c' n : Nat) (hn : n = w.heap.size) : setMap (w.alloc (.map es c)) n es' c' = w.alloc (.map es' c') := by
  subst hn
  have h : (w.heap.push (.map es c)).setIfInBounds w.heap.size (.map es' c') = w.heap.push (.map es' c') := by
    apply Array.ext_getElem?
    intro i
    rw [Array.getElem?_setIfInBounds, Array.getElem?_push, Array.getElem?_push]
    by_cases hi : i = w.heap.size
    · subst hi; simp
    · rw [if_neg (fun e => hi e.symm), if_neg hi, if_neg hi]
  exact congrArg (fun x => { w with heap := x }) h
theorem setMap_alloc_past (w : World) (o : Obj) (n : Nat) (es : Array MapEntry) (c : Nat) (hn : n < w.heap.size) : setMap (w.alloc o) n es c = (setMap w n es c).alloc o := by
  have h : (w.heap.push o).setIfInBounds n (.map es c) = (w.heap.setIfInBounds n (.map es c)).push o := by
    apply Array.ext_getElem?
    intro i
    rw [Array.getElem?_setIfInBounds, Array.getElem?_push, Array.getElem?_push, Array.getElem?_setIfInBounds, Array.size_push, Array.size_setIfInBounds]
    by_cases hi : i = w.heap.size
    · subst hi; rw [if_neg (by omega), if_pos rfl, if_pos rfl]
    · rw [if_neg hi, if_neg hi]
      by_cases h2 : n = i
      · rw [if_pos h2, if_pos h2, if_pos (by omega), if_pos hn]
      · rw [if_neg h2, if_neg h2]
  exact congrArg (fun x => { w with heap := x }) h
theorem size_setMap (w : World) (n : Nat) (es : Array MapEntry) (c : Nat) : (setMap w n es c).heap.size = w.heap.size := by simp [setMap]
attribute [go_sem] mapAt_alloc_at mapAt_alloc_past mapAt_drew mapAt_drewN setMap_alloc_at setMap_alloc_past size_setMap
theorem mapAt_some {w : World} {r : Nat} {es : Array MapEntry} {c : Nat} (h : mapAt w r = some (es, c)) : w.heap[r]? = some (.map es c) := by
  unfold mapAt at h
  split at h
  · rename_i h1; simp at h; obtain ⟨rfl, rfl⟩ := h; exact h1
  · cases h
theorem findNow_nil (k : TypeDesc) (v : Value) (i : Nat) : Instr.findNow k v [] i = some none := rfl
theorem findNow_int (kk : IntKind) (n m : Int) (v : Value) (b : Nat) (es : List MapEntry) (i : Nat) :
    Instr.findNow (.int kk) (.int kk n) (⟨.int kk m, v, b⟩ :: es) i = if n = m then some (some (i, v)) else Instr.findNow (.int kk) (.int kk n) es (i + 1) := by
  by_cases h : n = m
  · subst h; simp [Instr.findNow, Instr.sameNow]
  · have : (n == m) = false := by simpa using h
    simp [Instr.findNow, Instr.sameNow, h, this]
attribute [go_sem] findNow_nil findNow_int
def Only (b : Nat) (w w' : World) : Prop := w.heap.size ≤ w'.heap.size ∧ ∀ k, k < w.heap.size → k ≠ b → w'.heap[k]? = w.heap[k]?
theorem Only.refl (b : Nat) (w : World) : Only b w w := ⟨Nat.le_refl _, fun _ _ _ => rfl⟩
theorem Only.alloc {b : Nat} {w w' : World} (h : Only b w w') (o : Obj) : Only b w (w'.alloc o) :=
  ⟨Nat.le_trans h.1 (by simp), fun k h1 h2 => (Below.heap_alloc w' o k (Nat.lt_of_lt_of_le h1 h.1)).trans (h.2 k h1 h2)⟩
theorem Only.setCell {b : Nat} {w w' : World} (h : Only b w w') {a : Addr} (ha : a.block = b) (v : Value) : Only b w (w'.setCell a v) :=
  ⟨Nat.le_trans h.1 (by simp [World.setCell]), fun k h1 h2 => (Below.heap_setCell w' a v k (by rw [ha]; exact h2)).trans (h.2 k h1 h2)⟩
theorem Only.at {b : Nat} {w w' : World} (h : Only b w w') (o : Nat) (v : Value) : Only b w (w'.setCell ⟨b, o, none⟩ v) := h.setCell rfl v
theorem below_at {B b : Nat} {w w' : World} (h : Below B w w') (hb : B ≤ b) (o : Nat) (v : Value) : Below B w (w'.setCell ⟨b, o, none⟩ v) := Below.setCell h hb v
theorem below_drewN {B : Nat} {w w' : World} (h : Below B w w') (n : Nat) : Below B w (w'.drewN n) := h.trans ⟨rfl, rfl, rfl, Nat.le_refl _, fun _ _ => rfl⟩
theorem Only.drew {b : Nat} {w w' : World} (h : Only b w w') : Only b w w'.drew := h
theorem Only.drewN {b : Nat} {w w' : World} (h : Only b w w') (n : Nat) : Only b w (w'.drewN n) := h
theorem Only.cell {b : Nat} {w w' : World} (h : Only b w w') {k o : Nat} (hk : k < w.heap.size) (hb : k ≠ b) : w'.cell? ⟨k, o, none⟩ = w.cell? ⟨k, o, none⟩ := by
  unfold World.cell?; rw [h.2 k hk hb]
theorem below_next {B : Nat} {w w1 w2 : World} (h1 : Below B w w1) (hB : B ≤ w1.heap.size) (h2 : Below w1.heap.size w1 w2) : Below B w w2 := h1.trans (h2.mono hB)
theorem below_hop {w w1 w2 : World} (h1 : Below w.heap.size w w1) (h2 : Below w1.heap.size w1 w2) : Below w.heap.size w w2 := below_next h1 h1.size h2
end Go.Proofs.Ytgcfadnnajahhaa
namespace Go.Proofs.Ytgcfadnnajahhaa
open Go.RowKit
set_option linter.unusedVariables false
set_option linter.unusedSimpArgs false
def Slc (w : World) (v : Value) (n z : Nat) (C : Nat → Nat → Nat → Prop) : Prop :=
  ∃ (a : Option Addr) (c : Nat), v = .slice a n c ∧ n ≤ c ∧ (n ≤ 140737488351232 ∧ c ≤ 9223372036854775807) ∧ (a = none → c = 0) ∧ ∀ i, i < n → ∃ b o, a = some ⟨b, o, none⟩ ∧ b < w.heap.size ∧ C i b (o + i * z)
def Ints (k : IntKind) (w : World) (v : Value) (xs : List Int) : Prop := Slc w v xs.length 1 fun i b o => w.cell? ⟨b, o, none⟩ = some (.int k (xs.getD i 0))
structure Nd where
  op : Int
  width : Int
  flags : Int
  args : List Int
  imm : Int
  deriving Inhabited
def NdAt (w : World) (b o : Nat) (x : Nd) : Prop :=
  w.cell? ⟨b, o, none⟩ = some (.int .i64 x.op) ∧ w.cell? ⟨b, o + 1, none⟩ = some (.int .i64 x.width) ∧ w.cell? ⟨b, o + 2, none⟩ = some (.int .i64 x.flags) ∧
  (∃ v, w.cell? ⟨b, o + 3, none⟩ = some v ∧ Ints .i64 w v x.args) ∧ w.cell? ⟨b, o + 4, none⟩ = some (.int .u32 x.imm)
def Nds (w : World) (v : Value) (ts : List Nd) : Prop := Slc w v ts.length 5 fun i b o => NdAt w b o (ts.getD i default)
theorem below_cell {B : Nat} {w w' : World} (h : Below B w w') {b o : Nat} {v : Value} (hb : b < B) (hc : w.cell? ⟨b, o, none⟩ = some v) : w'.cell? ⟨b, o, none⟩ = some v := by
  rw [← hc]; exact h.cell (p := ⟨b, o, none⟩) hb
theorem cell_lt {w : World} {b o : Nat} {v : Value} (h : w.cell? ⟨b, o, none⟩ = some v) : b < w.heap.size := by
  unfold World.cell? at h
  by_cases hb : b < w.heap.size
  · exact hb
  · simp [Array.getElem?_eq_none (Nat.le_of_not_lt hb)] at h
theorem Slc.stays {w w' : World} {v : Value} {n z : Nat} {C C' : Nat → Nat → Nat → Prop} (h : Slc w v n z C) (hb : Below w.heap.size w w') (hC : ∀ i b o, b < w.heap.size → C i b o → C' i b o) : Slc w' v n z C' := by
  obtain ⟨a, c, e, h1, h2, h3, h4⟩ := h
  refine ⟨a, c, e, h1, h2, h3, fun i hi => ?_⟩
  obtain ⟨b, o, e1, e2, e3⟩ := h4 i hi
  exact ⟨b, o, e1, Nat.lt_of_lt_of_le e2 hb.size, hC i b _ e2 e3⟩
theorem Ints.stays {k : IntKind} {w w' : World} {v : Value} {xs : List Int} (h : Ints k w v xs) (hb : Below w.heap.size w w') : Ints k w' v xs :=
  Slc.stays h hb fun _ _ _ hlt hc => below_cell hb hlt hc
theorem NdAt.stays {w w' : World} {b o : Nat} {x : Nd} (h : NdAt w b o x) (hlt : b < w.heap.size) (hb : Below w.heap.size w w') : NdAt w' b o x := by
  obtain ⟨h1, h2, h3, ⟨v, h4, h5⟩, h6⟩ := h
  exact ⟨below_cell hb hlt h1, below_cell hb hlt h2, below_cell hb hlt h3, ⟨v, below_cell hb hlt h4, h5.stays hb⟩, below_cell hb hlt h6⟩
theorem Nds.stays {w w' : World} {v : Value} {ts : List Nd} (h : Nds w v ts) (hb : Below w.heap.size w w') : Nds w' v ts :=
  Slc.stays h hb fun _ _ _ hlt hc => hc.stays hlt hb
def RowI (w : World) (base : Nat) (e : TypeId) (k : IntKind) (v : Value) (xs : List Int) : Prop := w.ownsRow base e 1 v xs.length (xs.map (Value.int k))
theorem RowI.ints {w : World} {base : Nat} {e : TypeId} {k : IntKind} {v : Value} {xs : List Int} (h : RowI w base e k v xs) (hl : xs.length ≤ 140737488351232) : Ints k w v xs := by
  obtain ⟨_, ⟨rfl, h0⟩ | ⟨g, cap, cur, rfl, hb, hg, h1, h2, h3, h4⟩⟩ := h
  · exact ⟨none, 0, by rw [h0], by omega, by omega, fun _ => rfl, fun i hi => absurd hi (by omega)⟩
  · refine ⟨some ⟨g, 0, none⟩, cap, rfl, h1, ⟨hl, by unfold maxLen at h2; omega⟩, (fun hh => by cases hh), fun i hi => ⟨g, 0, rfl, ?_, ?_⟩⟩
    · rcases Nat.lt_or_ge g w.heap.size with h | h
      · exact h
      · rw [Array.getElem?_eq_none h] at hg; cases hg
    · rw [Nat.mul_one, Nat.zero_add]
      have e1 : w.cell? ⟨g, i, none⟩ = cur.toList[i]? := by simp [World.cell?, hg]
      have e2 : (cur.toList.take (xs.length * 1))[i]? = cur.toList[i]? := by rw [List.getElem?_take, if_pos (by omega)]
      show w.cell? ⟨g, i, none⟩ = _
      rw [e1, ← e2, h4, List.getElem?_map, List.getElem?_eq_getElem hi, List.getD_eq_getElem?_getD, List.getElem?_eq_getElem hi]
      rfl
theorem RowI.nil (w : World) (base : Nat) (e : TypeId) (k : IntKind) : RowI w base e k (.slice none 0 0) [] := World.ownsRow_nil w base e 1
theorem RowI.below {w w' : World} {base : Nat} {e : TypeId} {k : IntKind} {v : Value} {xs : List Int} (h : RowI w base e k v xs) (hb : Below w.heap.size w w') : RowI w' base e k v xs := by
  obtain ⟨h0, ⟨rfl, h1⟩ | ⟨g, cap, cur, rfl, hb', hg, h1, h2, h3, h4⟩⟩ := h
  · exact ⟨h0, .inl ⟨rfl, h1⟩⟩
  · refine ⟨h0, .inr ⟨g, cap, cur, rfl, hb', ?_, h1, h2, h3, h4⟩⟩
    have hlt : g < w.heap.size := by
      rcases Nat.lt_or_ge g w.heap.size with h | h
      · exact h
      · rw [Array.getElem?_eq_none h] at hg; cases hg
    rw [← hg]
    exact hb.block g hlt
theorem RowI.shape {w : World} {base : Nat} {e : TypeId} {k : IntKind} {v : Value} {xs : List Int} (h : RowI w base e k v xs) : ∃ a c, v = .slice a xs.length c := by
  obtain ⟨_, ⟨rfl, h1⟩ | ⟨g, cap, cur, rfl, _⟩⟩ := h
  · exact ⟨none, 0, by rw [h1]⟩
  · exact ⟨_, _, rfl⟩
theorem RowI.app {w : World} {base : Nat} {e : TypeId} {k : IntKind} {v : Value} {xs ys zs : List Int} {n : Nat} (h : w.ownsRow base e 1 v n (xs.map (Value.int k) ++ ys.map (Value.int k))) (hn : n = xs.length + ys.length) (hz : zs = xs ++ ys) : RowI w base e k v zs := by
  subst hz; subst hn
  unfold RowI
  rw [List.length_append, List.map_append]
  exact h
theorem RowI.app1 {w : World} {base : Nat} {e : TypeId} {k : IntKind} {v : Value} {l zs : List Int} {y : Int} {j : Nat} (h : w.ownsRow base e 1 v (j + 1) (l.map (Value.int k) ++ [.int k y])) (hl : l.length = j) (hz : zs = l ++ [y]) : RowI w base e k v zs :=
  RowI.app (ys := [y]) h (by rw [hl]; rfl) hz
end Go.Proofs.Ytgcfadnnajahhaa
namespace Go.Proofs.Ytgcfadnnajahhaa
set_option linter.unusedVariables false
set_option linter.unusedSimpArgs false
structure In (C : World → Prop) where
  w : World
  h : C w
section
variable {P : Program} {ops : Array Oper} {md : Region.Mode} {C : World → Prop}
end
section
variable {P : Program} {C : World → Prop} {id : Nat} {Q : Exit → Act → World → Prop} {a : Act} {w : World} {l : List Oper}
end
end Go.Proofs.Ytgcfadnnajahhaa
namespace Go.Proofs.Ytgcfadnnajahhaa
open Go.RowKit
set_option linter.unusedVariables false
set_option linter.unusedSimpArgs false
theorem ret_i {k : IntKind} {a b : Int} (h : a = b) : Ending.returned (.int k a) = .returned (.int k b) := by rw [h]
def Dr (w w' : World) : Prop := ∃ n, w' = w.drewN n
theorem Dr.refl (w : World) : Dr w w := ⟨0, rfl⟩
theorem Dr.drew {w w' : World} (h : Dr w w') (n : Nat) : Dr w (w'.drewN n) := by
  obtain ⟨m, rfl⟩ := h
  exact ⟨m + n, World.drewN_drewN _ _ _⟩
theorem Dr.below {w w' : World} (h : Dr w w') (B : Nat) : Below B w w' := by
  obtain ⟨n, rfl⟩ := h
  exact ⟨rfl, rfl, rfl, Nat.le_refl _, fun _ _ => rfl⟩
theorem Dr.trans {w w' w'' : World} (h : Dr w w') (h' : Dr w' w'') : Dr w w'' := by
  obtain ⟨m, rfl⟩ := h'
  exact h.drew m
theorem quiet_same {P : Program} {f : FuncId} {args : Array Value} {w : World} {n : Nat} {v : Value} (h : Calls P f args (w.drewN n) fun e w' => e = .returned v ∧ w.drewN n = w') :
    Calls P f args (w.drewN n) fun e w'' => e = .returned v ∧ ∃ m, w'' = w.drewN m := h.mono fun _ _ ⟨he, hm⟩ => ⟨he, n, hm.symm⟩
def Since (w0 w : World) : Prop := Below w0.heap.size w0 w
theorem Since.refl (w : World) : Since w w := Below.refl _ _
theorem Since.drewN {w0 w : World} (h : Since w0 w) (n : Nat) : Since w0 (w.drewN n) := below_drewN h n
theorem Since.drew {w0 w : World} (h : Since w0 w) : Since w0 w.drew := Below.drew h
theorem Since.next {w0 w w' : World} (h : Since w0 w) (hb : Below w.heap.size w w') : Since w0 w' := below_hop h hb
theorem Since.cell {w0 w : World} (h : Since w0 w) {b o : Nat} {v : Value} (hc : w0.cell? ⟨b, o, none⟩ = some v) : w.cell? ⟨b, o, none⟩ = some v := below_cell h (cell_lt hc) hc
theorem Since.free {w0 w : World} (h : Since w0 w) {b o : Nat} (hb : b < w0.heap.size) (hf : w0.frozen? ⟨b, o, none⟩ = false) : w.frozen? ⟨b, o, none⟩ = false := by rw [← hf]; exact Below.frozen (p := ⟨b, o, none⟩) h hb
theorem Ints.nil (k : IntKind) (w : World) : Ints k w (.slice none 0 0) [] := ⟨none, 0, rfl, Nat.le_refl _, ⟨by simp, by omega⟩, fun _ => rfl, fun i hi => absurd hi (by simp)⟩
theorem Ints.at {k : IntKind} {w : World} {v : Value} {xs : List Int} (h : Ints k w v xs) {j : Nat} (hj : j < xs.length) : ∃ b q c, v = .slice (some ⟨b, q, none⟩) xs.length c ∧ xs.length ≤ c ∧ b < w.heap.size ∧ w.cell? ⟨b, q + j, none⟩ = some (.int k (xs.getD j 0)) := by
  obtain ⟨a, c, rfl, h1, h2, _, h4⟩ := h
  obtain ⟨b, q, rfl, h5, h6⟩ := h4 j hj
  rw [Nat.mul_one] at h6
  exact ⟨b, q, c, rfl, h1, h5, h6⟩
theorem Ints.shape {k : IntKind} {w : World} {v : Value} {xs : List Int} (h : Ints k w v xs) : ∃ a c, v = .slice a xs.length c ∧ xs.length ≤ c ∧ xs.length ≤ 140737488351232 := by
  obtain ⟨a, c, rfl, h1, h2, _⟩ := h
  exact ⟨a, c, rfl, h1, h2.1⟩
theorem Ints.row {k : IntKind} {w : World} {a : Option Addr} {n c : Nat} {xs : List Int} (h : Ints k w (.slice a n c) xs) (h0 : 0 < xs.length) : ∃ b o, a = some ⟨b, o, none⟩ ∧ b < w.heap.size ∧ ∀ i, i < xs.length → w.cell? ⟨b, o + i, none⟩ = some (.int k (xs.getD i 0)) := by
  obtain ⟨a', c', e, _, _, _, hc⟩ := h
  cases e
  obtain ⟨b, o, rfl, hb, _⟩ := hc 0 h0
  refine ⟨b, o, rfl, hb, fun i hi => ?_⟩
  obtain ⟨b', o', e2, _, hd⟩ := hc i hi
  cases e2
  rw [Nat.mul_one] at hd
  exact hd
def OInts (k : IntKind) (w : World) (B : Nat) (xs : List Int) : Prop :=
  B < w.heap.size ∧ ∀ i, i < xs.length → w.cell? ⟨B, i, none⟩ = some (.int k (xs.getD i 0)) ∧ w.frozen? ⟨B, i, none⟩ = false
theorem OInts.cell {k : IntKind} {w : World} {B : Nat} {xs : List Int} (h : OInts k w B xs) {i : Nat} (hi : i < xs.length) : w.cell? ⟨B, i, none⟩ = some (.int k (xs.getD i 0)) := (h.2 i hi).1
theorem OInts.free {k : IntKind} {w : World} {B : Nat} {xs : List Int} (h : OInts k w B xs) {i : Nat} (hi : i < xs.length) : w.frozen? ⟨B, i, none⟩ = false := (h.2 i hi).2
theorem OInts.below {k : IntKind} {w w' : World} {B : Nat} {xs : List Int} (h : OInts k w B xs) (hb : Below w.heap.size w w') : OInts k w' B xs :=
  ⟨Nat.lt_of_lt_of_le h.1 hb.size, fun i hi => ⟨by rw [← h.cell hi]; exact hb.cell (p := ⟨B, i, none⟩) h.1, by rw [← h.free hi]; exact hb.frozen (p := ⟨B, i, none⟩) h.1⟩⟩
theorem OInts.alloc {k : IntKind} {w : World} {B : Nat} {xs : List Int} (h : OInts k w B xs) (ob : Obj) : OInts k (w.alloc ob) B xs := h.below ((Below.refl _ _).alloc (Nat.le_refl _) _)
theorem OInts.drewN {k : IntKind} {w : World} {B : Nat} {xs : List Int} (h : OInts k w B xs) (n : Nat) : OInts k (w.drewN n) B xs := h
theorem OInts.set {k : IntKind} {w : World} {B : Nat} {xs : List Int} (h : OInts k w B xs) {i : Nat} (hi : i < xs.length) (x : Int) : OInts k (w.setCell ⟨B, i, none⟩ (.int k x)) B (xs.set i x) := by
  refine ⟨by simpa using h.1, fun j hj => ?_⟩
  rw [List.length_set] at hj
  refine ⟨?_, by rw [World.frozen?_setCell]; exact h.free hj⟩
  by_cases e : i = j
  · subst e
    rw [World.cell?_setCell_same _ _ _ (h.cell hi), List.getD_eq_getElem?_getD, List.getElem?_set_self hi]; rfl
  · rw [World.cell?_setCell_other _ _ _ _ (by intro hh; cases hh; exact e rfl), h.cell hj, List.getD_eq_getElem?_getD, List.getD_eq_getElem?_getD, List.getElem?_set_ne e]
theorem OInts.ints {k : IntKind} {w : World} {B : Nat} {xs : List Int} (h : OInts k w B xs) (hl : xs.length ≤ 140737488351232) : Ints k w (.slice (some ⟨B, 0, none⟩) xs.length xs.length) xs :=
  ⟨some ⟨B, 0, none⟩, xs.length, rfl, Nat.le_refl _, ⟨hl, by omega⟩, (fun hh => by cases hh), fun i hi => ⟨B, 0, rfl, h.1, by rw [Nat.mul_one, Nat.zero_add]; exact h.cell hi⟩⟩
end Go.Proofs.Ytgcfadnnajahhaa
namespace Go.Proofs.Ytgcfadnnajahhaa
open Go.RowKit Go.Maps
set_option linter.unusedVariables false
set_option linter.unusedSimpArgs false
theorem ownsRow_at {w w' : World} {base : Nat} {e : TypeId} {z : Nat} {v : Value} {n : Nat} {xs : List Value} (h : w.ownsRow base e z v n xs) (hb : ∀ g, v.ownBlock = some g → g < w.heap.size → w'.heap[g]? = w.heap[g]?) : w'.ownsRow base e z v n xs := by
  obtain ⟨h0, ⟨e, h1⟩ | ⟨g, cap, cur, e, hb', hg, h1, h2, h3, h4⟩⟩ := h
  · exact ⟨h0, Or.inl ⟨e, h1⟩⟩
  · have hlt : g < w.heap.size := by
      rcases Nat.lt_or_ge g w.heap.size with h | h
      · exact h
      · rw [Array.getElem?_eq_none h] at hg; cases hg
    exact ⟨h0, Or.inr ⟨g, cap, cur, e, hb', by rw [hb g (by rw [e]; rfl) hlt]; exact hg, h1, h2, h3, h4⟩⟩
theorem ownsRow_own {w : World} {base : Nat} {e : TypeId} {z : Nat} {v : Value} {n : Nat} {xs : List Value} (h : w.ownsRow base e z v n xs) (g : Nat) (hg : v.ownBlock = some g) : base ≤ g ∧ g < w.heap.size := by
  obtain ⟨h0, ⟨e, h1⟩ | ⟨g', cap, cur, e, hb', hg', h1, h2, h3, h4⟩⟩ := h
  · rw [e] at hg; cases hg
  · rw [e] at hg
    injection hg with hg
    subst hg
    refine ⟨hb', ?_⟩
    show g' < _
    rcases Nat.lt_or_ge g' w.heap.size with h | h
    · exact h
    · rw [Array.getElem?_eq_none h] at hg'; cases hg'
def RowG {α : Type} (C : α → List Value) (w : World) (base : Nat) (e : TypeId) (z : Nat) (v : Value) (xs : List α) : Prop := w.ownsRow base e z v xs.length (xs.flatMap C)
theorem flat_get {α : Type} [Inhabited α] {C : α → List Value} {z : Nat} (hC : ∀ x, (C x).length = z) : ∀ (xs : List α) (i j : Nat), i < xs.length → j < z → (xs.flatMap C)[i * z + j]? = (C (xs.getD i default))[j]?
  | [], i, j, h, _ => absurd h (Nat.not_lt_zero _)
  | x :: r, 0, j, _, hj => by
    rw [List.flatMap_cons, List.getElem?_append_left (by rw [hC]; omega)]
    simp
  | x :: r, i + 1, j, h, hj => by
    rw [List.flatMap_cons, List.getElem?_append_right (by rw [hC, Nat.add_mul]; omega)]
    have e : (i + 1) * z + j - (C x).length = i * z + j := by rw [hC, Nat.add_mul]; omega
    rw [e, flat_get hC r i j (by simpa using h) hj]
    simp
theorem RowG.slc {α : Type} [Inhabited α] {C : α → List Value} {w : World} {base : Nat} {e : TypeId} {z : Nat} {v : Value} {xs : List α} (h : RowG C w base e z v xs) (hC : ∀ x, (C x).length = z) (hz : 0 < z) (hl : xs.length ≤ 100000) : Slc w v xs.length z fun i b o => ∀ j, j < z → w.cell? ⟨b, o + j, none⟩ = (C (xs.getD i default))[j]? := by
  obtain ⟨h0, ⟨e, h1⟩ | ⟨g, cap, cur, e, hb', hg, h1, h2, h3, h4⟩⟩ := h
  · exact ⟨none, 0, by rw [e, h1], by omega, ⟨by omega, by omega⟩, fun _ => rfl, fun i hi => absurd hi (by omega)⟩
  · have hlt : g < w.heap.size := by
      rcases Nat.lt_or_ge g w.heap.size with h | h
      · exact h
      · rw [Array.getElem?_eq_none h] at hg; cases hg
    refine ⟨some ⟨g, 0, none⟩, cap, e, h1, ⟨by omega, by unfold maxLen at h2; omega⟩, (fun hh => by cases hh), fun i hi => ⟨g, 0, rfl, hlt, ?_⟩⟩
    rw [Nat.zero_add]
    intro j hj
    have hij : i * z + j < xs.length * z := by
      have : (i + 1) * z ≤ xs.length * z := Nat.mul_le_mul_right z hi
      rw [Nat.add_mul] at this; omega
    have e1 : w.cell? ⟨g, i * z + j, none⟩ = cur.toList[i * z + j]? := by simp [World.cell?, hg]
    have e2 : (cur.toList.take (xs.length * z))[i * z + j]? = cur.toList[i * z + j]? := by rw [List.getElem?_take, if_pos hij]
    rw [e1, ← e2, h4]
    exact flat_get hC xs i j hi hj
theorem RowG.nil {α : Type} (C : α → List Value) (w : World) (base : Nat) (e : TypeId) (z : Nat) : RowG C w base e z (.slice none 0 0) [] := World.ownsRow_nil w base e z
theorem RowG.snoc {α : Type} {C : α → List Value} {w : World} {base : Nat} {e : TypeId} {z : Nat} {v : Value} {xs : List α} {x : α} (h : w.ownsRow base e z v (xs.length + 1) (xs.flatMap C ++ C x)) : RowG C w base e z v (xs ++ [x]) := by
  unfold RowG
  rw [List.length_append, List.flatMap_append]
  simpa using h
theorem ownsRow_cell {w : World} {base : Nat} {e : TypeId} {z : Nat} {g n cap : Nat} {xs : List Value} (h : w.ownsRow base e z (.slice (some ⟨g, 0, none⟩) n cap) n xs) {k : Nat} (hk : k < xs.length) (u : Value) : (w.setCell ⟨g, k, none⟩ u).ownsRow base e z (.slice (some ⟨g, 0, none⟩) n cap) n (xs.set k u) := by
  obtain ⟨h0, ⟨e, _⟩ | ⟨g', cap', cur, e, hb', hg, h1, h2, h3, h4⟩⟩ := h
  · cases e
  · cases e
    refine ⟨by rw [List.length_set]; exact h0, .inr ⟨g, cap, cur.setIfInBounds k u, rfl, hb', ?_, h1, h2, by simpa using h3, ?_⟩⟩
    · unfold World.setCell
      simp [Array.getElem?_modify, hg]
    · rw [Array.toList_setIfInBounds, List.take_set, h4]
end Go.Proofs.Ytgcfadnnajahhaa
namespace Go.Proofs.Ytgcfadnnajahhaa
set_option linter.unusedVariables false
set_option linter.unusedSimpArgs false
def encV (n : Nat) : List Nat := if h : 127 < n then (n % 128 + 128) :: encV (n / 128) else [n]
termination_by n
theorem encV_big {n : Nat} (h : 127 < n) : encV n = (n % 128 + 128) :: encV (n / 128) := by rw [encV, dif_pos h]
theorem encV_small {n : Nat} (h : n ≤ 127) : encV n = [n] := by rw [encV, dif_neg (by omega)]
theorem encV_byte : ∀ (n : Nat), ∀ b ∈ encV n, b < 256
  | n => fun b hb => by
    by_cases h : 127 < n
    · rw [encV_big h] at hb
      rcases List.mem_cons.1 hb with rfl | hb
      · omega
      · exact encV_byte (n / 128) b hb
    · rw [encV_small (by omega)] at hb
      simp only [List.mem_singleton] at hb
      omega
termination_by n => n
theorem encV_len : ∀ (f n : Nat), n < 128 ^ (f + 1) → (encV n).length ≤ f + 1
  | 0, n, h => by
    rw [encV_small (by simp at h; omega)]; simp
  | f + 1, n, h => by
    by_cases hb : 127 < n
    · rw [encV_big hb, List.length_cons]
      have := encV_len f (n / 128) (by rw [Nat.div_lt_iff_lt_mul (by omega)]; rw [Nat.pow_succ] at h; exact h)
      omega
    · rw [encV_small (by omega)]; simp
theorem encV_pos (n : Nat) : 0 < (encV n).length := by
  by_cases h : 127 < n
  · rw [encV_big h]; simp
  · rw [encV_small (by omega)]; simp
def encP (fr : Int) (x : Pl) : List Nat := encV (x.f - fr).toNat ++ (encV (x.t - x.f).toNat ++ (encV x.v.toNat ++ (encV x.k.toNat ++ encV x.n.toNat)))
def encL : Int → List Pl → List Nat
  | _, [] => []
  | fr, x :: l => encP fr x ++ encL x.f l
def encT (l : List Pl) : List Nat := encV l.length ++ encL 0 l
def lastF (l : List Pl) : Int := (l.getLast?.map Pl.f).getD 0
theorem encL_snoc (x : Pl) : ∀ (fr : Int) (l : List Pl), encL fr (l ++ [x]) = encL fr l ++ encP ((l.getLast?.map Pl.f).getD fr) x
  | fr, [] => by simp [encL]
  | fr, y :: l => by
    show encP fr y ++ encL y.f (l ++ [x]) = (encP fr y ++ encL y.f l) ++ _
    rw [encL_snoc x y.f l, List.append_assoc]
    congr 3
    cases l with
    | nil => rfl
    | cons z l => rw [List.getLast?_cons_cons]; cases h : (z :: l).getLast? with
      | none => simp at h
      | some u => rfl
theorem place_bd {x : Pl} (h : x.ok) {fr : Int} (h0 : 0 ≤ fr) (h1 : fr ≤ x.f) : (x.f - fr).toNat < 128 ^ 5 ∧ (x.t - x.f).toNat < 128 ^ 5 ∧ x.v.toNat < 128 ^ 5 ∧ x.k.toNat < 128 ^ 5 ∧ x.n.toNat < 128 ^ 5 := by
  obtain ⟨a1, a2, a3, a4, a5, a6⟩ := h
  have hl : limP x.k ≤ 4294967295 := by unfold limP; split <;> (try split) <;> omega
  have e : (128 : Nat) ^ 5 = 34359738368 := rfl
  rw [e]
  omega
end Go.Proofs.Ytgcfadnnajahhaa
namespace Go.Proofs.Ytgcfadnnajahhaa
open Go.RowKit Go.Maps
set_option linter.unusedVariables false
set_option linter.unusedSimpArgs false
theorem Ints.drop {k : IntKind} {w : World} {a : Option Addr} {c m : Nat} {xs : List Int} (h : Ints k w (.slice a xs.length c) xs) (hm : m ≤ xs.length) : Ints k w (.slice (if c = m then a else a.map (fun x => x.add m)) (xs.length - m) (c - m)) (xs.drop m) := by
  obtain ⟨a', c', e, h1, h2, h3, h4⟩ := h
  cases e
  have hl : (xs.drop m).length = xs.length - m := List.length_drop
  refine ⟨_, c - m, by rw [hl], by omega, by omega, fun e => ?_, fun i hi => ?_⟩
  · by_cases hc : c = m
    · omega
    · rw [if_neg hc] at e
      rcases a with _ | a
      · have := h3 rfl; omega
      · cases e
  · rw [hl] at hi
    obtain ⟨b, o, e', h5, h6⟩ := h4 (m + i) (by omega)
    subst e'
    have hc : c ≠ m := by omega
    refine ⟨b, o + m, by rw [if_neg hc]; simp [Addr.add], h5, ?_⟩
    show w.cell? _ = _
    have h6' : w.cell? ⟨b, o + (m + i) * 1, none⟩ = some (.int k (xs.getD (m + i) 0)) := h6
    rw [show o + m + i * 1 = o + (m + i) * 1 by omega, h6']
    simp [List.getD_eq_getElem?_getD, List.getElem?_drop]
structure TakeS (W0 : World) (R : Nat) (r : List Nat) (w : World) : Prop where
  rest : ∃ v, w.cell? ⟨R, 0, none⟩ = some v ∧ Ints .u8 W0 v (r.map Int.ofNat)
  fr : w.frozen? ⟨R, 0, none⟩ = false
  ok : w.cell? ⟨R + 1, 0, none⟩ = some (.bool false)
  fo : w.frozen? ⟨R + 1, 0, none⟩ = false
  below : Below W0.heap.size W0 w
  lo : W0.heap.size ≤ R
structure Two (R : Nat) (w w' : World) : Prop where
  os : w'.os = w.os
  tape : w'.tape = w.tape
  output : w'.output = w.output
  size : w.heap.size ≤ w'.heap.size
  block : ∀ q, q < w.heap.size → q ≠ R → q ≠ R + 1 → w'.heap[q]? = w.heap[q]?
theorem TakeS.fin {W0 w : World} {R : Nat} {L r : List Nat} {v : Value} (h : TakeS W0 R L w) (hi : Ints .u8 W0 v (r.map Int.ofNat)) : TakeS W0 R r ((w.setCell ⟨R + 1, 0, none⟩ (.bool false)).setCell ⟨R, 0, none⟩ v) ∧ Two R w ((w.setCell ⟨R + 1, 0, none⟩ (.bool false)).setCell ⟨R, 0, none⟩ v) := by
  obtain ⟨u, hu, _⟩ := h.rest
  have c0 : (w.setCell ⟨R + 1, 0, none⟩ (.bool false)).cell? ⟨R, 0, none⟩ = some u := by
    rw [World.cell?_of_block (Below.heap_setCell w ⟨R + 1, 0, none⟩ (.bool false) R (by show R ≠ R + 1; omega))]; exact hu
  have hlo := h.lo
  refine ⟨⟨⟨v, World.cell?_setCell_same _ _ _ c0, hi⟩, by rw [World.frozen?_setCell, World.frozen?_setCell]; exact h.fr, ?_, by rw [World.frozen?_setCell, World.frozen?_setCell]; exact h.fo, below_at (below_at h.below (by omega) _ _) hlo _ _, hlo⟩, ⟨rfl, rfl, rfl, by simp [World.setCell], fun q hq h1 h2 => ?_⟩⟩
  · rw [World.cell?_of_block (w := w.setCell ⟨R + 1, 0, none⟩ (.bool false)) (Below.heap_setCell _ ⟨R, 0, none⟩ v (R + 1) (by show R + 1 ≠ R; omega))]
    exact World.cell?_setCell_same _ _ _ h.ok
  · rw [Below.heap_setCell _ ⟨R, 0, none⟩ v q h1, Below.heap_setCell _ ⟨R + 1, 0, none⟩ _ q h2]
theorem bits_or_i64_nat' (a b : Nat) (ha : a < 9223372036854775808) (hb : b < 9223372036854775808) : bits .or .i64 (a : Int) (b : Int) = ((a ||| b : Nat) : Int) := by
  have hx : a ||| b < 2 ^ 63 := Nat.or_lt_two_pow (by omega) (by omega)
  have h1 : (BitVec.ofInt 64 (a : Int)).toNat = a := by
    rw [BitVec.ofInt_natCast, BitVec.toNat_ofNat]; exact Nat.mod_eq_of_lt (by omega)
  have h2 : (BitVec.ofInt 64 (b : Int)).toNat = b := by
    rw [BitVec.ofInt_natCast, BitVec.toNat_ofNat]; exact Nat.mod_eq_of_lt (by omega)
  show IntKind.i64.wrap ((BitVec.ofInt 64 (a : Int) ||| BitVec.ofInt 64 (b : Int)).toNat : Int) = _
  rw [BitVec.toNat_or, h1, h2]
  simp only [IntKind.wrap, IntKind.bits, IntKind.signed]
  simp; omega
theorem and127 (y : Nat) (hy : y < 256) : bits .and .u8 (y : Int) 127 = ((y % 128 : Nat) : Int) := by
  have e2 : y &&& 127 = y % 128 := Nat.and_two_pow_sub_one_eq_mod y 7
  have h1 : (BitVec.ofInt 8 (y : Int)).toNat = y := by
    rw [BitVec.ofInt_natCast, BitVec.toNat_ofNat]; exact Nat.mod_eq_of_lt (by omega)
  show IntKind.u8.wrap ((BitVec.ofInt 8 (y : Int) &&& BitVec.ofInt 8 (127 : Int)).toNat : Int) = _
  rw [BitVec.toNat_and, h1, show (BitVec.ofInt 8 (127 : Int)).toNat = 127 from rfl, e2]
  simp only [IntKind.wrap, IntKind.bits, IntKind.signed]
  simp; omega
theorem pow128 (k : Nat) : (128 : Nat) ^ k = 2 ^ (7 * k) := by rw [Nat.pow_mul]
theorem or_add (acc z k : Nat) (h : acc < 128 ^ k) : acc ||| (z * 128 ^ k) = acc + z * 128 ^ k := by
  rw [pow128] at h ⊢
  have := Nat.two_pow_add_eq_or_of_lt h z
  rw [Nat.or_comm, Nat.mul_comm z, ← this, Nat.add_comm]
theorem p128 {k : Nat} (h : k < 5) : 128 ^ k ≤ 268435456 := by
  have : k = 0 ∨ k = 1 ∨ k = 2 ∨ k = 3 ∨ k = 4 := by omega
  rcases this with rfl | rfl | rfl | rfl | rfl <;> decide
theorem take_cell {W0 w : World} {v : Value} {l : List Int} (h : Ints .u8 W0 v l) (hb : Below W0.heap.size W0 w) {k : Nat} (hk : k < l.length) : ∃ b o c, v = .slice (some ⟨b, o, none⟩) l.length c ∧ b < W0.heap.size ∧ w.cell? ⟨b, o + k, none⟩ = some (.int .u8 (l.getD k 0)) := by
  obtain ⟨a, c, rfl, h1, h2, h3, h4⟩ := h
  obtain ⟨b, o, rfl, hlt, hc⟩ := h4 k hk
  rw [Nat.mul_one] at hc
  exact ⟨b, o, c, rfl, hlt, below_cell hb hlt hc⟩
theorem take_arith {acc z k s : Nat} (hk : k < 5) (ha : acc < 128 ^ k) (hz : z < 128) (hs : z * 128 ^ k = s) : wrap64 ((z : Int) * 2 ^ (7 * k)) = (s : Int) ∧ bits .or .i64 (acc : Int) (s : Int) = ((acc + s : Nat) : Int) := by
  have e1 := or_add acc z k ha
  rw [hs] at e1
  have e2 : (z : Int) * 2 ^ (7 * k) = (s : Int) := by rw [← hs, pow128]; push_cast; rfl
  have hP := p128 hk
  have hs1 : s ≤ 127 * 268435456 := by rw [← hs]; exact Nat.mul_le_mul (by omega) hP
  have ha1 : acc < 268435456 := Nat.lt_of_lt_of_le ha hP
  clear hs ha hP
  refine ⟨?_, ?_⟩
  · rw [e2]
    exact IntWalk.wrap64_in _ (by omega)
  · rw [bits_or_i64_nat' acc s (by omega) (by omega), e1]
theorem take_next {n k acc m y z s a2 : Nat} {pre : List Nat} (he : encV n = pre ++ encV m) (hp : pre.length = k) (hn : n = acc + m * 128 ^ k) (ha : acc < 128 ^ k) (hk : k < 5) (hm : m < 128 ^ (5 - k)) (hy : y = m % 128 + 128) (hz : y % 128 = z) (hs : z * 128 ^ k = s) (h2 : acc + s = a2) (h : 127 < m) :
    encV n = (pre ++ [y]) ++ encV (m / 128) ∧ (pre ++ [y]).length = k + 1 ∧ n = a2 + m / 128 * 128 ^ (k + 1) ∧ a2 < 128 ^ (k + 1) ∧ 0 < m / 128 ∧ k + 1 < 5 ∧ m / 128 < 128 ^ (5 - (k + 1)) := by
  have hzm : z = m % 128 := by omega
  have hpk : 0 < 128 ^ k := Nat.pos_of_ne_zero (by simp)
  have e1 : 128 ^ (k + 1) = 128 ^ k * 128 := Nat.pow_succ ..
  have hk4 : k + 1 < 5 := by
    rcases Nat.lt_or_ge (k + 1) 5 with h | h
    · exact h
    · obtain rfl : k = 4 := by omega
      simp at hm; omega
  have e5 : 128 ^ (5 - k) = 128 ^ (5 - (k + 1)) * 128 := by rw [← Nat.pow_succ]; congr 1; omega
  refine ⟨by rw [he, encV_big h, ← hy]; simp, by simp [hp], ?_, ?_, by omega, hk4, ?_⟩
  · rw [hn, ← h2, ← hs, hzm, e1]
    have : m * 128 ^ k = m % 128 * 128 ^ k + m / 128 * (128 ^ k * 128) := by
      rw [Nat.mul_comm (128 ^ k) 128, ← Nat.mul_assoc, ← Nat.add_mul]
      congr 1; omega
    omega
  · rw [← h2, ← hs, e1]
    have : z * 128 ^ k ≤ 127 * 128 ^ k := Nat.mul_le_mul_right _ (by omega)
    omega
  · rw [e5] at hm
    exact (Nat.div_lt_iff_lt_mul (by omega)).2 hm
theorem take_last {n k acc m y z s a2 : Nat} {pre r L : List Nat} (he : encV n = pre ++ encV m) (hp : pre.length = k) (hn : n = acc + m * 128 ^ k) (hy : y = m) (hz : y % 128 = z) (hs : z * 128 ^ k = s) (h2 : acc + s = a2) (h : ¬ 127 < m) (hL : encV n ++ r = L) : a2 = n ∧ L.drop (k + 1) = r := by
  have hzm : z = m := by omega
  refine ⟨by rw [hn, ← h2, ← hs, hzm], ?_⟩
  rw [← hL, he, encV_small (by omega)]
  exact List.drop_left' (by simp [hp])
theorem ret_int' {k : IntKind} {a b : Int} (h : a = b) : Ending.returned (.int k a) = .returned (.int k b) := by rw [h]
set_option maxHeartbeats 2000000 in
theorem take_any (W0 : World) (R n : Nat) (r : List Nat) (w : World) (h : TakeS W0 R (encV n ++ r) w) (hn : n < 34359738368) (hl : (encV n ++ r).length ≤ 4000) : Calls Try.prog 19 #[.pointer (some ⟨R, 0, none⟩), .pointer (some ⟨R + 1, 0, none⟩)] w fun e w' => e = .returned (.int .i64 (n : Int)) ∧ TakeS W0 R r w' ∧ Two R w w' := by
  obtain ⟨L, hL⟩ : ∃ L, encV n ++ r = L := ⟨_, rfl⟩
  have HLE := Lib.hid hL
  have hpos0 : 0 < L.length := by have := encV_pos n; rw [← hL]; simp; omega
  rw [hL] at h hl
  have H0 := Lib.hid h
  obtain ⟨v, hc0, hi⟩ := h.rest
  have hc1 := h.ok
  have hf0 := h.fr
  have hf1 := h.fo
  have HI := Lib.hid hi
  have HN := Lib.hid hn
  obtain ⟨b, o, c, rfl, hlt, hcell⟩ := take_cell hi h.below (k := 0) (by simpa using hpos0)
  have hcap : L.length ≤ c ∧ c ≤ 9223372036854775807 := by
    obtain ⟨_, _, e, h1, h2, _⟩ := hi
    cases e
    simp only [List.length_map] at h1
    exact ⟨h1, h2.2⟩
  have hll : (L.map Int.ofNat).length = L.length := by simp
  rw [hll] at hc0
  have hne : ¬ b = R + 1 := by have := h.lo; omega
  have hne1 : ¬ R = R + 1 := by omega
  clear h hi hn hcell hll hL
  go_enter Try.func19, Try.ntmps19
  go_wp2_with fail
  go_loop [3, 4] (fun a i => ∃ k acc m : Nat, ∃ pre : List Nat, a = .int .i64 (acc : Int) ∧ i = .int .i64 (k : Int) ∧ encV n = pre ++ encV m ∧ pre.length = k ∧ n = acc + m * 128 ^ k ∧ acc < 128 ^ k ∧ (0 < k → 0 < m) ∧ k < 5 ∧ m < 128 ^ (5 - k)) (fun _ i => 5 - (intOf i).toNat)
  case atStart => exact ⟨0, 0, n, [], rfl, rfl, rfl, rfl, by simp, by simp, by simp, by omega, HN.out⟩
  case round =>
    obtain ⟨k, acc, m, pre, rfl, rfl, he, hpl, hnm, hacc, hpos, hk5, hm⟩ := hrel
    have hlen : k < L.length := by
      have := encV_pos m
      rw [← HLE.out, he]; simp; omega
    have hcell : w.cell? ⟨b, o + k, none⟩ = some (.int .u8 ((L.map Int.ofNat).getD k 0)) := by
      obtain ⟨b', o', c', e', _, hc'⟩ := take_cell HI.out H0.out.below (k := k) (by simpa using hlen)
      cases e'
      exact hc'
    have hbyte : (L.map Int.ofNat).getD k 0 = (((encV m).getD 0 0 : Nat) : Int) := by
      have := encV_pos m
      rw [List.getD_eq_getElem?_getD, List.getElem?_map, ← HLE.out, he, List.append_assoc, List.getElem?_append_right (by omega), hpl, Nat.sub_self, List.getElem?_append_left (by omega), List.getElem?_eq_getElem (by omega)]
      rw [List.getD_eq_getElem?_getD, List.getElem?_eq_getElem (by omega)]
      rfl
    rw [hbyte] at hcell
    have HE := Lib.hid he
    have HPL := Lib.hid hpl
    have HNM := Lib.hid hnm
    have HACC := Lib.hid hacc
    have HM := Lib.hid hm
    have hk5' : (k : Int) < 5 := by omega
    have hlen' : (k : Int) < (L.length : Int) := by omega
    obtain ⟨y, hy⟩ : ∃ y, (encV m).getD 0 0 = y := ⟨_, rfl⟩
    have hy256 : y < 256 := by
      have h1 := encV_pos m
      rw [← hy, List.getD_eq_getElem?_getD, List.getElem?_eq_getElem h1]
      exact encV_byte m _ (List.getElem_mem h1)
    rw [hy] at hcell
    obtain ⟨z, hz⟩ : ∃ z, y % 128 = z := ⟨_, rfl⟩
    have hz1 : z < 128 := by omega
    have r1 := and127 y hy256
    rw [hz] at r1
    obtain ⟨s, hs⟩ : ∃ s, z * 128 ^ k = s := ⟨_, rfl⟩
    obtain ⟨r2, r3⟩ := take_arith hk5 hacc hz1 hs
    obtain ⟨a2, ha2⟩ : ∃ a2, acc + s = a2 := ⟨_, rfl⟩
    rw [ha2] at r3
    have HY := Lib.hid hy
    have HZ := Lib.hid hz
    have HS := Lib.hid hs
    have HA2 := Lib.hid ha2
    clear he hpl hnm hbyte hy hz hs ha2 hacc hm
    by_cases h127 : 127 < m
    · have hb1 : y = m % 128 + 128 := by rw [← HY.out, encV_big h127]; rfl
      have h9 : decide ((y : Int) < 128) = false := by simp; omega
      have HB1 := Lib.hid hb1
      clear hb1
      go_wp2_with fail
      obtain ⟨q1, q2, q3, q4, q5, q6, q7⟩ := take_next HE.out HPL.out HNM.out HACC.out hk5 HM.out HB1.out HZ.out HS.out HA2.out h127
      go_round
      case rel => exact ⟨k + 1, a2, m / 128, pre ++ [y], rfl, by go_num, q1, q2, q3, q4, fun _ => q5, q6, q7⟩
      case measure => simp [intOf]; omega
    · have hb1 : y = m := by rw [← HY.out, encV_small (by omega)]; rfl
      have h9 : decide ((y : Int) < 128) = true := by simp; omega
      have HLAST := Lib.hid (take_last HE.out HPL.out HNM.out hb1 HZ.out HS.out HA2.out h127 HLE.out)
      have HB1 := Lib.hid hb1
      clear hb1
      have HTD : Hid (Ints .u8 W0 (.slice (if c = k + 1 then some ⟨b, o, none⟩ else (some (⟨b, o, none⟩ : Addr)).map (fun x => x.add (k + 1))) (L.length - (k + 1)) (c - (k + 1))) (r.map Int.ofNat)) := by
        have h1 := Ints.drop (m := k + 1) HI.out (by rw [List.length_map]; omega)
        rw [← List.map_drop, HLAST.out.2, List.length_map] at h1
        exact h1
      by_cases hk0 : k = 0
      · have h0 : decide (0 < k) = false := by simp; omega
        clear hk0
        by_cases hck : c = k + 1
        · subst hck
          go_wp2_with fail
          go_ret
          exact ⟨ret_int' (by rw [HLAST.out.1]), TakeS.fin H0.out (by
              have e0 : L.length - (k + 1) = 0 := by omega
              have := HTD.out
              rw [e0] at this
              simpa using this)⟩
        · go_wp2_with fail
          go_ret
          exact ⟨ret_int' (by rw [HLAST.out.1]), TakeS.fin H0.out (by simpa [Addr.add, hck] using HTD.out)⟩
      · have h0 : decide (0 < k) = true := by simp; omega
        have h1 : ((y : Int) == 0) = false := by have := hpos (by omega); have := HB1.out; simp; omega
        by_cases hck : c = k + 1
        · subst hck
          go_wp2_with fail
          go_ret
          exact ⟨ret_int' (by rw [HLAST.out.1]), TakeS.fin H0.out (by
              have e0 : L.length - (k + 1) = 0 := by omega
              have := HTD.out
              rw [e0] at this
              simpa using this)⟩
        · go_wp2_with fail
          go_ret
          exact ⟨ret_int' (by rw [HLAST.out.1]), TakeS.fin H0.out (by simpa [Addr.add, hck] using HTD.out)⟩
def ents (l : List (Value × Value)) : Array MapEntry := (l.mapIdx fun i p => (⟨p.1, p.2, i⟩ : MapEntry)).toArray
theorem mem_ents {l : List (Value × Value)} {e : MapEntry} (h : e ∈ (ents l).toList) : (e.key, e.val) ∈ l := by
  unfold ents at h
  simp only [List.mem_mapIdx] at h
  obtain ⟨i, hi, rfl⟩ := h
  exact List.getElem_mem hi
theorem ents_push (l : List (Value × Value)) (k v : Value) : (ents l).push ⟨k, v, l.length⟩ = ents (l ++ [(k, v)]) := by
  unfold ents
  simp
def MapIs (P : Program) (K : TypeId) (w : World) (r : Nat) (l : List (Value × Value)) : Prop :=
  r < w.heap.size ∧ mapAt w r = some (ents l, l.length) ∧ (∀ p ∈ l, ∃ q, keyOf P K p.1 = some q) ∧ (l.map (·.1)).Nodup
section
variable {P : Program} {t K E : TypeId} {w : World} {r : Nat} {l : List (Value × Value)}
theorem lookup_hit (law : Keyed P K) (ht : P.underlying t = some (.map K E)) (h : MapIs P K w r l) {k v : Value} {q : Lit} (hk : keyOf P K k = some q) (hm : (k, v) ∈ l) :
    (Instr.lookup t (.map (some r)) k true).run P w = .ok (.tuple #[v, .bool true]) w := by
  obtain ⟨_, h1, h2, h3⟩ := h
  have hb := mapAt_some h1
  have hfind := law.find w hk (ents l).toList (fun e he => h2 _ (mem_ents he))
  have hval : ∀ e ∈ (ents l).toList, e.key = k → e.val = v := by
    intro e he hek
    have hm2 := mem_ents he
    rw [hek] at hm2
    obtain ⟨i, hi, e1⟩ := List.getElem_of_mem hm
    obtain ⟨j, hj, e2⟩ := List.getElem_of_mem hm2
    have hij : i = j := by
      have hp := List.pairwise_iff_getElem.1 h3
      rcases Nat.lt_trichotomy i j with h | h | h
      · exact absurd (show (l.map (·.1))[i]'(by simpa using hi) = (l.map (·.1))[j]'(by simpa using hj) from by simp [e1, e2]) (hp i j (by simpa using hi) (by simpa using hj) h)
      · exact h
      · exact absurd (show (l.map (·.1))[j]'(by simpa using hj) = (l.map (·.1))[i]'(by simpa using hi) from by simp [e1, e2]) (hp j i (by simpa using hj) (by simpa using hi) h)
    subst hij
    rw [e1] at e2
    cases e2; rfl
  rcases hfind with ⟨_, hno⟩ | ⟨j, e, hrun, hj, hek⟩
  · exfalso
    obtain ⟨i, hi, e1⟩ := List.getElem_of_mem hm
    refine hno ⟨k, v, i⟩ ?_ rfl
    unfold ents
    simp only [List.mem_mapIdx]
    exact ⟨i, hi, by rw [e1]⟩
  · have hv := hval e (List.mem_of_getElem? hj) hek
    simp [Instr.lookup, run_underlying ht, MapKept.run_getObj_map hb, law.check w _ hk, hrun, hv, Result.andThen]
theorem lookup_miss (law : Keyed P K) (ht : P.underlying t = some (.map K E)) {z : Value} (hz : ∀ w, (zeroValue E).run P w = .ok z w) (h : MapIs P K w r l) {k : Value} {q : Lit} (hk : keyOf P K k = some q) (hm : ∀ p ∈ l, p.1 ≠ k) :
    (Instr.lookup t (.map (some r)) k true).run P w = .ok (.tuple #[z, .bool false]) w := by
  obtain ⟨_, h1, h2, h3⟩ := h
  have hb := mapAt_some h1
  rcases law.find w hk (ents l).toList (fun e he => h2 _ (mem_ents he)) with ⟨hrun, _⟩ | ⟨j, e, hrun, hj, hek⟩
  · simp [Instr.lookup, run_underlying ht, MapKept.run_getObj_map hb, law.check w _ hk, hrun, hz, Result.andThen]
  · exact absurd hek (hm _ (mem_ents (List.mem_of_getElem? hj)))
theorem update_new (law : Keyed P K) (ht : P.underlying t = some (.map K E)) (h : MapIs P K w r l) {k v : Value} {q : Lit} (hk : keyOf P K k = some q) (hm : ∀ p ∈ l, p.1 ≠ k) :
    (Instr.mapUpdate t (.map (some r)) k v).run P w = .ok () (setMap w r (ents (l ++ [(k, v)])) (l.length + 1)) := by
  obtain ⟨_, h1, h2, h3⟩ := h
  have hb := mapAt_some h1
  rcases law.find w hk (ents l).toList (fun e he => h2 _ (mem_ents he)) with ⟨hrun, _⟩ | ⟨j, e, hrun, hj, hek⟩
  · simp [Instr.mapUpdate, run_underlying ht, MapKept.run_getObj_map hb, law.check w _ hk, hrun, MapKept.run_setObj_map _ hb, Result.andThen, setMap, ents_push]
  · exact absurd hek (hm _ (mem_ents (List.mem_of_getElem? hj)))
theorem mapAt_setMap {es es' : Array MapEntry} {c c' : Nat} (h : mapAt w r = some (es, c)) : mapAt (setMap w r es' c') r = some (es', c') := by
  have hb := mapAt_some h
  have hlt : r < w.heap.size := by
    rcases Nat.lt_or_ge r w.heap.size with h | h
    · exact h
    · rw [Array.getElem?_eq_none h] at hb; cases hb
  unfold mapAt setMap
  simp [Array.getElem?_setIfInBounds, hlt]
theorem MapIs.new (h : MapIs P K w r l) {k v : Value} {q : Lit} (hk : keyOf P K k = some q) (hm : ∀ p ∈ l, p.1 ≠ k) : MapIs P K (setMap w r (ents (l ++ [(k, v)])) (l.length + 1)) r (l ++ [(k, v)]) := by
  obtain ⟨h0, h1, h2, h3⟩ := h
  refine ⟨by rw [size_setMap]; exact h0, by rw [mapAt_setMap h1]; simp, ?_, ?_⟩
  · intro p hp
    rcases List.mem_append.1 hp with hp | hp
    · exact h2 p hp
    · simp at hp; subst hp; exact ⟨q, hk⟩
  · rw [List.map_append, List.nodup_append]
    refine ⟨h3, by simp, ?_⟩
    intro a ha b hb
    simp at hb
    subst hb
    obtain ⟨p, hp, rfl⟩ := List.mem_map.1 ha
    exact hm p hp
theorem MapIs.below {w' : World} (h : MapIs P K w r l) (hb : Below w.heap.size w w') : MapIs P K w' r l := by
  obtain ⟨h0, h1, h2, h3⟩ := h
  refine ⟨Nat.lt_of_lt_of_le h0 hb.size, ?_, h2, h3⟩
  rw [← h1]; unfold mapAt; rw [hb.block r h0]
theorem MapIs.made {w : World} : MapIs P K (w.alloc (.map #[] 0)) w.heap.size [] :=
  ⟨by simp, by rw [mapAt_alloc_at _ _ _ _ rfl]; rfl, (fun p hp => by cases hp), by simp⟩
theorem below_setMap {B : Nat} {w w' : World} (h : Below B w w') {r : Nat} (hr : B ≤ r) (es : Array MapEntry) (c : Nat) : Below B w (setMap w' r es c) := by
  refine h.trans ⟨rfl, rfl, rfl, by simp [setMap], fun k hk => ?_⟩
  show (w'.heap.setIfInBounds r _)[k]? = _
  rw [Array.getElem?_setIfInBounds, if_neg (by omega)]
theorem cell_setMap {w : World} {r b o : Nat} {es : Array MapEntry} {c : Nat} (h : b ≠ r) : (setMap w r es c).cell? ⟨b, o, none⟩ = w.cell? ⟨b, o, none⟩ := by
  unfold World.cell? setMap
  simp only [Array.getElem?_setIfInBounds]
  rw [if_neg (fun e => h e.symm)]
end
end Go.Proofs.Ytgcfadnnajahhaa
namespace Go.Proofs.Ytgcfadnnajahhaa
open Go.RowKit Go.Maps
set_option linter.unusedVariables false
set_option linter.unusedSimpArgs false
theorem within_any (n lo hi : Int) (w : World) : Calls Try.prog 21 #[.int .i64 n, .int .i64 lo, .int .i64 hi] w fun e w' => e = .returned (.bool (decide (lo ≤ n) && decide (n ≤ hi))) ∧ w = w' := by
  cases h1 : decide (lo ≤ n)
  · go_enter Try.func21, Try.ntmps21
    go_wp2_with fail
    go_ret
    exact ⟨rfl, rfl⟩
  · cases h2 : decide (n ≤ hi)
    · go_enter Try.func21, Try.ntmps21
      go_wp2_with fail
      go_ret
      exact ⟨rfl, rfl⟩
    · go_enter Try.func21, Try.ntmps21
      go_wp2_with fail
      go_ret
      exact ⟨rfl, rfl⟩
def okPB (x : Pl) : Bool := decide (0 ≤ x.f) && (decide (x.f < x.t) && (decide (x.t ≤ 32768) && ((decide (0 ≤ x.v) && decide (x.v ≤ 63)) && ((decide (0 ≤ x.k) && decide (x.k ≤ 2)) && (decide (0 ≤ x.n) && decide (x.n ≤ limP x.k))))))
theorem okPB_iff (x : Pl) : okPB x = true ↔ x.ok := by unfold okPB Pl.ok; simp only [Bool.and_eq_true, decide_eq_true_eq]
def PlV (x : Pl) : Value := .agg #[.int .i64 x.f, .int .i64 x.t, .int .i64 x.v, .int .i64 x.k, .int .i64 x.n]
theorem isP_1 (f t v k n : Int) (w : World) (a1 : decide ((0 : Int) ≤ f) = false) : Calls Try.prog 15 #[.agg #[.int .i64 f, .int .i64 t, .int .i64 v, .int .i64 k, .int .i64 n]] w fun e w' => e = .returned (.bool false) ∧ Below w.heap.size w w' := by
  have HBX : Hid (Below w.heap.size w ((w.alloc (.cells #[.int .i64 f, .int .i64 t, .int .i64 v, .int .i64 k, .int .i64 n] 32)).alloc (.cells #[.int .i64 31, .int .i64 32764, .int .i64 4294967295] 3))) := ((Below.refl _ _).alloc (Nat.le_refl _) _).alloc (by simp) _
  go_enter Try.func15, Try.ntmps15
  go_wp2_with fail
  go_quiet (fail)
  go_wp2_with fail
  go_ret
  exact ⟨rfl, below_drewN HBX.out nq⟩
theorem isP_2 (f t v k n : Int) (w : World) (a1 : decide ((0 : Int) ≤ f) = true) (a2 : decide (f < t) = false) : Calls Try.prog 15 #[.agg #[.int .i64 f, .int .i64 t, .int .i64 v, .int .i64 k, .int .i64 n]] w fun e w' => e = .returned (.bool false) ∧ Below w.heap.size w w' := by
  have HBX : Hid (Below w.heap.size w ((w.alloc (.cells #[.int .i64 f, .int .i64 t, .int .i64 v, .int .i64 k, .int .i64 n] 32)).alloc (.cells #[.int .i64 31, .int .i64 32764, .int .i64 4294967295] 3))) := ((Below.refl _ _).alloc (Nat.le_refl _) _).alloc (by simp) _
  go_enter Try.func15, Try.ntmps15
  go_wp2_with fail
  go_quiet (fail)
  go_wp2_with fail
  go_ret
  exact ⟨rfl, below_drewN HBX.out nq⟩
theorem isP_3 (f t v k n : Int) (w : World) (a1 : decide ((0 : Int) ≤ f) = true) (a2 : decide (f < t) = true) (a3 : decide (t ≤ 32768) = false) : Calls Try.prog 15 #[.agg #[.int .i64 f, .int .i64 t, .int .i64 v, .int .i64 k, .int .i64 n]] w fun e w' => e = .returned (.bool false) ∧ Below w.heap.size w w' := by
  have HBX : Hid (Below w.heap.size w ((w.alloc (.cells #[.int .i64 f, .int .i64 t, .int .i64 v, .int .i64 k, .int .i64 n] 32)).alloc (.cells #[.int .i64 31, .int .i64 32764, .int .i64 4294967295] 3))) := ((Below.refl _ _).alloc (Nat.le_refl _) _).alloc (by simp) _
  go_enter Try.func15, Try.ntmps15
  go_wp2_with fail
  go_quiet (fail)
  go_wp2_with fail
  go_ret
  exact ⟨rfl, below_drewN HBX.out nq⟩
theorem isP_4 (f t v k n : Int) (w : World) (a1 : decide ((0 : Int) ≤ f) = true) (a2 : decide (f < t) = true) (a3 : decide (t ≤ 32768) = true) (a4 : (decide ((0 : Int) ≤ v) && decide (v ≤ 63)) = false) : Calls Try.prog 15 #[.agg #[.int .i64 f, .int .i64 t, .int .i64 v, .int .i64 k, .int .i64 n]] w fun e w' => e = .returned (.bool false) ∧ Below w.heap.size w w' := by
  have HV : Hid (∀ W, Calls Try.prog 21 #[.int .i64 v, .int .i64 0, .int .i64 63] W fun e w' => e = .returned (.bool false) ∧ W = w') := fun W => by have := within_any v 0 63 W; rwa [a4] at this
  clear a4
  have HBX : Hid (Below w.heap.size w ((w.alloc (.cells #[.int .i64 f, .int .i64 t, .int .i64 v, .int .i64 k, .int .i64 n] 32)).alloc (.cells #[.int .i64 31, .int .i64 32764, .int .i64 4294967295] 3))) := ((Below.refl _ _).alloc (Nat.le_refl _) _).alloc (by simp) _
  go_enter Try.func15, Try.ntmps15
  go_wp2_with fail
  go_quiet ((go_at_call 21; first | (with_reducible exact quiet_same (HV.out _))))
  go_wp2_with fail
  go_ret
  exact ⟨rfl, below_drewN HBX.out nq⟩
theorem isP_5 (f t v k n : Int) (w : World) (a1 : decide ((0 : Int) ≤ f) = true) (a2 : decide (f < t) = true) (a3 : decide (t ≤ 32768) = true) (a4 : (decide ((0 : Int) ≤ v) && decide (v ≤ 63)) = true) (a5 : (decide ((0 : Int) ≤ k) && decide (k ≤ 2)) = false) : Calls Try.prog 15 #[.agg #[.int .i64 f, .int .i64 t, .int .i64 v, .int .i64 k, .int .i64 n]] w fun e w' => e = .returned (.bool false) ∧ Below w.heap.size w w' := by
  have HV : Hid (∀ W, Calls Try.prog 21 #[.int .i64 v, .int .i64 0, .int .i64 63] W fun e w' => e = .returned (.bool true) ∧ W = w') := fun W => by have := within_any v 0 63 W; rwa [a4] at this
  have HK : Hid (∀ W, Calls Try.prog 21 #[.int .i64 k, .int .i64 0, .int .i64 2] W fun e w' => e = .returned (.bool false) ∧ W = w') := fun W => by have := within_any k 0 2 W; rwa [a5] at this
  clear a4 a5
  have HBX : Hid (Below w.heap.size w ((w.alloc (.cells #[.int .i64 f, .int .i64 t, .int .i64 v, .int .i64 k, .int .i64 n] 32)).alloc (.cells #[.int .i64 31, .int .i64 32764, .int .i64 4294967295] 3))) := ((Below.refl _ _).alloc (Nat.le_refl _) _).alloc (by simp) _
  go_enter Try.func15, Try.ntmps15
  go_wp2_with fail
  go_quiet ((go_at_call 21; first | (with_reducible exact quiet_same (HV.out _)) | (with_reducible exact quiet_same (HK.out _))))
  go_wp2_with fail
  go_ret
  exact ⟨rfl, below_drewN HBX.out nq⟩
theorem isP_60f (f t v n : Int) (w : World) (a1 : decide ((0 : Int) ≤ f) = true) (a2 : decide (f < t) = true) (a3 : decide (t ≤ 32768) = true) (a4 : (decide ((0 : Int) ≤ v) && decide (v ≤ 63)) = true) (a5 : (decide ((0 : Int) ≤ 0) && decide ((0 : Int) ≤ 2)) = true) (a6 : (decide ((0 : Int) ≤ n) && decide (n ≤ 31)) = false) : Calls Try.prog 15 #[.agg #[.int .i64 f, .int .i64 t, .int .i64 v, .int .i64 0, .int .i64 n]] w fun e w' => e = .returned (.bool false) ∧ Below w.heap.size w w' := by
  have HV : Hid (∀ W, Calls Try.prog 21 #[.int .i64 v, .int .i64 0, .int .i64 63] W fun e w' => e = .returned (.bool true) ∧ W = w') := fun W => by have := within_any v 0 63 W; rwa [a4] at this
  have HK : Hid (∀ W, Calls Try.prog 21 #[.int .i64 0, .int .i64 0, .int .i64 2] W fun e w' => e = .returned (.bool true) ∧ W = w') := fun W => by have := within_any 0 0 2 W; rwa [a5] at this
  have HN : Hid (∀ W, Calls Try.prog 21 #[.int .i64 n, .int .i64 0, .int .i64 31] W fun e w' => e = .returned (.bool false) ∧ W = w') := fun W => by have := within_any n 0 31 W; rwa [a6] at this
  clear a4 a5 a6
  have HBX : Hid (Below w.heap.size w ((w.alloc (.cells #[.int .i64 f, .int .i64 t, .int .i64 v, .int .i64 0, .int .i64 n] 32)).alloc (.cells #[.int .i64 31, .int .i64 32764, .int .i64 4294967295] 3))) := ((Below.refl _ _).alloc (Nat.le_refl _) _).alloc (by simp) _
  go_enter Try.func15, Try.ntmps15
  go_wp2_with fail
  go_quiet ((go_at_call 21; first | (with_reducible exact quiet_same (HV.out _)) | (with_reducible exact quiet_same (HK.out _)) | (with_reducible exact quiet_same (HN.out _))))
  go_wp2_with fail
  go_ret
  exact ⟨rfl, below_drewN HBX.out nq⟩
theorem isP_60t (f t v n : Int) (w : World) (a1 : decide ((0 : Int) ≤ f) = true) (a2 : decide (f < t) = true) (a3 : decide (t ≤ 32768) = true) (a4 : (decide ((0 : Int) ≤ v) && decide (v ≤ 63)) = true) (a5 : (decide ((0 : Int) ≤ 0) && decide ((0 : Int) ≤ 2)) = true) (a6 : (decide ((0 : Int) ≤ n) && decide (n ≤ 31)) = true) : Calls Try.prog 15 #[.agg #[.int .i64 f, .int .i64 t, .int .i64 v, .int .i64 0, .int .i64 n]] w fun e w' => e = .returned (.bool true) ∧ Below w.heap.size w w' := by
  have HV : Hid (∀ W, Calls Try.prog 21 #[.int .i64 v, .int .i64 0, .int .i64 63] W fun e w' => e = .returned (.bool true) ∧ W = w') := fun W => by have := within_any v 0 63 W; rwa [a4] at this
  have HK : Hid (∀ W, Calls Try.prog 21 #[.int .i64 0, .int .i64 0, .int .i64 2] W fun e w' => e = .returned (.bool true) ∧ W = w') := fun W => by have := within_any 0 0 2 W; rwa [a5] at this
  have HN : Hid (∀ W, Calls Try.prog 21 #[.int .i64 n, .int .i64 0, .int .i64 31] W fun e w' => e = .returned (.bool true) ∧ W = w') := fun W => by have := within_any n 0 31 W; rwa [a6] at this
  clear a4 a5 a6
  have HBX : Hid (Below w.heap.size w ((w.alloc (.cells #[.int .i64 f, .int .i64 t, .int .i64 v, .int .i64 0, .int .i64 n] 32)).alloc (.cells #[.int .i64 31, .int .i64 32764, .int .i64 4294967295] 3))) := ((Below.refl _ _).alloc (Nat.le_refl _) _).alloc (by simp) _
  go_enter Try.func15, Try.ntmps15
  go_wp2_with fail
  go_quiet ((go_at_call 21; first | (with_reducible exact quiet_same (HV.out _)) | (with_reducible exact quiet_same (HK.out _)) | (with_reducible exact quiet_same (HN.out _))))
  go_wp2_with fail
  go_ret
  exact ⟨rfl, below_drewN HBX.out nq⟩
theorem isP_61f (f t v n : Int) (w : World) (a1 : decide ((0 : Int) ≤ f) = true) (a2 : decide (f < t) = true) (a3 : decide (t ≤ 32768) = true) (a4 : (decide ((0 : Int) ≤ v) && decide (v ≤ 63)) = true) (a5 : (decide ((0 : Int) ≤ 1) && decide ((1 : Int) ≤ 2)) = true) (a6 : (decide ((0 : Int) ≤ n) && decide (n ≤ 32764)) = false) : Calls Try.prog 15 #[.agg #[.int .i64 f, .int .i64 t, .int .i64 v, .int .i64 1, .int .i64 n]] w fun e w' => e = .returned (.bool false) ∧ Below w.heap.size w w' := by
  have HV : Hid (∀ W, Calls Try.prog 21 #[.int .i64 v, .int .i64 0, .int .i64 63] W fun e w' => e = .returned (.bool true) ∧ W = w') := fun W => by have := within_any v 0 63 W; rwa [a4] at this
  have HK : Hid (∀ W, Calls Try.prog 21 #[.int .i64 1, .int .i64 0, .int .i64 2] W fun e w' => e = .returned (.bool true) ∧ W = w') := fun W => by have := within_any 1 0 2 W; rwa [a5] at this
  have HN : Hid (∀ W, Calls Try.prog 21 #[.int .i64 n, .int .i64 0, .int .i64 32764] W fun e w' => e = .returned (.bool false) ∧ W = w') := fun W => by have := within_any n 0 32764 W; rwa [a6] at this
  clear a4 a5 a6
  have HBX : Hid (Below w.heap.size w ((w.alloc (.cells #[.int .i64 f, .int .i64 t, .int .i64 v, .int .i64 1, .int .i64 n] 32)).alloc (.cells #[.int .i64 31, .int .i64 32764, .int .i64 4294967295] 3))) := ((Below.refl _ _).alloc (Nat.le_refl _) _).alloc (by simp) _
  go_enter Try.func15, Try.ntmps15
  go_wp2_with fail
  go_quiet ((go_at_call 21; first | (with_reducible exact quiet_same (HV.out _)) | (with_reducible exact quiet_same (HK.out _)) | (with_reducible exact quiet_same (HN.out _))))
  go_wp2_with fail
  go_ret
  exact ⟨rfl, below_drewN HBX.out nq⟩
theorem isP_61t (f t v n : Int) (w : World) (a1 : decide ((0 : Int) ≤ f) = true) (a2 : decide (f < t) = true) (a3 : decide (t ≤ 32768) = true) (a4 : (decide ((0 : Int) ≤ v) && decide (v ≤ 63)) = true) (a5 : (decide ((0 : Int) ≤ 1) && decide ((1 : Int) ≤ 2)) = true) (a6 : (decide ((0 : Int) ≤ n) && decide (n ≤ 32764)) = true) : Calls Try.prog 15 #[.agg #[.int .i64 f, .int .i64 t, .int .i64 v, .int .i64 1, .int .i64 n]] w fun e w' => e = .returned (.bool true) ∧ Below w.heap.size w w' := by
  have HV : Hid (∀ W, Calls Try.prog 21 #[.int .i64 v, .int .i64 0, .int .i64 63] W fun e w' => e = .returned (.bool true) ∧ W = w') := fun W => by have := within_any v 0 63 W; rwa [a4] at this
  have HK : Hid (∀ W, Calls Try.prog 21 #[.int .i64 1, .int .i64 0, .int .i64 2] W fun e w' => e = .returned (.bool true) ∧ W = w') := fun W => by have := within_any 1 0 2 W; rwa [a5] at this
  have HN : Hid (∀ W, Calls Try.prog 21 #[.int .i64 n, .int .i64 0, .int .i64 32764] W fun e w' => e = .returned (.bool true) ∧ W = w') := fun W => by have := within_any n 0 32764 W; rwa [a6] at this
  clear a4 a5 a6
  have HBX : Hid (Below w.heap.size w ((w.alloc (.cells #[.int .i64 f, .int .i64 t, .int .i64 v, .int .i64 1, .int .i64 n] 32)).alloc (.cells #[.int .i64 31, .int .i64 32764, .int .i64 4294967295] 3))) := ((Below.refl _ _).alloc (Nat.le_refl _) _).alloc (by simp) _
  go_enter Try.func15, Try.ntmps15
  go_wp2_with fail
  go_quiet ((go_at_call 21; first | (with_reducible exact quiet_same (HV.out _)) | (with_reducible exact quiet_same (HK.out _)) | (with_reducible exact quiet_same (HN.out _))))
  go_wp2_with fail
  go_ret
  exact ⟨rfl, below_drewN HBX.out nq⟩
theorem isP_62f (f t v n : Int) (w : World) (a1 : decide ((0 : Int) ≤ f) = true) (a2 : decide (f < t) = true) (a3 : decide (t ≤ 32768) = true) (a4 : (decide ((0 : Int) ≤ v) && decide (v ≤ 63)) = true) (a5 : (decide ((0 : Int) ≤ 2) && decide ((2 : Int) ≤ 2)) = true) (a6 : (decide ((0 : Int) ≤ n) && decide (n ≤ 4294967295)) = false) : Calls Try.prog 15 #[.agg #[.int .i64 f, .int .i64 t, .int .i64 v, .int .i64 2, .int .i64 n]] w fun e w' => e = .returned (.bool false) ∧ Below w.heap.size w w' := by
  have HV : Hid (∀ W, Calls Try.prog 21 #[.int .i64 v, .int .i64 0, .int .i64 63] W fun e w' => e = .returned (.bool true) ∧ W = w') := fun W => by have := within_any v 0 63 W; rwa [a4] at this
  have HK : Hid (∀ W, Calls Try.prog 21 #[.int .i64 2, .int .i64 0, .int .i64 2] W fun e w' => e = .returned (.bool true) ∧ W = w') := fun W => by have := within_any 2 0 2 W; rwa [a5] at this
  have HN : Hid (∀ W, Calls Try.prog 21 #[.int .i64 n, .int .i64 0, .int .i64 4294967295] W fun e w' => e = .returned (.bool false) ∧ W = w') := fun W => by have := within_any n 0 4294967295 W; rwa [a6] at this
  clear a4 a5 a6
  have HBX : Hid (Below w.heap.size w ((w.alloc (.cells #[.int .i64 f, .int .i64 t, .int .i64 v, .int .i64 2, .int .i64 n] 32)).alloc (.cells #[.int .i64 31, .int .i64 32764, .int .i64 4294967295] 3))) := ((Below.refl _ _).alloc (Nat.le_refl _) _).alloc (by simp) _
  go_enter Try.func15, Try.ntmps15
  go_wp2_with fail
  go_quiet ((go_at_call 21; first | (with_reducible exact quiet_same (HV.out _)) | (with_reducible exact quiet_same (HK.out _)) | (with_reducible exact quiet_same (HN.out _))))
  go_wp2_with fail
  go_ret
  exact ⟨rfl, below_drewN HBX.out nq⟩
theorem isP_62t (f t v n : Int) (w : World) (a1 : decide ((0 : Int) ≤ f) = true) (a2 : decide (f < t) = true) (a3 : decide (t ≤ 32768) = true) (a4 : (decide ((0 : Int) ≤ v) && decide (v ≤ 63)) = true) (a5 : (decide ((0 : Int) ≤ 2) && decide ((2 : Int) ≤ 2)) = true) (a6 : (decide ((0 : Int) ≤ n) && decide (n ≤ 4294967295)) = true) : Calls Try.prog 15 #[.agg #[.int .i64 f, .int .i64 t, .int .i64 v, .int .i64 2, .int .i64 n]] w fun e w' => e = .returned (.bool true) ∧ Below w.heap.size w w' := by
  have HV : Hid (∀ W, Calls Try.prog 21 #[.int .i64 v, .int .i64 0, .int .i64 63] W fun e w' => e = .returned (.bool true) ∧ W = w') := fun W => by have := within_any v 0 63 W; rwa [a4] at this
  have HK : Hid (∀ W, Calls Try.prog 21 #[.int .i64 2, .int .i64 0, .int .i64 2] W fun e w' => e = .returned (.bool true) ∧ W = w') := fun W => by have := within_any 2 0 2 W; rwa [a5] at this
  have HN : Hid (∀ W, Calls Try.prog 21 #[.int .i64 n, .int .i64 0, .int .i64 4294967295] W fun e w' => e = .returned (.bool true) ∧ W = w') := fun W => by have := within_any n 0 4294967295 W; rwa [a6] at this
  clear a4 a5 a6
  have HBX : Hid (Below w.heap.size w ((w.alloc (.cells #[.int .i64 f, .int .i64 t, .int .i64 v, .int .i64 2, .int .i64 n] 32)).alloc (.cells #[.int .i64 31, .int .i64 32764, .int .i64 4294967295] 3))) := ((Below.refl _ _).alloc (Nat.le_refl _) _).alloc (by simp) _
  go_enter Try.func15, Try.ntmps15
  go_wp2_with fail
  go_quiet ((go_at_call 21; first | (with_reducible exact quiet_same (HV.out _)) | (with_reducible exact quiet_same (HK.out _)) | (with_reducible exact quiet_same (HN.out _))))
  go_wp2_with fail
  go_ret
  exact ⟨rfl, below_drewN HBX.out nq⟩
theorem isPlace_any (x : Pl) (w : World) : Calls Try.prog 15 #[PlV x] w fun e w' => e = .returned (.bool (okPB x)) ∧ Below w.heap.size w w' := by
  obtain ⟨f, t, v, k, n⟩ := x
  unfold okPB PlV
  simp only
  cases a1 : decide ((0 : Int) ≤ f)
  · exact isP_1 f t v k n w a1
  cases a2 : decide (f < t)
  · exact isP_2 f t v k n w a1 a2
  cases a3 : decide (t ≤ 32768)
  · exact isP_3 f t v k n w a1 a2 a3
  cases a4 : (decide ((0 : Int) ≤ v) && decide (v ≤ 63))
  · exact isP_4 f t v k n w a1 a2 a3 a4
  cases a5 : (decide ((0 : Int) ≤ k) && decide (k ≤ 2))
  · exact isP_5 f t v k n w a1 a2 a3 a4 a5
  have hk : k = 0 ∨ k = 1 ∨ k = 2 := by simp only [Bool.and_eq_true, decide_eq_true_eq] at a5; omega
  cases a6 : (decide ((0 : Int) ≤ n) && decide (n ≤ limP k))
  · rcases hk with rfl | rfl | rfl
    · exact isP_60f f t v n w a1 a2 a3 a4 a5 a6
    · exact isP_61f f t v n w a1 a2 a3 a4 a5 a6
    · exact isP_62f f t v n w a1 a2 a3 a4 a5 a6
  · rcases hk with rfl | rfl | rfl
    · exact isP_60t f t v n w a1 a2 a3 a4 a5 a6
    · exact isP_61t f t v n w a1 a2 a3 a4 a5 a6
    · exact isP_62t f t v n w a1 a2 a3 a4 a5 a6
theorem nan_any (x : Int) (w : World) : Calls Try.prog 33 #[.int .i64 x] w fun e w' => e = .returned (.bool false) ∧ w = w' := by
  have h : (x != x) = false := by simp
  go_enter Try.func33, Try.ntmps33
  go_wp2_with fail
  go_ret
  exact ⟨rfl, rfl⟩
def cmpI (a b : Int) : Int := if a < b then -1 else if b < a then 1 else 0
theorem cmp_any (a b : Int) (w : World) : Calls Try.prog 28 #[.int .i64 a, .int .i64 b] w fun e w' => e = .returned (.int .i64 (cmpI a b)) ∧ w = w' := by
  have HA := Lib.hid (fun W => nan_any a W)
  have HB := Lib.hid (fun W => nan_any b W)
  unfold cmpI
  cases h1 : decide (a < b)
  · have g1 : ¬ a < b := by simpa using h1
    have G1 := Lib.hid g1
    clear g1
    rw [if_neg G1.out]
    cases h2 : decide (b < a)
    · have g2 : ¬ b < a := by simpa using h2
      rw [if_neg g2]
      clear g2
      go_enter Try.func28, Try.ntmps28
      go_wp2_with fail
      refine (HA.out _).mono ?_
      rintro e w1 ⟨rfl, rfl⟩
      go_wp2_with fail
      refine (HB.out _).mono ?_
      rintro e w1 ⟨rfl, rfl⟩
      go_wp2_with fail
      go_ret
      exact ⟨rfl, rfl⟩
    · have g2 : b < a := by simpa using h2
      rw [if_pos g2]
      clear g2
      go_enter Try.func28, Try.ntmps28
      go_wp2_with fail
      refine (HA.out _).mono ?_
      rintro e w1 ⟨rfl, rfl⟩
      go_wp2_with fail
      refine (HB.out _).mono ?_
      rintro e w1 ⟨rfl, rfl⟩
      go_wp2_with fail
      go_ret
      exact ⟨rfl, rfl⟩
  · have g1 : a < b := by simpa using h1
    rw [if_pos g1]
    clear g1
    go_enter Try.func28, Try.ntmps28
    go_wp2_with fail
    refine (HA.out _).mono ?_
    rintro e w1 ⟨rfl, rfl⟩
    go_wp2_with fail
    refine (HB.out _).mono ?_
    rintro e w1 ⟨rfl, rfl⟩
    go_wp2_with fail
    go_ret
    exact ⟨rfl, rfl⟩
def orI : List Int → Int
  | [] => 0
  | x :: l => if x = 0 then orI l else x
theorem orI_drop {l : List Int} {j : Nat} (h : j < l.length) : orI (l.drop j) = if l.getD j 0 = 0 then orI (l.drop (j + 1)) else l.getD j 0 := by
  rw [List.drop_eq_getElem_cons h, List.getD_eq_getElem?_getD, List.getElem?_eq_getElem h]; rfl
theorem or_any (l : List Int) (v : Value) (w : World) (hv : Ints .i64 w v l) : Calls Try.prog 27 #[v] w fun e w' => e = .returned (.int .i64 (orI l)) ∧ w = w' := by
  have HV := Lib.hid hv
  obtain ⟨a, c, rfl, h1, h2⟩ := hv.shape
  clear hv
  go_enter Try.func27, Try.ntmps27
  go_wp2_with fail
  go_loopw [8] (fun i wr => ∃ j : Nat, j ≤ l.length ∧ i = .int .i64 j ∧ Hid (orI (l.drop j) = orI l) ∧ w = wr) (fun i _ => l.length - (intOf i).toNat)
  case atStart => exact ⟨0, Nat.zero_le _, rfl, rfl, rfl⟩
  case round =>
    obtain ⟨j, hj, rfl, HO, rfl⟩ := hrel
    by_cases hlt : j < l.length
    · obtain ⟨b, q, c', e', _, hb, hc⟩ := HV.out.at hlt
      cases e'
      have HD := Lib.hid (orI_drop hlt)
      generalize l.getD j 0 = y at *
      cases hy : (y == 0)
      · have g : ¬ y = 0 := by simpa using hy
        have hny : (y != 0) = true := by simpa using hy
        have HR : Hid (orI l = y) := by show _ = _; rw [← HO.out, HD.out, if_neg g]
        clear g HD
        go_wp2_with fail
        go_ret
        exact ⟨ret_i HR.out.symm, rfl⟩
      · have g : y = 0 := by simpa using hy
        have HR : Hid (orI (l.drop (j + 1)) = orI l) := by show _ = _; rw [← HO.out, HD.out, if_pos g]
        subst g
        clear hy HD
        go_wp2_with fail
        go_roundw
        case rel => exact ⟨j + 1, by omega, by go_num, HR, trivial⟩
        case measure => simp [intOf]; omega
    · obtain rfl : j = l.length := by omega
      have HR : Hid (orI l = 0) := by show _ = _; rw [← HO.out, List.drop_length]; rfl
      go_wp2_with fail
      go_ret
      exact ⟨ret_i HR.out.symm, rfl⟩
def cmpP (x y : Pl) : Int := orI [cmpI x.f y.f, cmpI x.t y.t, cmpI x.v y.v, cmpI x.k y.k, cmpI x.n y.n]
theorem cmpI_0 {a b : Int} : cmpI a b = 0 ↔ a = b := by unfold cmpI; split <;> (try split) <;> omega
theorem cmpI_neg {a b : Int} : cmpI a b < 0 ↔ a < b := by unfold cmpI; split <;> (try split) <;> omega
theorem orI_cons {x : Int} {l : List Int} : orI (x :: l) < 0 ↔ x < 0 ∨ (x = 0 ∧ orI l < 0) := by
  show (if x = 0 then orI l else x) < 0 ↔ _
  split <;> omega
theorem cmpP_lt (x y : Pl) : cmpP x y < 0 ↔ x.lt y := by
  unfold cmpP Pl.lt
  rw [orI_cons, orI_cons, orI_cons, orI_cons, orI_cons, cmpI_neg, cmpI_neg, cmpI_neg, cmpI_neg, cmpI_neg, cmpI_0, cmpI_0, cmpI_0, cmpI_0, cmpI_0]
  have : ¬ orI [] < 0 := by show ¬ (0 : Int) < 0; omega
  simp only [this, and_false, or_false]
theorem five_ints (a b c d e : Int) (w : World) : Ints .i64 (w.alloc (.cells #[.int .i64 a, .int .i64 b, .int .i64 c, .int .i64 d, .int .i64 e] 3)) (.slice (some ⟨w.heap.size, 0, none⟩) 5 5) [a, b, c, d, e] :=
  ⟨some ⟨w.heap.size, 0, none⟩, 5, rfl, by simp, ⟨by simp, by omega⟩, (fun h => by cases h), fun i hi => ⟨w.heap.size, 0, rfl, by simp, by
    rcases i with _ | _ | _ | _ | _ | i
    · simp [go_sem]
    · simp [go_sem]
    · simp [go_sem]
    · simp [go_sem]
    · simp [go_sem]
    · simp at hi; omega⟩⟩
def GrS (w w' : World) : Prop := ∃ q os, w' = Go.Sort.grow (w.drewN q) os
theorem GrS.refl (w : World) : GrS w w := ⟨0, #[], by simp; rfl⟩
theorem GrS.drew {w w' : World} (h : GrS w w') : GrS w w'.drew := by
  obtain ⟨q, os, rfl⟩ := h
  exact ⟨q + 1, os, rfl⟩
theorem GrS.alloc {w w' : World} (h : GrS w w') (o : Obj) : GrS w (w'.alloc o) := by
  obtain ⟨q, os, rfl⟩ := h
  exact ⟨q, os ++ #[o], by rw [Go.Sort.alloc_eq_grow, Go.Sort.grow_grow]⟩
theorem GrS.trans {a b c : World} (h : GrS a b) (h' : GrS b c) : GrS a c := by
  obtain ⟨q, os, rfl⟩ := h
  obtain ⟨q', os', rfl⟩ := h'
  exact ⟨q + q', os ++ os', by rw [← Go.Sort.grow_grow, ← World.drewN_drewN]; rfl⟩
theorem GrS.below {w w' : World} (h : GrS w w') : Below w.heap.size w w' := by
  obtain ⟨q, os, rfl⟩ := h
  refine ⟨rfl, rfl, rfl, ?_, fun k hk => ?_⟩
  · simp [World.drewN]
  · show (w.heap ++ os)[k]? = _
    rw [Array.getElem?_append, if_pos hk]
theorem GrS.cell {w w' : World} (h : GrS w w') {b o : Nat} {v : Value} (h' : w.cell? ⟨b, o, none⟩ = some v) : w'.cell? ⟨b, o, none⟩ = some v := below_cell h.below (cell_lt h') h'
theorem cmp_b (a b : Int) (w : World) : Calls Try.prog 28 #[.int .i64 a, .int .i64 b] w fun e w' => e = .returned (.int .i64 (cmpI a b)) ∧ GrS w w' := (cmp_any a b w).mono fun e w' ⟨h1, h2⟩ => ⟨h1, by subst h2; exact GrS.refl _⟩
set_option maxHeartbeats 2000000 in
theorem compare_gr (x y : Pl) (w : World) : Calls Try.prog 16 #[PlV x, PlV y] w fun e w' => e = .returned (.int .i64 (cmpP x y)) ∧ GrS w w' := by
  obtain ⟨f, t, v, k, n⟩ := x
  obtain ⟨f', t', v', k', n'⟩ := y
  unfold cmpP PlV
  simp only
  have HB0 : Hid (GrS w ((w.alloc (.cells #[.int .i64 f, .int .i64 t, .int .i64 v, .int .i64 k, .int .i64 n] 32)).alloc (.cells #[.int .i64 f', .int .i64 t', .int .i64 v', .int .i64 k', .int .i64 n'] 32))) := ((GrS.refl _).alloc _).alloc _
  obtain ⟨W0, hW0⟩ : ∃ W, ((w.alloc (.cells #[.int .i64 f, .int .i64 t, .int .i64 v, .int .i64 k, .int .i64 n] 32)).alloc (.cells #[.int .i64 f', .int .i64 t', .int .i64 v', .int .i64 k', .int .i64 n'] 32)) = W := ⟨_, rfl⟩
  have p0 : ∀ wk, GrS W0 wk → wk.cell? ⟨w.heap.size, 0, none⟩ = some (.int .i64 f) := fun wk h => h.cell (by rw [← hW0]; simp [go_sem])
  have p1 : ∀ wk, GrS W0 wk → wk.cell? ⟨w.heap.size, 1, none⟩ = some (.int .i64 t) := fun wk h => h.cell (by rw [← hW0]; simp [go_sem])
  have p2 : ∀ wk, GrS W0 wk → wk.cell? ⟨w.heap.size, 2, none⟩ = some (.int .i64 v) := fun wk h => h.cell (by rw [← hW0]; simp [go_sem])
  have p3 : ∀ wk, GrS W0 wk → wk.cell? ⟨w.heap.size, 3, none⟩ = some (.int .i64 k) := fun wk h => h.cell (by rw [← hW0]; simp [go_sem])
  have p4 : ∀ wk, GrS W0 wk → wk.cell? ⟨w.heap.size, 4, none⟩ = some (.int .i64 n) := fun wk h => h.cell (by rw [← hW0]; simp [go_sem])
  have q0 : ∀ wk, GrS W0 wk → wk.cell? ⟨w.heap.size + 1, 0, none⟩ = some (.int .i64 f') := fun wk h => h.cell (by rw [← hW0]; simp [go_sem])
  have q1 : ∀ wk, GrS W0 wk → wk.cell? ⟨w.heap.size + 1, 1, none⟩ = some (.int .i64 t') := fun wk h => h.cell (by rw [← hW0]; simp [go_sem])
  have q2 : ∀ wk, GrS W0 wk → wk.cell? ⟨w.heap.size + 1, 2, none⟩ = some (.int .i64 v') := fun wk h => h.cell (by rw [← hW0]; simp [go_sem])
  have q3 : ∀ wk, GrS W0 wk → wk.cell? ⟨w.heap.size + 1, 3, none⟩ = some (.int .i64 k') := fun wk h => h.cell (by rw [← hW0]; simp [go_sem])
  have q4 : ∀ wk, GrS W0 wk → wk.cell? ⟨w.heap.size + 1, 4, none⟩ = some (.int .i64 n') := fun wk h => h.cell (by rw [← hW0]; simp [go_sem])
  have h00 := GrS.refl W0
  rw [hW0] at HB0
  have C1 := Lib.hid (fun W => cmp_b f f' W)
  have C2 := Lib.hid (fun W => cmp_b t t' W)
  have C3 := Lib.hid (fun W => cmp_b v v' W)
  have C4 := Lib.hid (fun W => cmp_b k k' W)
  have C5 := Lib.hid (fun W => cmp_b n n' W)
  generalize cmpI f f' = a at *
  generalize cmpI t t' = b at *
  generalize cmpI v v' = c at *
  generalize cmpI k k' = d at *
  generalize cmpI n n' = g at *
  go_enter Try.func16, Try.ntmps16
  go_wp2_with fail
  clear hW0
  go_region_held3 (fun wk => GrS W0 wk) (first | assumption | exact GrS.drew (by assumption) | exact GrS.trans (by assumption) (by assumption) | exact GrS.alloc (by assumption) _) (first | (go_at_call 28; first | (with_reducible refine (C1.out _).mono ?_) | (with_reducible refine (C2.out _).mono ?_) | (with_reducible refine (C3.out _).mono ?_) | (with_reducible refine (C4.out _).mono ?_) | (with_reducible refine (C5.out _).mono ?_)); rintro e w' ⟨rfl, hb⟩ | (go_at_call 27; refine (or_any [a, b, c, d, g] _ _ (five_ints a b c d g _)).mono ?_; rintro e w' ⟨rfl, rfl⟩))
  clear h00
  go_wp2_with fail
  go_ret
  exact ⟨rfl, HB0.out.trans (show GrS W0 _ by assumption)⟩
theorem compare_any (x y : Pl) (w : World) : Calls Try.prog 16 #[PlV x, PlV y] w fun e w' => e = .returned (.int .i64 (cmpP x y)) ∧ Below w.heap.size w w' := (compare_gr x y w).mono fun _ _ h => ⟨h.1, h.2.below⟩
def PlAt (w : World) (b o : Nat) (x : Pl) : Prop :=
  w.cell? ⟨b, o, none⟩ = some (.int .i64 x.f) ∧ w.cell? ⟨b, o + 1, none⟩ = some (.int .i64 x.t) ∧ w.cell? ⟨b, o + 2, none⟩ = some (.int .i64 x.v) ∧ w.cell? ⟨b, o + 3, none⟩ = some (.int .i64 x.k) ∧ w.cell? ⟨b, o + 4, none⟩ = some (.int .i64 x.n)
def Pls (w : World) (v : Value) (l : List Pl) : Prop := Slc w v l.length 5 fun i b o => PlAt w b o (l.getD i default)
def plL (x : Pl) : List Value := [.int .i64 x.f, .int .i64 x.t, .int .i64 x.v, .int .i64 x.k, .int .i64 x.n]
theorem PlAt.stays {w w' : World} {b o : Nat} {x : Pl} (h : PlAt w b o x) (hlt : b < w.heap.size) (hb : Below w.heap.size w w') : PlAt w' b o x := by
  obtain ⟨h1, h2, h3, h4, h5⟩ := h
  exact ⟨below_cell hb hlt h1, below_cell hb hlt h2, below_cell hb hlt h3, below_cell hb hlt h4, below_cell hb hlt h5⟩
theorem Pls.stays {w w' : World} {v : Value} {l : List Pl} (h : Pls w v l) (hb : Below w.heap.size w w') : Pls w' v l :=
  Slc.stays h hb fun _ _ _ hlt hc => hc.stays hlt hb
theorem Pls.shape {w : World} {v : Value} {l : List Pl} (h : Pls w v l) : ∃ a c, v = .slice a l.length c ∧ l.length ≤ c ∧ l.length ≤ 140737488351232 := by
  obtain ⟨a, c, rfl, h1, h2, _⟩ := h
  exact ⟨a, c, rfl, h1, h2.1⟩
theorem Pls.at {w wr : World} {v : Value} {l : List Pl} (h : Pls w v l) (hb : Below w.heap.size w wr) {k : Nat} (hk : k < l.length) :
    ∃ b q c, v = .slice (some ⟨b, q, none⟩) l.length c ∧ b < w.heap.size ∧ PlAt wr b (q + k * 5) (l.getD k default) := by
  obtain ⟨a, c, rfl, h1, h2, h3, h4⟩ := h
  obtain ⟨b, q, rfl, h5, h6⟩ := h4 k hk
  exact ⟨b, q, c, rfl, h5, h6.stays h5 hb⟩
theorem Pls.nil (w : World) : Pls w (.slice none 0 0) [] := ⟨none, 0, rfl, Nat.le_refl _, ⟨by simp, by omega⟩, fun _ => rfl, fun i hi => absurd hi (by simp)⟩
theorem long24_any (l : List Pl) (v : Value) (w : World) (h : Pls w v l) : Calls Try.prog 5 #[v] w fun e w' => e = .returned (.bool (decide (100 < (l.length : Int)))) ∧ w = w' := by
  obtain ⟨a, c, rfl, h1, h2⟩ := h.shape
  clear h
  generalize hz : decide (100 < (l.length : Int)) = z
  go_enter Try.func5, Try.ntmps5
  go_wp2_with fail
  go_ret
  exact ⟨rfl, rfl⟩
theorem same24_eq (l : List Pl) (v u : Value) (w : World) (hv : Pls w v l) (hu : Pls w u l) : Calls Try.prog 10 #[v, u] w fun e w' => e = .returned (.bool true) ∧ Below w.heap.size w w' := by
  have HV := Lib.hid hv
  have HU := Lib.hid hu
  obtain ⟨a, c, rfl, h1, h2⟩ := hv.shape
  obtain ⟨a', c', rfl, h1', h2'⟩ := hu.shape
  clear hv hu
  go_enter Try.func10, Try.ntmps10
  go_wp2_with fail
  go_loopw [5] (fun i wr => ∃ j : Nat, j ≤ l.length ∧ i = .int .i64 j ∧ Below w.heap.size w wr) (fun i _ => l.length - (intOf i).toNat)
  case atStart => exact ⟨0, Nat.zero_le _, rfl, Below.refl _ _⟩
  case round =>
    obtain ⟨j, hj, rfl, hb⟩ := hrel
    have HB := Lib.hid hb
    by_cases hlt : j < l.length
    · obtain ⟨b, q, c2, e', hbl, x0, x1, x2, x3, x4⟩ := HV.out.at hb hlt
      cases e'
      obtain ⟨b', q', c2', e', hbl', y0, y1, y2, y3, y4⟩ := HU.out.at hb hlt
      cases e'
      have hs := hb.size
      have g1 : b < wr.heap.size := by omega
      have g2 : b' < wr.heap.size := by omega
      have i0 : (0 : Int) ≤ (j : Int) := by omega
      have i1 : (j : Int) < l.length := by omega
      generalize l.getD j default = x at *
      obtain ⟨f, t, v, k, n⟩ := x
      simp only at x0 x1 x2 x3 x4 y0 y1 y2 y3 y4
      clear hb
      go_wp2_with fail
      go_quiet (fail)
      go_wp2_with fail
      go_roundw
      case rel => exact ⟨j + 1, by omega, by go_num, below_drewN HB.out _⟩
      case measure => simp [intOf]; omega
    · obtain rfl : j = l.length := by omega
      go_wp2_with fail
      go_ret
      exact ⟨rfl, HB.out⟩
end Go.Proofs.Ytgcfadnnajahhaa
namespace Go.Proofs.Ytgcfadnnajahhaa
set_option linter.unusedVariables false
set_option linter.unusedSimpArgs false
instance (x y : Pl) : Decidable (x.meet y) := by unfold Pl.meet; infer_instance
def argB (l : List Pl) (i : Nat) : Bool := !okPB (l.getD i default) || (decide (0 < i) && decide (0 ≤ cmpP (l.getD (i - 1) default) (l.getD i default)))
def ruleB (l : List Pl) (i : Nat) : Bool := (l.take i).any fun y => decide ((l.getD i default).meet y)
def traE (l : List Pl) : Int := if 64 < l.length then 3 else if (List.range l.length).any (argB l) = true then 1 else if (List.range l.length).any (ruleB l) = true then 7 else 0
theorem adj_pairwise : ∀ (l : List Pl), (∀ i, i + 1 < l.length → (l.getD i default).lt (l.getD (i + 1) default)) → l.Pairwise Pl.lt
  | [], _ => List.Pairwise.nil
  | a :: l, h => by
    have ih := adj_pairwise l fun i hi => h (i + 1) (by simpa using hi)
    rw [List.pairwise_cons]
    refine ⟨fun b hb => ?_, ih⟩
    cases l with
    | nil => cases hb
    | cons c l =>
      have h0 : a.lt c := h 0 (by simp)
      rcases List.mem_cons.1 hb with e | hb'
      · rw [e]; exact h0
      · exact Pl.lt_trans h0 ((List.pairwise_cons.1 ih).1 b hb')
theorem traE_valid {l : List Pl} (h : traE l = 0) : ValidP l := by
  unfold traE at h
  by_cases h1 : 64 < l.length
  · rw [if_pos h1] at h; cases h
  rw [if_neg h1] at h
  by_cases h2 : (List.range l.length).any (argB l) = true
  · rw [if_pos h2] at h; cases h
  rw [if_neg h2] at h
  by_cases h3 : (List.range l.length).any (ruleB l) = true
  · rw [if_pos h3] at h; cases h
  have g2 : ∀ i, i < l.length → argB l i = false := fun i hi => by
    rw [Bool.eq_false_iff]; exact fun e => h2 (List.any_eq_true.2 ⟨i, List.mem_range.2 hi, e⟩)
  have g3 : ∀ i, i < l.length → ruleB l i = false := fun i hi => by
    rw [Bool.eq_false_iff]; exact fun e => h3 (List.any_eq_true.2 ⟨i, List.mem_range.2 hi, e⟩)
  refine ⟨by omega, fun x hx => ?_, adj_pairwise l fun i hi => ?_, ?_⟩
  · obtain ⟨i, hi, rfl⟩ := List.getElem_of_mem hx
    have := g2 i hi
    unfold argB at this
    rw [Bool.or_eq_false_iff] at this
    have h4 := this.1
    rw [List.getD_eq_getElem?_getD, List.getElem?_eq_getElem hi] at h4
    exact (okPB_iff _).1 (by simpa using h4)
  · have := g2 (i + 1) hi
    unfold argB at this
    rw [Bool.or_eq_false_iff] at this
    have h4 := this.2
    simp only [Nat.add_sub_cancel, Nat.zero_lt_succ, decide_true, Bool.true_and, decide_eq_false_iff_not] at h4
    exact (cmpP_lt _ _).1 (by omega)
  · rw [List.pairwise_iff_getElem]
    intro i j hi hj hij hm
    have := g3 j hj
    unfold ruleB at this
    rw [List.any_eq_false] at this
    refine this l[i] (List.mem_take_iff_getElem.2 ⟨i, by omega, rfl⟩) ?_
    rw [List.getD_eq_getElem?_getD, List.getElem?_eq_getElem hj]
    simpa using Pl.meet_comm hm
theorem traE_of {l : List Pl} (h : ValidP l) : traE l = 0 := by
  unfold traE
  rw [if_neg (by have := h.len; omega), if_neg, if_neg]
  · intro e
    obtain ⟨j, hj, e⟩ := List.any_eq_true.1 e
    have hj := List.mem_range.1 hj
    unfold ruleB at e
    obtain ⟨y, hy, hm⟩ := List.any_eq_true.1 e
    obtain ⟨i, hi, rfl⟩ := List.mem_take_iff_getElem.1 hy
    rw [List.getD_eq_getElem?_getD, List.getElem?_eq_getElem hj] at hm
    have hm' : (l[j]).meet l[i] := by simpa using hm
    exact List.pairwise_iff_getElem.1 h.apart i j (by omega) hj (by omega) (Pl.meet_comm hm')
  · intro e
    obtain ⟨j, hj, e⟩ := List.any_eq_true.1 e
    have hj := List.mem_range.1 hj
    unfold argB at e
    rcases Bool.or_eq_true_iff.1 e with e | e
    · have hk := (okPB_iff _).2 (h.ok _ (List.getElem_mem hj))
      rw [List.getD_eq_getElem?_getD, List.getElem?_eq_getElem hj] at e
      simp only [Option.getD_some] at e
      rw [hk] at e; cases e
    · rw [Bool.and_eq_true, decide_eq_true_eq, decide_eq_true_eq] at e
      have hlt := List.pairwise_iff_getElem.1 h.srt (j - 1) j (by omega) hj (by omega)
      have h9 := (cmpP_lt _ _).2 hlt
      rw [List.getD_eq_getElem?_getD, List.getElem?_eq_getElem (show j - 1 < l.length by omega), List.getD_eq_getElem?_getD, List.getElem?_eq_getElem hj] at e
      simp only [Option.getD_some] at e
      omega
end Go.Proofs.Ytgcfadnnajahhaa
namespace Go.Proofs.Ytgcfadnnajahhaa
open Go.RowKit Go.Maps
set_option linter.unusedVariables false
set_option linter.unusedSimpArgs false
theorem vcl_1 (f t v k n f' t' v' k' n' : Int) (bx : Nat) (w : World) (x0 : w.cell? ⟨bx, 0, none⟩ = some (.int .i64 f)) (x1 : w.cell? ⟨bx, 1, none⟩ = some (.int .i64 t)) (x2 : w.cell? ⟨bx, 2, none⟩ = some (.int .i64 v)) (a1 : (v == v') = false) : Calls Try.prog 18 #[.agg #[.int .i64 f', .int .i64 t', .int .i64 v', .int .i64 k', .int .i64 n'], .pointer (some ⟨bx, 0, none⟩)] w fun e w' => e = .returned (.bool false) ∧ Below w.heap.size w w' := by
  have hl := cell_lt x0
  have hn : ¬ bx = w.heap.size := by omega
  have HBX : Hid (Below w.heap.size w (w.alloc (.cells #[.int .i64 f', .int .i64 t', .int .i64 v', .int .i64 k', .int .i64 n'] 32))) := (Below.refl _ _).alloc (Nat.le_refl _) _
  go_enter Try.func18, Try.ntmps18
  go_wp2_with fail
  go_ret
  exact ⟨rfl, HBX.out⟩
theorem vcl_2 (f t v k n f' t' v' k' n' : Int) (bx : Nat) (w : World) (x0 : w.cell? ⟨bx, 0, none⟩ = some (.int .i64 f)) (x1 : w.cell? ⟨bx, 1, none⟩ = some (.int .i64 t)) (x2 : w.cell? ⟨bx, 2, none⟩ = some (.int .i64 v)) (a1 : (v == v') = true) (a2 : decide (f < t') = false) : Calls Try.prog 18 #[.agg #[.int .i64 f', .int .i64 t', .int .i64 v', .int .i64 k', .int .i64 n'], .pointer (some ⟨bx, 0, none⟩)] w fun e w' => e = .returned (.bool false) ∧ Below w.heap.size w w' := by
  have hl := cell_lt x0
  have hn : ¬ bx = w.heap.size := by omega
  have HBX : Hid (Below w.heap.size w (w.alloc (.cells #[.int .i64 f', .int .i64 t', .int .i64 v', .int .i64 k', .int .i64 n'] 32))) := (Below.refl _ _).alloc (Nat.le_refl _) _
  go_enter Try.func18, Try.ntmps18
  go_wp2_with fail
  go_ret
  exact ⟨rfl, HBX.out⟩
theorem vcl_3 (f t v k n f' t' v' k' n' : Int) (bx : Nat) (w : World) (x0 : w.cell? ⟨bx, 0, none⟩ = some (.int .i64 f)) (x1 : w.cell? ⟨bx, 1, none⟩ = some (.int .i64 t)) (x2 : w.cell? ⟨bx, 2, none⟩ = some (.int .i64 v)) (a1 : (v == v') = true) (a2 : decide (f < t') = true) (a3 : decide (f' < t) = false) : Calls Try.prog 18 #[.agg #[.int .i64 f', .int .i64 t', .int .i64 v', .int .i64 k', .int .i64 n'], .pointer (some ⟨bx, 0, none⟩)] w fun e w' => e = .returned (.bool false) ∧ Below w.heap.size w w' := by
  have hl := cell_lt x0
  have hn : ¬ bx = w.heap.size := by omega
  have HBX : Hid (Below w.heap.size w (w.alloc (.cells #[.int .i64 f', .int .i64 t', .int .i64 v', .int .i64 k', .int .i64 n'] 32))) := (Below.refl _ _).alloc (Nat.le_refl _) _
  go_enter Try.func18, Try.ntmps18
  go_wp2_with fail
  go_ret
  exact ⟨rfl, HBX.out⟩
theorem vcl_4 (f t v k n f' t' v' k' n' : Int) (bx : Nat) (w : World) (x0 : w.cell? ⟨bx, 0, none⟩ = some (.int .i64 f)) (x1 : w.cell? ⟨bx, 1, none⟩ = some (.int .i64 t)) (x2 : w.cell? ⟨bx, 2, none⟩ = some (.int .i64 v)) (a1 : (v == v') = true) (a2 : decide (f < t') = true) (a3 : decide (f' < t) = true) : Calls Try.prog 18 #[.agg #[.int .i64 f', .int .i64 t', .int .i64 v', .int .i64 k', .int .i64 n'], .pointer (some ⟨bx, 0, none⟩)] w fun e w' => e = .returned (.bool true) ∧ Below w.heap.size w w' := by
  have hl := cell_lt x0
  have hn : ¬ bx = w.heap.size := by omega
  have HBX : Hid (Below w.heap.size w (w.alloc (.cells #[.int .i64 f', .int .i64 t', .int .i64 v', .int .i64 k', .int .i64 n'] 32))) := (Below.refl _ _).alloc (Nat.le_refl _) _
  go_enter Try.func18, Try.ntmps18
  go_wp2_with fail
  go_ret
  exact ⟨rfl, HBX.out⟩
theorem vcl_any (x y : Pl) (bx : Nat) (w : World) (x0 : w.cell? ⟨bx, 0, none⟩ = some (.int .i64 x.f)) (x1 : w.cell? ⟨bx, 1, none⟩ = some (.int .i64 x.t)) (x2 : w.cell? ⟨bx, 2, none⟩ = some (.int .i64 x.v)) : Calls Try.prog 18 #[PlV y, .pointer (some ⟨bx, 0, none⟩)] w fun e w' => e = .returned (.bool (decide (x.meet y))) ∧ Below w.heap.size w w' := by
  obtain ⟨f, t, v, k, n⟩ := x
  obtain ⟨f', t', v', k', n'⟩ := y
  unfold PlV
  simp only at x0 x1 x2 ⊢
  cases a1 : (v == v')
  · rw [show decide ((⟨f, t, v, k, n⟩ : Pl).meet ⟨f', t', v', k', n'⟩) = false from decide_eq_false fun h => by have := h.1; simp only at this; subst this; simp at a1]
    exact vcl_1 f t v k n f' t' v' k' n' bx w x0 x1 x2 a1
  cases a2 : decide (f < t')
  · rw [show decide ((⟨f, t, v, k, n⟩ : Pl).meet ⟨f', t', v', k', n'⟩) = false from decide_eq_false fun h => absurd h.2.1 (of_decide_eq_false a2)]
    exact vcl_2 f t v k n f' t' v' k' n' bx w x0 x1 x2 a1 a2
  cases a3 : decide (f' < t)
  · rw [show decide ((⟨f, t, v, k, n⟩ : Pl).meet ⟨f', t', v', k', n'⟩) = false from decide_eq_false fun h => absurd h.2.2 (of_decide_eq_false a3)]
    exact vcl_3 f t v k n f' t' v' k' n' bx w x0 x1 x2 a1 a2 a3
  · rw [show decide ((⟨f, t, v, k, n⟩ : Pl).meet ⟨f', t', v', k', n'⟩) = true from decide_eq_true ⟨by simpa using a1, of_decide_eq_true a2, of_decide_eq_true a3⟩]
    exact vcl_4 f t v k n f' t' v' k' n' bx w x0 x1 x2 a1 a2 a3
end Go.Proofs.Ytgcfadnnajahhaa
namespace Go.Proofs
open Go.Shelf Go.RowKit Go.Lib
def Try.contPl_ren : Go.Shelf.Ren := ⟨fun | 8 => 17 | 6 => 25 | n => n, fun | 22 => 22 | 23 => 32 | 25 => 48 | 4 => 4 | 3 => 3 | 0 => 0 | n => n, fun | n => n⟩
theorem Try.contPl : Go.Proofs.SlLaysH0.n8 Try.prog Try.contPl_ren := {
  mixed := by kernel_rfl
  f6 := ⟨Try.f25.name, by decide, Try.func25.trans (congrArg some (by kernel_rfl))⟩
  f8 := ⟨Try.f17.name, by decide, Try.func17.trans (congrArg some (by kernel_rfl))⟩
  t0 := Try.underlying0
  a0 := Try.isAgg0
  z0 := Try.sizeOf0
  v0 := Try.zeroValue0
  t3 := Try.underlying3
  a3 := Try.isAgg3
  z3 := Try.sizeOf3
  v3 := Try.zeroValue3
  t4 := Try.underlying4
  a4 := Try.isAgg4
  z4 := Try.sizeOf4
  v4 := Try.zeroValue4
  t22 := Try.underlying22
  a22 := Try.isAgg22
  z22 := Try.sizeOf22
  v22 := Try.zeroValue22
  t25 := Try.underlying48
  a25 := Try.isAgg48
  z25 := Try.sizeOf48
  v25 := Try.zeroValue48 }
def Try.idxPl_ren : Go.Shelf.Ren := ⟨fun | 6 => 25 | n => n, fun | 22 => 22 | 23 => 32 | 25 => 48 | 3 => 3 | 0 => 0 | 4 => 4 | n => n, fun | n => n⟩
theorem Try.idxPl : Go.Proofs.SlLaysH0.n6 Try.prog Try.idxPl_ren := {
  mixed := by kernel_rfl
  f6 := ⟨Try.f25.name, by decide, Try.func25.trans (congrArg some (by kernel_rfl))⟩
  t0 := Try.underlying0
  a0 := Try.isAgg0
  z0 := Try.sizeOf0
  v0 := Try.zeroValue0
  t3 := Try.underlying3
  a3 := Try.isAgg3
  z3 := Try.sizeOf3
  v3 := Try.zeroValue3
  t4 := Try.underlying4
  a4 := Try.isAgg4
  z4 := Try.sizeOf4
  v4 := Try.zeroValue4
  t22 := Try.underlying22
  a22 := Try.isAgg22
  z22 := Try.sizeOf22
  v22 := Try.zeroValue22
  t25 := Try.underlying48
  a25 := Try.isAgg48
  z25 := Try.sizeOf48
  v25 := Try.zeroValue48 }
end Go.Proofs
namespace Go.Proofs.Ytgcfadnnajahhaa
open Go.RowKit Go.Maps
set_option linter.unusedVariables false
set_option linter.unusedSimpArgs false
theorem idxP_none (a : Option Addr) (c : Nat) (f : Value) (w : World) : Calls Try.prog 25 #[.slice a 0 c, f] w fun e w' => e = .returned (.int .i64 (-1)) ∧ w = w' := by
  go_enter Try.func25, Try.ntmps25
  go_wp2_with fail
  go_loopg [5, 8] 0 (fun _ _ s8 wr => s8 = .int .i64 0 ∧ wr = w)
  case atStart => exact ⟨rfl, rfl⟩
  case round =>
    obtain ⟨rfl, rfl⟩ := hrel
    go_wp2_with fail
    go_ret
    exact ⟨rfl, rfl⟩
theorem contP_none (a : Option Addr) (c : Nat) (f : Value) (w : World) : Calls Try.prog 17 #[.slice a 0 c, f] w fun e w' => e = .returned (.bool false) ∧ Below w.heap.size w w' := by
  have C := Lib.hid (idxP_none a c f)
  have HB := Lib.hid (Below.refl w.heap.size w)
  go_enter Try.func17, Try.ntmps17
  go_wp2_with (go_at_call 25; with_reducible refine (C.out _).mono ?_; rintro e w' ⟨rfl, rfl⟩)
  go_ret
  exact ⟨rfl, HB.out⟩
theorem getD_bang {α : Type} [Inhabited α] (l : List α) (j : Nat) (h : j < l.length) : l[j]! = l.getD j default := by
  rw [List.getD_eq_getElem?_getD, List.getElem?_eq_getElem h, getElem!_pos l j h]; rfl
def RowsP (w : World) (a : Option Addr) (l : List Pl) : Prop := ∀ i, i < l.length → ∃ b o, a = some ⟨b, o, none⟩ ∧ b < w.heap.size ∧ PlAt w b (o + i * 5) (l.getD i default)
theorem RowsP.stays {w w' : World} {a : Option Addr} {l : List Pl} (h : RowsP w a l) (hb : Below w.heap.size w w') : RowsP w' a l := fun i hi => by
  obtain ⟨b, o, e, h1, h2⟩ := h i hi
  exact ⟨b, o, e, Nat.lt_of_lt_of_le h1 hb.size, h2.stays h1 hb⟩
theorem Pls.shapeR {w : World} {v : Value} {l : List Pl} (h : Pls w v l) : ∃ a c, v = .slice a l.length c ∧ l.length ≤ c ∧ l.length ≤ 140737488351232 ∧ RowsP w a l := by
  obtain ⟨a, c, rfl, h1, h2, h3, h4⟩ := h
  refine ⟨a, c, rfl, h1, h2.1, fun i hi => ?_⟩
  obtain ⟨b, q, rfl, h5, h6⟩ := h4 i hi
  exact ⟨b, q, rfl, h5, h6⟩
theorem RowsP.cells {w : World} {b o : Nat} {l : List Pl} (h : RowsP w (some ⟨b, o, none⟩) l) (j : Nat) (hj : j < l.length) (i : Nat) (v : Value) (hi : (plL l[j]!)[i]? = some v) : w.cell? ⟨b, o + j * 5 + i, none⟩ = some v := by
  obtain ⟨b', o', e, -, h1, h2, h3, h4, h5⟩ := h j hj
  cases e
  rw [getD_bang l j hj] at hi
  generalize l.getD j default = y at hi h1 h2 h3 h4 h5
  match i, hi with
  | 0, hi => simp [plL] at hi; rw [← hi]; exact h1
  | 1, hi => simp [plL] at hi; rw [← hi]; exact h2
  | 2, hi => simp [plL] at hi; rw [← hi]; exact h3
  | 3, hi => simp [plL] at hi; rw [← hi]; exact h4
  | 4, hi => simp [plL] at hi; rw [← hi]; exact h5
  | i + 5, hi => simp [plL] at hi
theorem contP_any (l : List Pl) (p : Pl → Bool) (g : Nat) (lb : Array Value) (eg : ∀ args w, (callFunc g args).run Try.prog w = .ok (.enter g args) w) (n c : Nat) (a : Option Addr) (w : World)
    (hS : RowsP w a l) (hn : n ≤ l.length) (hl : l.length ≤ 140737488351232)
    (hp : PredBelow Try.prog g lb PlV p w) :
    Calls Try.prog 17 #[.slice a n c, .func (.func g) #[] lb] w fun e w' => e = .returned (.bool ((l.take n).any p)) ∧ Below w.heap.size w w' := by
  by_cases h0 : n = 0
  · subst h0
    exact contP_none a c _ w
  · obtain ⟨b, o, rfl, hb, -⟩ := hS 0 (by omega)
    exact AnyQ.slices_ContainsFunc Try.contPl 5 Try.isAgg32 Try.sizeOf32 plL (fun _ => rfl) p g lb eg b o n c l w hp hn (by omega) hb hS.cells
theorem idxP_any (l : List Pl) (p : Pl → Bool) (g : Nat) (lb : Array Value) (eg : ∀ args w, (callFunc g args).run Try.prog w = .ok (.enter g args) w) (c : Nat) (a : Option Addr) (w : World)
    (hS : RowsP w a l) (hl : l.length ≤ 140737488351232) (hp : PredBelow Try.prog g lb PlV p w) :
    Calls Try.prog 25 #[.slice a l.length c, .func (.func g) #[] lb] w fun e w' => e = .returned (.int .i64 (Lib.idxBy (fun _ y => p y) l default)) ∧ Below w.heap.size w w' := by
  cases l with
  | nil => exact (idxP_none a c _ w).mono fun _ _ h => ⟨h.1, by rw [h.2]; exact Below.refl _ _⟩
  | cons y l =>
    obtain ⟨b, o, rfl, hb, -⟩ := hS 0 (by simp)
    have := AnyQ.slices_IndexFunc Try.idxPl 5 Try.isAgg32 Try.sizeOf32 plL (fun _ => rfl) p g lb eg b o (y :: l).length c (y :: l) w hp (Nat.le_refl _) (by omega) hb hS.cells
    rwa [List.take_length] at this
end Go.Proofs.Ytgcfadnnajahhaa
namespace Go.Proofs.Ytgcfadnnajahhaa
open Go.RowKit
set_option linter.unusedVariables false
set_option linter.unusedSimpArgs false
section
variable {P : Program} {l : List Oper} {Q : Exit → Act → World → Prop} {md : Region.Mode} {S : World → Prop}
theorem wpAnyH_takeL (i : Nat) {oi : Oper} {v : Value} {fuel : Nat} {listed : Array Bool} {a : Act} {w : World} (hi : (l.drop i).head? = some oi)
    (hs : Region.noSelect l.toArray = true) (hf : Region.free md l.toArray listed i = true) (hr : (Region.ready md l.toArray listed).contains i = true)
    (hQ : ∀ c a w, Q (.panic c) (a.put oi.dst v) w → Q (.panic c) a w) (hy : YieldsIf P l.toArray S oi v a) (hS : S w)
    (h : wpAnyH P md l.toArray Q S fuel (listed.setIfInBounds i true) (a.put oi.dst v) w) : wpAnyH P md l.toArray Q S (fuel + 1) listed a w :=
  wpAnyH_take (i := i) (by rw [← hi, List.head?_drop]; simp) hs hf hr hQ hy hS h
theorem AllReadyH_consL (i : Nat) {fuel : Nat} {listed : Array Bool} {a : Act} {w : World} {o : Oper} {rs : List Nat} (ho : (l.drop i).head? = some o)
    (h : ∀ K' : Act → World → Prop, Shut (∀ a w, S w → (S w → wpAnyH P md l.toArray Q S fuel (listed.setIfInBounds i true) a w) → K' a w) → if Region.wanted o (yielded l.toArray a.tmps) = true then Oper.wp P o a w K' Q else K' (a.put o.dst undef) w)
    (hs : AllReadyH P md l.toArray Q S fuel listed a w rs) : AllReadyH P md l.toArray Q S fuel listed a w (i :: rs) :=
  AllReadyH.cons (by rw [← ho, List.head?_drop]; simp) h hs
theorem tk (i : Nat) {oi : Oper} {v : Value} {fuel : Nat} {listed : Array Bool} {a a' : Act} {w : World}
    (h : wpAnyH P md l.toArray Q S fuel (listed.setIfInBounds i true) a' w)
    (hi : (l.drop i).head? = some oi := by rfl)
    (hs : Region.noSelect l.toArray = true := by kernel_rfl) (hf : Region.free md l.toArray listed i = true := by kernel_rfl) (hr : (Region.ready md l.toArray listed).contains i = true := by kernel_rfl)
    (hw : Region.wanted oi (yielded l.toArray a.tmps) = true := by rfl)
    (hv : ∀ w, S w → (execOp a.eval oi).run P w = .ok (.value v) w := by (intro w hSw; (try dsimp only at hSw); go_simp; (try with_reducible rfl)))
    (hQ : ∀ c a w, Q (.panic c) (a.put oi.dst v) w → Q (.panic c) a w := by exact fun _ _ _ h => h)
    (hS : S w := by assumption)
    (ha : a.put oi.dst v = a' := by first | (go_frame; done) | (go_frame; rfl) | rfl) : wpAnyH P md l.toArray Q S (fuel + 1) listed a w := by
  subst ha
  exact wpAnyH_takeL i hi hs hf hr hQ (Or.inl ⟨hw, hv⟩) hS h
theorem sk (i : Nat) {oi : Oper} {fuel : Nat} {listed : Array Bool} {a a' : Act} {w : World}
    (h : wpAnyH P md l.toArray Q S fuel (listed.setIfInBounds i true) a' w)
    (hi : (l.drop i).head? = some oi := by rfl)
    (hs : Region.noSelect l.toArray = true := by kernel_rfl) (hf : Region.free md l.toArray listed i = true := by kernel_rfl) (hr : (Region.ready md l.toArray listed).contains i = true := by kernel_rfl)
    (hw : Region.wanted oi (yielded l.toArray a.tmps) = false := by rfl)
    (hQ : ∀ c a w, Q (.panic c) (a.put oi.dst undef) w → Q (.panic c) a w := by exact fun _ _ _ h => h)
    (hS : S w := by assumption)
    (ha : a.put oi.dst undef = a' := by first | (go_frame; done) | (go_frame; rfl) | rfl) : wpAnyH P md l.toArray Q S (fuel + 1) listed a w := by
  subst ha
  exact wpAnyH_takeL i hi hs hf hr hQ (Or.inr ⟨hw, rfl⟩) hS h
theorem rd1 (i : Nat) {oi : Oper} {fuel : Nat} {listed : Array Bool} {a : Act} {w : World}
    (h : ∀ K' : Act → World → Prop, Shut (∀ a w, S w → (S w → wpAnyH P md l.toArray Q S fuel (listed.setIfInBounds i true) a w) → K' a w) → if Region.wanted oi (yielded l.toArray a.tmps) = true then Oper.wp P oi a w K' Q else K' (a.put oi.dst undef) w)
    (hi : (l.drop i).head? = some oi := by rfl) (hr : Region.ready md l.toArray listed = [i] := by kernel_rfl) : wpAnyH P md l.toArray Q S (fuel + 1) listed a w :=
  wpAnyH_ready hr (by simp) (AllReadyH_consL i hi h AllReadyH.nil)
end
end Go.Proofs.Ytgcfadnnajahhaa
namespace Go.Proofs.Ytgcfadnnajahhaa
open Go.RowKit Go.Maps
set_option linter.unusedVariables false
set_option linter.unusedSimpArgs false
theorem traE_3 {l : List Pl} (h : 64 < l.length) : traE l = 3 := if_pos h
theorem traE_1 {l : List Pl} (h : ¬ 64 < l.length) {i : Nat} (hi : i < l.length) (ha : argB l i = true) : traE l = 1 := by
  unfold traE; rw [if_neg h, if_pos (List.any_eq_true.2 ⟨i, List.mem_range.2 hi, ha⟩)]
theorem traE_7 {l : List Pl} (h : ¬ 64 < l.length) (hn : (List.range l.length).any (argB l) = false) {i : Nat} (hi : i < l.length) (ha : ruleB l i = true) : traE l = 7 := by
  unfold traE; rw [if_neg h, hn, if_neg (by simp), if_pos (List.any_eq_true.2 ⟨i, List.mem_range.2 hi, ha⟩)]
theorem traE_0 {l : List Pl} (h : ¬ 64 < l.length) (hn : (List.range l.length).any (argB l) = false) (hr : (List.range l.length).any (ruleB l) = false) : traE l = 0 := by
  unfold traE; rw [if_neg h, hn, if_neg (by simp), hr, if_neg (by simp)]
theorem any_range_succ {f : Nat → Bool} {j : Nat} (h : (List.range j).any f = false) (hj : f j = false) : (List.range (j + 1)).any f = false := by
  rw [List.range_succ, List.any_append, h]; simp [hj]
theorem eg_v : ∀ args w, (callFunc 18 args).run Try.prog w = .ok (.enter 18 args) w := enters_of Try.func18 (by kernel_rfl) rfl
theorem vPred (x : Pl) (bx : Nat) (w : World) (hlt : bx < w.heap.size) (h : PlAt w bx 0 x) : PredBelow Try.prog 18 #[.pointer (some ⟨bx, 0, none⟩)] PlV (fun y => decide (x.meet y)) w := fun W y hb => by
  obtain ⟨x0, x1, x2, x3, x4⟩ := h
  exact (vcl_any x y bx W (below_cell hb hlt x0) (below_cell hb hlt x1) (below_cell hb hlt x2)).mono fun e w' h => ⟨h.1, below_next hb hb.size h.2⟩
set_option maxHeartbeats 2000000 in
theorem pVal24_any (l : List Pl) (v : Value) (w : World) (h : Pls w v l) : Calls Try.prog 7 #[v] w fun e w' => e = .returned (.int .i64 (traE l)) ∧ Below w.heap.size w w' := by
  obtain ⟨a, c, rfl, h1, h2, hr⟩ := h.shapeR
  have HR0 := Lib.hid hr
  have B0 := Lib.hid (Below.refl w.heap.size w)
  clear h hr
  cases g1 : decide ((64 : Int) < (l.length : Int))
  case true =>
    have HV : Hid (traE l = 3) := traE_3 (by have := of_decide_eq_true g1; omega)
    go_enter Try.func7, Try.ntmps7
    go_wp2_with fail
    go_ret
    exact ⟨ret_i HV.out.symm, B0.out⟩
  have G : Hid (¬ 64 < l.length) := fun h => by have := of_decide_eq_false g1; omega
  have hz := of_decide_eq_false g1
  go_enter Try.func7, Try.ntmps7
  go_wp2_with fail
  go_loopw [3, 4, 12] (fun _ _ i wr => ∃ j : Nat, j ≤ l.length ∧ i = .int .i64 j ∧ Hid ((List.range j).any (argB l) = false) ∧ Below w.heap.size w wr) (fun _ _ i _ => l.length - (intOf i).toNat)
  case atStart => exact ⟨0, Nat.zero_le _, rfl, rfl, Below.refl _ _⟩
  case round =>
    obtain ⟨j, hj, rfl, hno, hb⟩ := hrel
    have HB := Lib.hid hb
    have hbs := hb.size
    by_cases hjl : j < l.length
    · obtain ⟨b, q, ea, hbl, x0, x1, x2, x3, x4⟩ := HR0.out.stays hb j hjl
      subst ea
      generalize hx : l.getD j default = x at *
      have HX := Lib.hid hx
      clear hx
      obtain ⟨f, t, v, k, n⟩ := x
      simp only at x0 x1 x2 x3 x4
      have hne2 : ¬ b = wr.heap.size := by omega
      obtain ⟨Wx, hWx⟩ : ∃ W, wr.alloc (.cells #[.int .i64 f, .int .i64 t, .int .i64 v, .int .i64 k, .int .i64 n] 32) = W := ⟨_, rfl⟩
      have BX : Hid (Below wr.heap.size wr Wx) := by rw [← hWx]; exact (Below.refl _ _).alloc (Nat.le_refl _) _
      have z0 : ∀ wk, Since Wx wk → wk.cell? ⟨wr.heap.size, 0, none⟩ = some (.int .i64 f) := fun wk h => h.cell (by rw [← hWx]; simp [go_sem])
      have z1 : ∀ wk, Since Wx wk → wk.cell? ⟨wr.heap.size, 1, none⟩ = some (.int .i64 t) := fun wk h => h.cell (by rw [← hWx]; simp [go_sem])
      have z2 : ∀ wk, Since Wx wk → wk.cell? ⟨wr.heap.size, 2, none⟩ = some (.int .i64 v) := fun wk h => h.cell (by rw [← hWx]; simp [go_sem])
      have z3 : ∀ wk, Since Wx wk → wk.cell? ⟨wr.heap.size, 3, none⟩ = some (.int .i64 k) := fun wk h => h.cell (by rw [← hWx]; simp [go_sem])
      have z4 : ∀ wk, Since Wx wk → wk.cell? ⟨wr.heap.size, 4, none⟩ = some (.int .i64 n) := fun wk h => h.cell (by rw [← hWx]; simp [go_sem])
      have C1 : Hid (∀ W, Calls Try.prog 15 #[.agg #[.int .i64 f, .int .i64 t, .int .i64 v, .int .i64 k, .int .i64 n]] W fun e w' => e = .returned (.bool (okPB ⟨f, t, v, k, n⟩)) ∧ Below W.heap.size W w') := Lib.hid fun W => isPlace_any ⟨f, t, v, k, n⟩ W
      have S0 := Since.refl Wx
      have i0 : (0 : Int) ≤ (j : Int) := by omega
      have i1 : (j : Int) < (l.length : Int) := by omega
      clear hb
      cases hk : okPB ⟨f, t, v, k, n⟩
      · have HV : Hid (traE l = 1) := traE_1 G.out hjl (by unfold argB; rw [HX.out, hk]; rfl)
        rw [hk] at C1
        go_upto_region 6 with fail
        clear hWx
        refine wp_region_held_drew (S := (fun wk => Since Wx wk)) (by kernel_rfl) ?_ (fun hHeld => ?_)
        · first | assumption | exact Since.drew (by assumption) | exact Since.next (by assumption) (by assumption)
        refine tk 0 ?_
        refine rd1 1 (fun K hK => ?_)
        (go_simp; (go_at_call 15; with_reducible refine (C1.out _).mono ?_); rintro e w3 ⟨rfl, hb3⟩; have hs3 := Since.next (show Since Wx _ by assumption) hb3)
        refine hK.out _ _ ?_ (fun hHeld => ?_)
        · first | assumption | exact Since.drew (by assumption) | exact Since.next (by assumption) (by assumption)
        clear hK K
        try go_frame
        refine tk 2 ?_; refine tk 3 ?_; refine sk 4 ?_; refine sk 5 ?_; refine sk 6 ?_; refine sk 7 ?_; refine sk 8 ?_; refine sk 9 ?_
        refine sk 10 ?_; refine sk 11 ?_; refine sk 12 ?_; refine sk 13 ?_; refine sk 14 ?_; refine sk 15 ?_; refine tk 16 ?_
        refine wpAnyH_done (by kernel_rfl) ?_ _
        have HS := Lib.hid (show Since Wx _ by first | exact hs4 | exact hs3)
        go_wp2_with fail
        go_ret
        exact ⟨ret_i HV.out.symm, below_next HB.out (by omega) (below_next BX.out BX.out.size HS.out)⟩
      · rw [hk] at C1
        cases hj0 : decide ((0 : Int) < (j : Int))
        · have HA : Hid ((List.range (j + 1)).any (argB l) = false) := any_range_succ hno.out (by
            have h9 := of_decide_eq_false hj0
            unfold argB; rw [HX.out, hk, show decide (0 < j) = false from decide_eq_false (by omega)]; rfl)
          have hjn : decide (0 < j) = false := decide_eq_false (by have := of_decide_eq_false hj0; omega)
          go_upto_region 6 with fail
          clear hWx
          refine wp_region_held_drew (S := (fun wk => Since Wx wk)) (by kernel_rfl) ?_ (fun hHeld => ?_)
          · first | assumption | exact Since.drew (by assumption) | exact Since.next (by assumption) (by assumption)
          refine tk 0 ?_
          refine rd1 1 (fun K hK => ?_)
          (go_simp; (go_at_call 15; with_reducible refine (C1.out _).mono ?_); rintro e w3 ⟨rfl, hb3⟩; have hs3 := Since.next (show Since Wx _ by assumption) hb3)
          refine hK.out _ _ ?_ (fun hHeld => ?_)
          · first | assumption | exact Since.drew (by assumption) | exact Since.next (by assumption) (by assumption)
          clear hK K
          try go_frame
          refine tk 2 ?_; refine tk 3 ?_; refine tk 4 ?_; refine tk 5 ?_; refine tk 6 ?_; refine sk 7 ?_; refine sk 8 ?_; refine sk 9 ?_
          refine sk 10 ?_; refine sk 11 ?_; refine sk 12 ?_; refine sk 13 ?_; refine sk 14 ?_; refine tk 15 ?_; refine tk 16 ?_
          refine wpAnyH_done (by kernel_rfl) ?_ _
          have HS := Lib.hid (show Since Wx _ by first | exact hs4 | exact hs3)
          go_wp2_with fail
          go_roundw
          case rel => exact ⟨j + 1, by omega, by go_num, HA.out, below_next HB.out (by omega) (below_next BX.out BX.out.size HS.out)⟩
          case measure => simp [intOf]; omega
        · have h9 := of_decide_eq_true hj0
          have hjn : decide (0 < j) = true := decide_eq_true (by omega)
          obtain ⟨m, hm⟩ : ∃ m : Nat, j = m + 1 := ⟨j - 1, by omega⟩
          have hw1 : wrap64 ((j : Int) - 1) = (m : Int) := by rw [hm]; rw [show ((m + 1 : Nat) : Int) - 1 = (m : Int) by omega]; exact IntWalk.wrap64_in _ (by omega)
          have hw2 : IntKind.i64.wrap ((j : Int) - 1) = (m : Int) := by rw [hm]; rw [show ((m + 1 : Nat) : Int) - 1 = (m : Int) by omega]; simp [IntKind.wrap, IntKind.bits, IntKind.signed]; omega
          have m0 : (0 : Int) ≤ (m : Int) := by omega
          have m1 : (m : Int) < (l.length : Int) := by omega
          obtain ⟨b', q', ea, hbl', y0, y1, y2, y3, y4⟩ := HR0.out.stays HB.out m (by omega)
          cases ea
          generalize hy : l.getD m default = y at *
          have HY := Lib.hid hy
          clear hy
          obtain ⟨f', t', v', k', n'⟩ := y
          simp only at y0 y1 y2 y3 y4
          have u0 : ∀ wk, Since Wx wk → wk.cell? ⟨b, q + m * 5, none⟩ = some (.int .i64 f') := fun wk h => h.cell (below_cell BX.out hbl' y0)
          have u1 : ∀ wk, Since Wx wk → wk.cell? ⟨b, q + m * 5 + 1, none⟩ = some (.int .i64 t') := fun wk h => h.cell (below_cell BX.out hbl' y1)
          have u2 : ∀ wk, Since Wx wk → wk.cell? ⟨b, q + m * 5 + 2, none⟩ = some (.int .i64 v') := fun wk h => h.cell (below_cell BX.out hbl' y2)
          have u3 : ∀ wk, Since Wx wk → wk.cell? ⟨b, q + m * 5 + 3, none⟩ = some (.int .i64 k') := fun wk h => h.cell (below_cell BX.out hbl' y3)
          have u4 : ∀ wk, Since Wx wk → wk.cell? ⟨b, q + m * 5 + 4, none⟩ = some (.int .i64 n') := fun wk h => h.cell (below_cell BX.out hbl' y4)
          have C2 : Hid (∀ W, Calls Try.prog 16 #[.agg #[.int .i64 f', .int .i64 t', .int .i64 v', .int .i64 k', .int .i64 n'], .agg #[.int .i64 f, .int .i64 t, .int .i64 v, .int .i64 k, .int .i64 n]] W fun e w' => e = .returned (.int .i64 (cmpP ⟨f', t', v', k', n'⟩ ⟨f, t, v, k, n⟩)) ∧ Below W.heap.size W w') := Lib.hid fun W => compare_any ⟨f', t', v', k', n'⟩ ⟨f, t, v, k, n⟩ W
          have HARG : Hid (argB l j = decide ((0 : Int) ≤ cmpP ⟨f', t', v', k', n'⟩ ⟨f, t, v, k, n⟩)) := by
            show _ = _
            unfold argB
            rw [HX.out, hk, show decide (0 < j) = true from decide_eq_true (by omega), show j - 1 = m by omega, HY.out]
            simp
          have HM := Lib.hid hm
          clear hm y0 y1 y2 y3 y4 h9 hk
          generalize cmpP ⟨f', t', v', k', n'⟩ ⟨f, t, v, k, n⟩ = cc at *
          cases hcc : decide ((0 : Int) ≤ cc)
          · have HA : Hid ((List.range (j + 1)).any (argB l) = false) := any_range_succ hno.out (by rw [HARG.out, hcc])
            go_upto_region 6 with fail
            clear hWx
            refine wp_region_held_drew (S := (fun wk => Since Wx wk)) (by kernel_rfl) ?_ (fun hHeld => ?_)
            · first | assumption | exact Since.drew (by assumption) | exact Since.next (by assumption) (by assumption)
            refine tk 0 ?_
            refine rd1 1 (fun K hK => ?_)
            (go_simp; (go_at_call 15; with_reducible refine (C1.out _).mono ?_); rintro e w3 ⟨rfl, hb3⟩; have hs3 := Since.next (show Since Wx _ by assumption) hb3)
            refine hK.out _ _ ?_ (fun hHeld => ?_)
            · first | assumption | exact Since.drew (by assumption) | exact Since.next (by assumption) (by assumption)
            clear hK K
            try go_frame
            refine tk 2 ?_; refine tk 3 ?_; refine tk 4 ?_; refine tk 5 ?_; refine tk 6 ?_; refine tk 7 ?_; refine tk 8 ?_; refine tk 9 ?_
            refine tk 10 ?_; refine tk 11 ?_; refine tk 12 ?_
            refine rd1 13 (fun K hK => ?_)
            (go_simp; (go_at_call 16; with_reducible refine (C2.out _).mono ?_); rintro e w4 ⟨rfl, hb4⟩; have hs4 := Since.next (show Since Wx _ by assumption) hb4)
            refine hK.out _ _ ?_ (fun hHeld => ?_)
            · first | assumption | exact Since.drew (by assumption) | exact Since.next (by assumption) (by assumption)
            clear hK K
            try go_frame
            refine tk 14 ?_; refine tk 15 ?_; refine tk 16 ?_
            refine wpAnyH_done (by kernel_rfl) ?_ _
            have HS := Lib.hid (show Since Wx _ by first | exact hs4 | exact hs3)
            go_wp2_with fail
            go_roundw
            case rel => exact ⟨j + 1, by omega, by go_num, HA.out, below_next HB.out (by omega) (below_next BX.out BX.out.size HS.out)⟩
            case measure => simp [intOf]; omega
          · have HV : Hid (traE l = 1) := traE_1 G.out hjl (by rw [HARG.out, hcc])
            go_upto_region 6 with fail
            clear hWx
            refine wp_region_held_drew (S := (fun wk => Since Wx wk)) (by kernel_rfl) ?_ (fun hHeld => ?_)
            · first | assumption | exact Since.drew (by assumption) | exact Since.next (by assumption) (by assumption)
            refine tk 0 ?_
            refine rd1 1 (fun K hK => ?_)
            (go_simp; (go_at_call 15; with_reducible refine (C1.out _).mono ?_); rintro e w3 ⟨rfl, hb3⟩; have hs3 := Since.next (show Since Wx _ by assumption) hb3)
            refine hK.out _ _ ?_ (fun hHeld => ?_)
            · first | assumption | exact Since.drew (by assumption) | exact Since.next (by assumption) (by assumption)
            clear hK K
            try go_frame
            refine tk 2 ?_; refine tk 3 ?_; refine tk 4 ?_; refine tk 5 ?_; refine tk 6 ?_; refine tk 7 ?_; refine tk 8 ?_; refine tk 9 ?_
            refine tk 10 ?_; refine tk 11 ?_; refine tk 12 ?_
            refine rd1 13 (fun K hK => ?_)
            (go_simp; (go_at_call 16; with_reducible refine (C2.out _).mono ?_); rintro e w4 ⟨rfl, hb4⟩; have hs4 := Since.next (show Since Wx _ by assumption) hb4)
            refine hK.out _ _ ?_ (fun hHeld => ?_)
            · first | assumption | exact Since.drew (by assumption) | exact Since.next (by assumption) (by assumption)
            clear hK K
            try go_frame
            refine tk 14 ?_; refine tk 15 ?_; refine tk 16 ?_
            refine wpAnyH_done (by kernel_rfl) ?_ _
            have HS := Lib.hid (show Since Wx _ by first | exact hs4 | exact hs3)
            go_wp2_with fail
            go_ret
            exact ⟨ret_i HV.out.symm, below_next HB.out (by omega) (below_next BX.out BX.out.size HS.out)⟩
    · obtain rfl : j = l.length := by omega
      have HNA : Hid ((List.range l.length).any (argB l) = false) := hno
      have HB0 := HB
      obtain ⟨wo, hwo⟩ : ∃ wo : World, wo = wr := ⟨_, rfl⟩
      subst hwo
      clear hb hno hj hjl hbs
      go_wp2_with fail
      go_loopw [5, 6, 37] (fun _ _ i wr => ∃ j : Nat, j ≤ l.length ∧ i = .int .i64 j ∧ Hid ((List.range j).any (ruleB l) = false) ∧ Below w.heap.size w wr) (fun _ _ i _ => l.length - (intOf i).toNat)
      case atStart => exact ⟨0, Nat.zero_le _, rfl, rfl, HB0.out⟩
      case round =>
        obtain ⟨j, hj, rfl, hno, hb⟩ := hrel
        have HB := Lib.hid hb
        have hbs := hb.size
        by_cases hjl : j < l.length
        · obtain ⟨b, q, ea, hbl, x0, x1, x2, x3, x4⟩ := HR0.out.stays hb j hjl
          subst ea
          generalize hx : l.getD j default = x at *
          have HX := Lib.hid hx
          clear hx
          obtain ⟨f, t, v, k, n⟩ := x
          simp only at x0 x1 x2 x3 x4
          have hne2 : ¬ b = wr.heap.size := by omega
          obtain ⟨Wx, hWx⟩ : ∃ W, wr.alloc (.cells #[.int .i64 f, .int .i64 t, .int .i64 v, .int .i64 k, .int .i64 n] 32) = W := ⟨_, rfl⟩
          have BX : Hid (Below wr.heap.size wr Wx) := by rw [← hWx]; exact (Below.refl _ _).alloc (Nat.le_refl _) _
          have z0 : PlAt Wx wr.heap.size 0 ⟨f, t, v, k, n⟩ := by rw [← hWx]; refine ⟨?_, ?_, ?_, ?_, ?_⟩ <;> simp [go_sem]
          have hlx : wr.heap.size < Wx.heap.size := by rw [← hWx]; simp
          have C3 : Hid (Calls Try.prog 17 #[.slice (some ⟨b, q, none⟩) j c, .func (.func 18) #[] #[.pointer (some ⟨wr.heap.size, 0, none⟩)]] Wx fun e w' => e = .returned (.bool ((l.take j).any fun y => decide ((⟨f, t, v, k, n⟩ : Pl).meet y))) ∧ Below Wx.heap.size Wx w') :=
            contP_any l _ 18 _ eg_v j c _ Wx ((HR0.out.stays hb).stays BX.out) (by omega) h2 (vPred ⟨f, t, v, k, n⟩ wr.heap.size Wx hlx z0)
          have HRU : Hid (ruleB l j = (l.take j).any fun y => decide ((⟨f, t, v, k, n⟩ : Pl).meet y)) := by show _ = _; unfold ruleB; rw [HX.out]
          have B3 : Hid (∀ W', Below Wx.heap.size Wx W' → Below w.heap.size w W') := fun W' h1 => below_next HB.out (by omega) (below_next BX.out BX.out.size h1)
          have j0 : (0 : Int) ≤ (j : Int) := by omega
          have j1 : (j : Int) ≤ (l.length : Int) := by omega
          have j2 : (j : Int) ≤ (c : Int) := by omega
          have j3 : j ≤ c := by omega
          have hjn : (j : Int) < (l.length : Int) := by omega
          clear hb z0
          cases hn : (l.take j).any fun y => decide ((⟨f, t, v, k, n⟩ : Pl).meet y)
          · rw [hn] at C3
            have HN : Hid ((List.range (j + 1)).any (ruleB l) = false) := any_range_succ hno.out (by rw [HRU.out, hn])
            clear hn
            go_wp2_with (go_at_call 17; with_reducible refine C3.out.mono ?_; rintro e w4 ⟨rfl, hb4⟩)
            go_roundw
            case rel => exact ⟨j + 1, by omega, by go_num, HN.out, B3.out _ hb4⟩
            case measure => simp [intOf]; omega
          · rw [hn] at C3
            have HV : Hid (traE l = 7) := traE_7 G.out HNA.out hjl (by rw [HRU.out, hn])
            clear hn
            go_wp2_with (go_at_call 17; with_reducible refine C3.out.mono ?_; rintro e w4 ⟨rfl, hb4⟩)
            go_ret
            exact ⟨ret_i HV.out.symm, B3.out _ hb4⟩
        · obtain rfl : j = l.length := by omega
          have HV : Hid (traE l = 0) := traE_0 G.out HNA.out hno.out
          go_wp2_with fail
          go_ret
          exact ⟨ret_i HV.out.symm, HB.out⟩
def fclB (v a : Int) (x : Pl) : Bool := (x.v == v) && (decide (x.f ≤ a) && decide (a ≤ wrap64 (x.t - 1)))
theorem fcl_any (v a : Int) (x : Pl) (bv ba : Nat) (w : World) (x0 : w.cell? ⟨bv, 0, none⟩ = some (.int .i64 v)) (x1 : w.cell? ⟨ba, 0, none⟩ = some (.int .i64 a)) : Calls Try.prog 26 #[PlV x, .pointer (some ⟨bv, 0, none⟩), .pointer (some ⟨ba, 0, none⟩)] w fun e w' => e = .returned (.bool (fclB v a x)) ∧ Below w.heap.size w w' := by
  obtain ⟨f', t', v', k', n'⟩ := x
  unfold PlV fclB
  simp only
  have hl := cell_lt x0
  have hl2 := cell_lt x1
  have hn : ¬ bv = w.heap.size := by omega
  have hn2 : ¬ ba = w.heap.size := by omega
  have HBX : Hid (Below w.heap.size w (w.alloc (.cells #[.int .i64 f', .int .i64 t', .int .i64 v', .int .i64 k', .int .i64 n'] 32))) := (Below.refl _ _).alloc (Nat.le_refl _) _
  have C := Lib.hid (within_any a f' (wrap64 (t' - 1)))
  cases a1 : (v' == v)
  · go_enter Try.func26, Try.ntmps26
    go_wp2_with fail
    go_ret
    exact ⟨rfl, HBX.out⟩
  · generalize hq : (decide (f' ≤ a) && decide (a ≤ wrap64 (t' - 1))) = q at C
    go_enter Try.func26, Try.ntmps26
    clear hq
    go_wp2_with (go_at_call 21; with_reducible refine (C.out _).mono ?_; rintro e w' ⟨rfl, rfl⟩)
    go_ret
    exact ⟨rfl, HBX.out⟩
theorem idx_spec (p q : Pl → Bool) : ∀ (l : List Pl) (i : Nat), (∀ x ∈ l, p x = q x) → (l.find? q = none ∧ Lib.idxByFrom (fun _ y => p y) default l i = -1) ∨ ∃ k, k < l.length ∧ l.find? q = some (l.getD k default) ∧ Lib.idxByFrom (fun _ y => p y) default l i = ((i + k : Nat) : Int)
  | [], i, _ => .inl ⟨rfl, rfl⟩
  | y :: l, i, h => by
    unfold Lib.idxByFrom
    cases hp : p y
    · have hq : q y = false := by rw [← h y (by simp)]; exact hp
      rcases idx_spec p q l (i + 1) (fun x hx => h x (by simp [hx])) with ⟨h1, h2⟩ | ⟨k, h1, h2, h3⟩
      · exact .inl ⟨by simp [hq, h1], by simpa [hp] using h2⟩
      · exact .inr ⟨k + 1, by simpa using h1, by simpa [hq] using h2, by rw [if_neg (by simp), h3]; congr 1; omega⟩
    · have hq : q y = true := by rw [← h y (by simp)]; exact hp
      exact .inr ⟨0, by simp, by simp [hq], by simp [hp]⟩
theorem eg_f : ∀ args w, (callFunc 26 args).run Try.prog w = .ok (.enter 26 args) w := enters_of Try.func26 (by kernel_rfl) rfl
theorem fPred (v a : Int) (bv ba : Nat) (w : World) (h1 : bv < w.heap.size) (h2 : ba < w.heap.size) (x0 : w.cell? ⟨bv, 0, none⟩ = some (.int .i64 v)) (x1 : w.cell? ⟨ba, 0, none⟩ = some (.int .i64 a)) : PredBelow Try.prog 26 #[.pointer (some ⟨bv, 0, none⟩), .pointer (some ⟨ba, 0, none⟩)] PlV (fclB v a) w := fun W y hb =>
  (fcl_any v a y bv ba W (below_cell hb h1 x0) (below_cell hb h2 x1)).mono fun e w' h => ⟨h.1, below_next hb hb.size h.2⟩
theorem fcl_eq {l : List Pl} (h : ∀ x ∈ l, 0 < x.t ∧ x.t ≤ 32768) (v a : Int) : ∀ x ∈ l, fclB v a x = (decide (x.v = v) && (decide (x.f ≤ a) && decide (a ≤ x.t - 1))) := fun x hx => by
  have := h x hx
  unfold fclB
  rw [IntWalk.wrap64_in (x.t - 1) (by omega)]
  rfl
def fndV (l : List Pl) (v a : Int) : Value := match fnd l v a with | some x => .tuple #[PlV x, .bool true] | none => .tuple #[PlV ⟨0, 0, 0, 0, 0⟩, .bool false]
theorem fndV_none {l : List Pl} {v a : Int} (h : fnd l v a = none) : fndV l v a = .tuple #[PlV ⟨0, 0, 0, 0, 0⟩, .bool false] := by unfold fndV; rw [h]
theorem fndV_some {l : List Pl} {v a : Int} {x : Pl} (h : fnd l v a = some x) : fndV l v a = .tuple #[PlV x, .bool true] := by unfold fndV; rw [h]
theorem find_any (l : List Pl) (u : Value) (v a : Int) (w : World) (hu : Pls w u l) (hl : ∀ x ∈ l, 0 < x.t ∧ x.t ≤ 32768) : Calls Try.prog 13 #[u, .int .i64 v, .int .i64 a] w fun e w' => e = .returned (fndV l v a) ∧ Below w.heap.size w w' := by
  obtain ⟨sa, c, rfl, h1, h2, hr⟩ := hu.shapeR
  have HR0 := Lib.hid hr
  clear hu hr
  obtain ⟨W3, hW3⟩ : ∃ W, ((w.alloc (.cells #[.int .i64 v] 3)).alloc (.cells #[.int .i64 a] 3)).alloc (.cells #[.int .i64 0, .int .i64 0, .int .i64 0, .int .i64 0, .int .i64 0] 32) = W := ⟨_, rfl⟩
  have x0 : W3.cell? ⟨w.heap.size, 0, none⟩ = some (.int .i64 v) := by rw [← hW3]; simp [go_sem]
  have x1 : W3.cell? ⟨w.heap.size + 1, 0, none⟩ = some (.int .i64 a) := by rw [← hW3]; simp [go_sem]
  have B3 : Hid (Below w.heap.size w W3) := by rw [← hW3]; exact (((Below.refl _ _).alloc (Nat.le_refl _) _).alloc (by simp) _).alloc (by simp; omega) _
  have hs3 : W3.heap.size = w.heap.size + 3 := by rw [← hW3]; simp
  have C := Lib.hid (idxP_any l (fclB v a) 26 #[.pointer (some ⟨w.heap.size, 0, none⟩), .pointer (some ⟨w.heap.size + 1, 0, none⟩)] eg_f c sa W3 (HR0.out.stays B3.out) h2 (fPred v a w.heap.size (w.heap.size + 1) W3 (by omega) (by omega) x0 x1))
  have HX := Lib.hid (idx_spec (fclB v a) _ l 0 (fcl_eq hl v a))
  have q : ∀ i, i < 5 → W3.cell? ⟨w.heap.size + 1 + 1, i, none⟩ = some (.int .i64 0) ∧ W3.frozen? ⟨w.heap.size + 1 + 1, i, none⟩ = false := fun i hi => by
    rw [← hW3]
    match i, hi with
    | 0, _ => simp [go_sem]
    | 1, _ => simp [go_sem]
    | 2, _ => simp [go_sem]
    | 3, _ => simp [go_sem]
    | 4, _ => simp [go_sem]
  have hlt : w.heap.size + 1 + 1 < W3.heap.size := by omega
  have HQ : Hid (∀ w', Below W3.heap.size W3 w' → ∀ i, i < 5 → w'.cell? ⟨w.heap.size + 1 + 1, i, none⟩ = some (.int .i64 0) ∧ w'.frozen? ⟨w.heap.size + 1 + 1, i, none⟩ = false) := fun w' hb i hi => ⟨below_cell hb hlt (q i hi).1, by rw [← (q i hi).2]; exact Below.frozen (p := ⟨_, i, none⟩) hb hlt⟩
  have HBS : Hid (∀ w' (x0 x1 x2 x3 x4 : Value), Below W3.heap.size W3 w' → Below w.heap.size w (((((w'.setCell ⟨w.heap.size + 1 + 1, 0, none⟩ x0).setCell ⟨w.heap.size + 1 + 1, 1, none⟩ x1).setCell ⟨w.heap.size + 1 + 1, 2, none⟩ x2).setCell ⟨w.heap.size + 1 + 1, 3, none⟩ x3).setCell ⟨w.heap.size + 1 + 1, 4, none⟩ x4)) := fun w' x0 x1 x2 x3 x4 hb =>
    (((((below_next B3.out B3.out.size hb).setCell (show w.heap.size ≤ w.heap.size + 1 + 1 by omega) x0).setCell (show w.heap.size ≤ w.heap.size + 1 + 1 by omega) x1).setCell (show w.heap.size ≤ w.heap.size + 1 + 1 by omega) x2).setCell (show w.heap.size ≤ w.heap.size + 1 + 1 by omega) x3).setCell (show w.heap.size ≤ w.heap.size + 1 + 1 by omega) x4
  clear hs3 x0 x1 q hlt
  unfold Lib.idxBy at C
  rcases HX.out with ⟨g1, g2⟩ | ⟨k, hk, g1, g2⟩
  · have HF := Lib.hid (fndV_none g1)
    rw [g2] at C
    clear HX g1 g2
    go_enter Try.func13, Try.ntmps13
    go_wp2_with (go_at_call 25; with_reducible refine C.out.mono ?_; rintro e w3 ⟨rfl, hb3⟩; obtain ⟨q0, f0⟩ := HQ.out w3 hb3 0 (by omega); obtain ⟨q1, f1⟩ := HQ.out w3 hb3 1 (by omega); obtain ⟨q2, f2⟩ := HQ.out w3 hb3 2 (by omega); obtain ⟨q3, f3⟩ := HQ.out w3 hb3 3 (by omega); obtain ⟨q4, f4⟩ := HQ.out w3 hb3 4 (by omega))
    refine bodyPost_ret (v := .tuple #[PlV ⟨0, 0, 0, 0, 0⟩, .bool false]) (by simp [results, Try.results13, go_sem, PlV, q0, q1, q2, q3, q4]) rfl ⟨?_, ?_⟩
    · rw [HF.out]
    · exact HBS.out w3 _ _ _ _ _ hb3
  · have HF := Lib.hid (fndV_some g1)
    rw [g2] at C
    obtain ⟨b, o, rfl, hbl, hat⟩ := HR0.out k hk
    generalize l.getD k default = x at *
    obtain ⟨xf, xt, xv, xk, xn⟩ := x
    have HRK : Hid (∀ w', Below W3.heap.size W3 w' → w'.cell? ⟨b, o + k * 5, none⟩ = some (.int .i64 xf) ∧ w'.cell? ⟨b, o + k * 5 + 1, none⟩ = some (.int .i64 xt) ∧ w'.cell? ⟨b, o + k * 5 + 2, none⟩ = some (.int .i64 xv) ∧ w'.cell? ⟨b, o + k * 5 + 3, none⟩ = some (.int .i64 xk) ∧ w'.cell? ⟨b, o + k * 5 + 4, none⟩ = some (.int .i64 xn)) := fun w' hb => (hat.stays hbl B3.out).stays (Nat.lt_of_lt_of_le hbl B3.out.size) hb
    unfold PlV at HF
    simp only at HF
    clear hat
    have hke : ((0 + k : Nat) : Int) = (k : Int) := by simp
    rw [hke] at C
    have k0 : decide ((k : Int) < 0) = false := decide_eq_false (by omega)
    have i0 : (0 : Int) ≤ (k : Int) := by omega
    have i1 : (k : Int) < (l.length : Int) := by omega
    clear HX g1 g2 hke
    go_enter Try.func13, Try.ntmps13
    go_wp2_with (go_at_call 25; with_reducible refine C.out.mono ?_; rintro e w3 ⟨rfl, hb3⟩; obtain ⟨q0, f0⟩ := HQ.out w3 hb3 0 (by omega); obtain ⟨q1, f1⟩ := HQ.out w3 hb3 1 (by omega); obtain ⟨q2, f2⟩ := HQ.out w3 hb3 2 (by omega); obtain ⟨q3, f3⟩ := HQ.out w3 hb3 3 (by omega); obtain ⟨q4, f4⟩ := HQ.out w3 hb3 4 (by omega); obtain ⟨y0, y1, y2, y3, y4⟩ := HRK.out w3 hb3)
    refine bodyPost_ret (v := .tuple #[.agg #[.int .i64 xf, .int .i64 xt, .int .i64 xv, .int .i64 xk, .int .i64 xn], .bool true]) (by simp [results, Try.results13, go_sem, PlV, q0, q1, q2, q3, q4]) rfl ⟨?_, ?_⟩
    · rw [HF.out]
    · exact HBS.out w3 _ _ _ _ _ hb3
end Go.Proofs.Ytgcfadnnajahhaa
namespace Go.Proofs
open Go.Shelf Go.RowKit Go.Lib
def Try.contI_ren : Go.Shelf.Ren := ⟨fun | 8 => 22 | 6 => 31 | n => n, fun | 22 => 57 | 23 => 3 | 25 => 60 | 4 => 4 | 3 => 3 | 0 => 0 | n => n, fun | n => n⟩
theorem Try.contI : Go.Proofs.SlLaysH.n8 Try.prog Try.contI_ren := {
  mixed := by kernel_rfl
  f6 := ⟨Try.f31.name, by decide, Try.func31.trans (congrArg some (by kernel_rfl))⟩
  f8 := ⟨Try.f22.name, by decide, Try.func22.trans (congrArg some (by kernel_rfl))⟩
  t0 := Try.underlying0
  a0 := Try.isAgg0
  z0 := Try.sizeOf0
  v0 := Try.zeroValue0
  t3 := Try.underlying3
  a3 := Try.isAgg3
  z3 := Try.sizeOf3
  v3 := Try.zeroValue3
  t4 := Try.underlying4
  a4 := Try.isAgg4
  z4 := Try.sizeOf4
  v4 := Try.zeroValue4
  t22 := Try.underlying57
  a22 := Try.isAgg57
  z22 := Try.sizeOf57
  v22 := Try.zeroValue57
  a23 := Try.isAgg3
  z23 := Try.sizeOf3
  t25 := Try.underlying60
  a25 := Try.isAgg60
  z25 := Try.sizeOf60
  v25 := Try.zeroValue60 }
def Try.sortedI_ren : Go.Shelf.Ren := ⟨fun | 10 => 24 | 18 => 32 | 24 => 33 | n => n, fun | 22 => 57 | 24 => 3 | 4 => 4 | 3 => 3 | 0 => 0 | n => n, fun | n => n⟩
theorem Try.sortedI : Go.Proofs.SlLaysO.n10 Try.prog Try.sortedI_ren := {
  mixed := by kernel_rfl
  f10 := ⟨Try.f24.name, by decide, Try.func24.trans (congrArg some (by kernel_rfl))⟩
  f18 := ⟨Try.f32.name, by decide, Try.func32.trans (congrArg some (by kernel_rfl))⟩
  f24 := ⟨Try.f33.name, by decide, Try.func33.trans (congrArg some (by kernel_rfl))⟩
  t0 := Try.underlying0
  a0 := Try.isAgg0
  z0 := Try.sizeOf0
  v0 := Try.zeroValue0
  t3 := Try.underlying3
  a3 := Try.isAgg3
  z3 := Try.sizeOf3
  v3 := Try.zeroValue3
  t4 := Try.underlying4
  a4 := Try.isAgg4
  z4 := Try.sizeOf4
  v4 := Try.zeroValue4
  t22 := Try.underlying57
  a22 := Try.isAgg57
  z22 := Try.sizeOf57
  v22 := Try.zeroValue57
  t24 := Try.underlying3
  a24 := Try.isAgg3
  z24 := Try.sizeOf3
  v24 := Try.zeroValue3 }
end Go.Proofs
namespace Go.Proofs.Ytgcfadnnajahhaa
open Go.RowKit Go.Maps
set_option linter.unusedVariables false
set_option linter.unusedSimpArgs false
theorem eg_a : ∀ args w, (callFunc 23 args).run Try.prog w = .ok (.enter 23 args) w := enters_of Try.func23 (by kernel_rfl) rfl
theorem acl_any (a : Int) (w : World) : Calls Try.prog 23 #[.int .i64 a] w fun e w' => e = .returned (.bool (!(decide (0 ≤ a) && decide (a ≤ 32768)))) ∧ ∃ q, w' = w.drewN q := by
  have C := Lib.hid (within_any a 0 32768)
  generalize (decide (0 ≤ a) && decide (a ≤ 32768)) = q at C ⊢
  go_enter Try.func23, Try.ntmps23
  go_wp2_with (go_at_call 21; with_reducible refine (C.out _).mono ?_; rintro e w' ⟨rfl, rfl⟩)
  go_ret
  exact ⟨rfl, 0, rfl⟩
theorem aPred (w : World) : PredAt Try.prog 23 #[] (Value.int .i64) (fun a => !(decide (0 ≤ a) && decide (a ≤ 32768))) w := fun W x hb => acl_any x W
theorem contI_any (l : List Int) (u : Value) (w : World) (h : Ints .i64 w u l) (p : Int → Bool) (g : Nat) (eg : ∀ args w, (callFunc g args).run Try.prog w = .ok (.enter g args) w) (hp : PredAt Try.prog g #[] (Value.int .i64) p w) (hno : l.any p = false) :
    Calls Try.prog 22 #[u, .func (.func g) #[] #[]] w fun e w' => e = .returned (.bool false) ∧ Below w.heap.size w w' := by
  obtain ⟨a, c, rfl, h1, h2, h3, h4⟩ := h
  cases l with
  | nil => exact (AnyE.slices_ContainsFunc_empty Try.contI a c _ w).mono fun _ _ h => ⟨h.1, by rw [h.2]; exact Below.refl _ _⟩
  | cons y l =>
    obtain ⟨b, o, rfl, hb, -⟩ := h4 0 (by simp)
    refine (AnyE.slices_ContainsFunc Try.contI (Value.int .i64) p g #[] eg b o (y :: l).length c (y :: l) w hp (Nat.le_refl _) (by have := h2.1; omega) (fun j hj => ?_)).mono fun e w' h => ⟨?_, ?_⟩
    · obtain ⟨b', o', e, -, h5⟩ := h4 j hj
      cases e
      rw [getD_bang _ _ hj]
      simpa using h5
    · rw [h.1, List.take_length, hno]
    · obtain ⟨q, rfl⟩ := h.2
      exact below_drewN (Below.refl _ _) q
theorem sortedI_any (l : List Int) (u : Value) (w : World) (h : Ints .i64 w u l) (hs : Lib.downOK (fun x y => decide (x < y)) l.toArray (l.length - 1) = true) :
    Calls Try.prog 24 #[u] w fun e w' => e = .returned (.bool true) ∧ Below w.heap.size w w' := by
  obtain ⟨a, c, rfl, h1, h2, h3, h4⟩ := h
  cases l with
  | nil => exact (AnyO.slices_IsSorted_int_none Try.sortedI a c w).mono fun _ _ h => ⟨h.1, by rw [h.2]; exact Below.refl _ _⟩
  | cons y l =>
    obtain ⟨b, o, rfl, hb, -⟩ := h4 0 (by simp)
    have := AnyO.slices_IsSorted_int Try.sortedI b o c (y :: l).toArray w (fun j hj => ?_) (by have := h2.1; simp at this ⊢; omega)
    · refine this.mono fun e w' h => ⟨?_, ?_⟩
      · rw [h.1]; simp only [List.size_toArray]; rw [hs]
      · obtain ⟨q, rfl⟩ := h.2
        exact below_drewN (Below.refl _ _) q
    · have hj' : j < (y :: l).length := by simpa using hj
      obtain ⟨b', o', e, -, h5⟩ := h4 j hj'
      cases e
      rw [show (y :: l).toArray[j]! = (y :: l)[j]! by simp, getD_bang _ _ hj']
      simpa using h5
theorem asked_ok (l : List Pl) (v u : Value) (x : Int) (ad : List Int) (w : World) (hv : Pls w v l) (hu : Ints .i64 w u ad) (hl : traE l = 0) (hx : (decide (0 ≤ x) && decide (x ≤ 63)) = true) (ha : (ad.any fun a => !(decide (0 ≤ a) && decide (a ≤ 32768))) = false)
    (hs : Lib.downOK (fun x y => decide (x < y)) ad.toArray (ad.length - 1) = true) : Calls Try.prog 12 #[v, .int .i64 x, u] w fun e w' => e = .returned (.int .i64 0) ∧ Below w.heap.size w w' := by
  have C1 := Lib.hid (pVal24_any l v w hv)
  rw [hl] at C1
  have C2 := Lib.hid (within_any x 0 63)
  rw [hx] at C2
  have C3 := Lib.hid fun W (hb : Below w.heap.size w W) => contI_any ad u W (hu.stays hb) _ 23 eg_a (aPred W) ha
  have C4 := Lib.hid fun W (hb : Below w.heap.size w W) => sortedI_any ad u W (hu.stays hb) hs
  clear hv hu hl hx ha hs
  go_enter Try.func12, Try.ntmps12
  go_wp2_with (first | (go_at_call 7; with_reducible refine C1.out.mono ?_; rintro e w1 ⟨rfl, hb1⟩) | (go_at_call 21; with_reducible refine (C2.out _).mono ?_; rintro e w2 ⟨rfl, rfl⟩) | (go_at_call 22; with_reducible refine (C3.out _ hb1).mono ?_; rintro e w3 ⟨rfl, hb3⟩; have hb4 := below_next hb1 hb1.size hb3) | (go_at_call 24; with_reducible refine (C4.out _ hb4).mono ?_; rintro e w4 ⟨rfl, hb5⟩; have hb6 := below_next hb4 hb4.size hb5))
  go_ret
  exact ⟨rfl, hb6⟩
def Byt (l : List Int) : Prop := ∀ i, 0 ≤ l.getD i 0 ∧ l.getD i 0 < 256
structure Mac where
  r : List Int
  f : Int
  a : Int
  m : List Int
  e : Int
def macC (c : Mac) (mv : Value) : List Value := c.r.map (Value.int .u32) ++ [.int .i64 c.f, .int .u32 c.a, mv, .int .i64 c.e]
def CellsAt (w : World) (b : Nat) (cs : List Value) : Prop := ∀ k v, cs[k]? = some v → w.cell? ⟨b, k, none⟩ = some v ∧ w.frozen? ⟨b, k, none⟩ = false
theorem CellsAt.set {w : World} {b : Nat} {cs : List Value} (h : CellsAt w b cs) {k : Nat} (hk : k < cs.length) (u : Value) : CellsAt (w.setCell ⟨b, k, none⟩ u) b (cs.set k u) := by
  intro j v hj
  have hc := h k _ (List.getElem?_eq_getElem hk)
  by_cases e : k = j
  · subst e
    rw [List.getElem?_set_self hk] at hj
    cases hj
    exact ⟨World.cell?_setCell_same _ _ _ hc.1, by rw [World.frozen?_setCell]; exact hc.2⟩
  · rw [List.getElem?_set_ne e] at hj
    have := h j v hj
    exact ⟨by rw [World.cell?_setCell_other _ _ _ _ (by intro hh; cases hh; exact e rfl)]; exact this.1, by rw [World.frozen?_setCell]; exact this.2⟩
theorem CellsAt.lt {w : World} {b : Nat} {cs : List Value} (h : CellsAt w b cs) (h0 : 0 < cs.length) : b < w.heap.size := cell_lt (h 0 _ (List.getElem?_eq_getElem h0)).1
theorem CellsAt.block {w w' : World} {b : Nat} {cs : List Value} (h : CellsAt w b cs) (hb : w'.heap[b]? = w.heap[b]?) : CellsAt w' b cs := fun k v hk => by
  have := h k v hk
  exact ⟨by rw [← this.1]; exact World.cell?_of_block (w := w) hb, by rw [← this.2]; exact World.frozen?_of_block (w := w) hb⟩
theorem newest (w : World) (cells : Array Value) (t : TypeId) : (w.alloc (.cells cells t)).heap[w.heap.size]? = some (.cells cells t (0, 0)) := by
  show (w.heap.push _)[w.heap.size]? = _
  exact Array.getElem?_push_size
theorem cellsAt_of {w : World} {b : Nat} {cs : List Value} {t : TypeId} (h : w.heap[b]? = some (.cells cs.toArray t (0, 0))) : CellsAt w b cs := by
  intro k v hk
  refine ⟨?_, ?_⟩
  · simp [World.cell?, h, hk]
  · simp [World.frozen?, h]
theorem CellsAt.range {w : World} {b : Nat} {cs : List Value} (h : CellsAt w b cs) : w.rangeAt b 0 cs := fun j v hj => by rw [Nat.zero_add]; exact (h j v hj).1
theorem CellsAt.there {w : World} {b : Nat} {cs ds : List Value} (h : CellsAt w b cs) (hl : ds.length = cs.length) : w.there b 0 ds.toArray.size := fun j hj => by
  have := h j _ (List.getElem?_eq_getElem (by rw [← hl]; simpa using hj))
  rw [Nat.zero_add]
  exact ⟨by rw [this.1]; rfl, this.2⟩
theorem CellsAt.below {w w' : World} {b : Nat} {cs : List Value} (h : CellsAt w b cs) (h0 : 0 < cs.length) (hb : Below w.heap.size w w') : CellsAt w' b cs := h.block (hb.block b (h.lt h0))
theorem box_cells (w : World) (cs : List Value) (t : TypeId) : Below w.heap.size w (w.alloc (.cells cs.toArray t)) ∧ CellsAt (w.alloc (.cells cs.toArray t)) w.heap.size cs :=
  ⟨(Below.refl _ _).alloc (Nat.le_refl _) _, cellsAt_of (t := t) (newest w _ t)⟩
def MemO (base : Nat) (w : World) (mv : Value) (m : List Int) : Prop :=
  (m = [] ∧ mv = .slice none 0 0) ∨ ∃ D cap, mv = .slice (some ⟨D, 0, none⟩) m.length cap ∧ m.length ≤ cap ∧ cap ≤ 9223372036854775807 ∧ base ≤ D ∧ OInts .u8 w D m
theorem MemO.below {base : Nat} {w w' : World} {mv : Value} {m : List Int} (h : MemO base w mv m) (hb : Below w.heap.size w w') : MemO base w' mv m :=
  h.imp id fun ⟨D, cap, e, h1, h2, h5, h6⟩ => ⟨D, cap, e, h1, h2, h5, h6.below hb⟩
theorem OInts.setO {k : IntKind} {w : World} {D b j : Nat} {xs : List Int} (h : OInts k w D xs) (hD : D ≠ b) (u : Value) : OInts k (w.setCell ⟨b, j, none⟩ u) D xs :=
  ⟨by simpa [World.setCell] using h.1, fun i hi => ⟨by rw [World.cell?_setCell_other _ _ _ _ (by intro hh; cases hh; exact hD rfl)]; exact h.cell hi, by rw [World.frozen?_setCell]; exact h.free hi⟩⟩
theorem MemO.set {base b j : Nat} {w : World} {mv : Value} {m : List Int} (h : MemO base w mv m) (hb : b < base) (u : Value) : MemO base (w.setCell ⟨b, j, none⟩ u) mv m :=
  h.imp id fun ⟨D, cap, e, h1, h2, h5, h6⟩ => ⟨D, cap, e, h1, h2, h5, h6.setO (by omega) u⟩
theorem MemO.own {base : Nat} {w : World} {mv : Value} {m : List Int} (h : MemO base w mv m) (k : Nat) (hk : mv.ownBlock = some k) : base ≤ k ∧ k < w.heap.size := by
  rcases h with ⟨_, e⟩ | ⟨D, cap, e, _, _, h5, h6⟩
  · rw [e] at hk; cases hk
  · rw [e] at hk
    have : D = k := by injection hk
    subst this
    exact ⟨h5, h6.1⟩
theorem MemO.low {base base' : Nat} {w : World} {mv : Value} {m : List Int} (h : MemO base w mv m) (hb : base' ≤ base) : MemO base' w mv m :=
  h.imp id fun ⟨D, cap, e, h1, h2, h5, h6⟩ => ⟨D, cap, e, h1, h2, Nat.le_trans hb h5, h6⟩
theorem MemO.ints {base : Nat} {w : World} {mv : Value} {m : List Int} (h : MemO base w mv m) (hl : m.length ≤ 100000) : Ints .u8 w mv m := by
  rcases h with ⟨e, e2⟩ | ⟨D, cap, e, h1, h2, h5, h6⟩
  · rw [e, e2]; exact ⟨none, 0, by simp, by simp, by decide, fun _ => rfl, fun i hi => absurd hi (by simp)⟩
  · rw [e]
    exact ⟨some ⟨D, 0, none⟩, cap, rfl, h1, ⟨by omega, by omega⟩, (fun hh => by cases hh), fun i hi => ⟨D, 0, rfl, h6.1, by simpa using h6.cell hi⟩⟩
theorem RowI.memO {w : World} {base : Nat} {v : Value} {xs : List Int} (h : RowI w base 5 .u8 v xs) : MemO base w v xs := by
  obtain ⟨_, ⟨rfl, h0⟩ | ⟨g, cap, cur, rfl, hb, hg, h1, h2, h3, h4⟩⟩ := h
  · exact Or.inl ⟨List.length_eq_zero_iff.1 h0, rfl⟩
  · refine Or.inr ⟨g, cap, rfl, h1, by unfold maxLen at h2; omega, hb, ?_, fun i hi => ?_⟩
    · rcases Nat.lt_or_ge g w.heap.size with h | h
      · exact h
      · rw [Array.getElem?_eq_none h] at hg; cases hg
    · have e1 : w.cell? ⟨g, i, none⟩ = cur.toList[i]? := by simp [World.cell?, hg]
      have e2 : (cur.toList.take (xs.length * 1))[i]? = cur.toList[i]? := by rw [List.getElem?_take, if_pos (by omega)]
      refine ⟨?_, by simp [World.frozen?, hg]⟩
      rw [e1, ← e2, h4, List.getElem?_map, List.getElem?_eq_getElem hi, List.getD_eq_getElem?_getD, List.getElem?_eq_getElem hi]
      rfl
theorem macC_len {c : Mac} (h : c.r.length = 32) (mv : Value) : (macC c mv).length = 36 := by simp [macC, h]
theorem CellsAt.tail4 {w : World} {b : Nat} {c : Mac} {mv : Value} (h : CellsAt w b (macC c mv)) (hr : c.r.length = 32) (k : Nat) (v : Value) (hv : ([.int .i64 c.f, .int .u32 c.a, mv, .int .i64 c.e] : List Value)[k]? = some v) : w.cell? ⟨b, 32 + k, none⟩ = some v ∧ w.frozen? ⟨b, 32 + k, none⟩ = false := by
  refine h (32 + k) v ?_
  unfold macC
  rw [List.getElem?_append_right (by simp [hr])]
  simp only [List.length_map, hr, Nat.add_sub_cancel_left]
  exact hv
theorem CellsAt.tails {w : World} {b : Nat} {c : Mac} {mv : Value} (h : CellsAt w b (macC c mv)) (hr : c.r.length = 32) :
    (w.cell? ⟨b, 32, none⟩ = some (.int .i64 c.f) ∧ w.frozen? ⟨b, 32, none⟩ = false) ∧ (w.cell? ⟨b, 33, none⟩ = some (.int .u32 c.a) ∧ w.frozen? ⟨b, 33, none⟩ = false) ∧ (w.cell? ⟨b, 34, none⟩ = some mv ∧ w.frozen? ⟨b, 34, none⟩ = false) ∧ (w.cell? ⟨b, 35, none⟩ = some (.int .i64 c.e) ∧ w.frozen? ⟨b, 35, none⟩ = false) :=
  ⟨h.tail4 hr 0 _ rfl, h.tail4 hr 1 _ rfl, h.tail4 hr 2 _ rfl, h.tail4 hr 3 _ rfl⟩
def accW (m : List Int) (n : Nat) : Nat → Int
  | 0 => 0
  | i + 1 => bits BinOp.or IntKind.u32 (accW m n i) (m.getD (n + i) 0 % 4294967296 * 2 ^ (8 * i) % 4294967296)
def valK (c : Mac) : Option (Int × Int) → Value
  | none => .tuple #[.int .u32 0, .bool false, .int .i64 0]
  | some (k, n) => if k = 0 then .tuple #[.int .u32 (c.r.getD n.toNat 0), .bool true, .int .i64 0] else if k = 2 then .tuple #[.int .u32 n, .bool true, .int .i64 0]
    else if (c.m.length : Int) < n + 4 then .tuple #[.int .u32 0, .bool false, .int .i64 4] else .tuple #[.int .u32 (accW c.m n.toNat 4), .bool true, .int .i64 0]
theorem valK_0 (c : Mac) (n : Int) : valK c (some (0, n)) = .tuple #[.int .u32 (c.r.getD n.toNat 0), .bool true, .int .i64 0] := by simp [valK]
theorem valK_2 (c : Mac) (n : Int) : valK c (some (2, n)) = .tuple #[.int .u32 n, .bool true, .int .i64 0] := by simp [valK]
theorem valK_1n (c : Mac) (n : Int) (h : (c.m.length : Int) < n + 4) : valK c (some (1, n)) = .tuple #[.int .u32 0, .bool false, .int .i64 4] := by simp [valK, h]
theorem valK_1y (c : Mac) (n : Int) (h : ¬ (c.m.length : Int) < n + 4) : valK c (some (1, n)) = .tuple #[.int .u32 (accW c.m n.toNat 4), .bool true, .int .i64 0] := by simp [valK, h]
theorem nil_ints (w : World) : Ints .i64 w (.slice none 0 0) [] := ⟨none, 0, by simp, by simp, by decide, fun _ => rfl, fun i hi => absurd hi (by simp)⟩
set_option maxHeartbeats 2000000 in
theorem val_none (l : List Pl) (u mv : Value) (c : Mac) (v : Int) (w : World) (hu : Pls w u l) (hl : traE l = 0) (hv : (decide (0 ≤ v) && decide (v ≤ 63)) = true) (hm : Ints .u8 w mv c.m) (hr : c.r.length = 32) (ha : 0 ≤ c.a ∧ c.a < 4294967296) (hf : fnd l v c.a = none) : Calls Try.prog 4 #[u, .agg (macC c mv).toArray, .int .i64 v] w fun e w' => e = .returned (valK c (fndT l v c.a)) ∧ Below w.heap.size w w' := by
  obtain ⟨hb0, k0⟩ := box_cells w (macC c mv) 27
  obtain ⟨W1, hW1⟩ : ∃ W, w.alloc (.cells (macC c mv).toArray 27) = W := ⟨_, rfl⟩
  rw [hW1] at hb0 k0
  have hbd : ∀ x ∈ l, 0 < x.t ∧ x.t ≤ 32768 := fun x hx => by have := (traE_valid hl).ok x hx; unfold Pl.ok at this; omega
  have CA := Lib.hid (asked_ok l u (.slice none 0 0) v [] W1 (hu.stays hb0) (nil_ints _) hl hv rfl rfl)
  have CF : Hid (∀ W, Below W1.heap.size W1 W → Calls Try.prog 13 #[u, .int .i64 v, .int .i64 c.a] W fun e w' => e = .returned (fndV l v c.a) ∧ Below W1.heap.size W1 w') := fun W hb => (find_any l u v c.a W ((hu.stays hb0).stays hb) hbd).mono fun _ _ h => ⟨h.1, below_next hb hb.size h.2⟩
  have Q0 : Hid (∀ W, Below W1.heap.size W1 W → W.cell? ⟨w.heap.size, 33, none⟩ = some (.int .u32 c.a) ∧ W.cell? ⟨w.heap.size, 34, none⟩ = some mv) := fun W hb => by
    have h := (k0.below (by rw [macC_len hr]; decide) hb).tails hr
    exact ⟨h.2.1.1, h.2.2.1.1⟩
  have HW : Hid (∀ W, Below W1.heap.size W1 W → Below w.heap.size w W) := fun W hb => below_next hb0 hb0.size hb
  have Q34 : Hid (∀ W, Below W1.heap.size W1 W → ∀ o, (W.alloc o).cell? ⟨w.heap.size, 34, none⟩ = some mv) := fun W hb o => (Q0.out _ (hb.alloc hb.size o)).2
  have HN : Hid (∀ W, Below W1.heap.size W1 W → ¬ w.heap.size = W.heap.size) := fun W hb => by
    have h1 := hb.size
    have h2 : W1.heap.size = w.heap.size + 1 := by rw [← hW1]; simp
    omega
  have HK := Lib.hid k0
  have HM : Hid (∀ W, Below W1.heap.size W1 W → Ints .u8 W mv c.m) := fun W hb => (hm.stays hb0).stays hb
  have hwa : wrap64 c.a = c.a := IntWalk.wrap64_in _ (by omega)
  have hwb : IntKind.i64.wrap c.a = c.a := by simp [IntKind.wrap, IntKind.bits, IntKind.signed]; omega
  obtain ⟨ma, mc, rfl, hm1, hm2, -, hat⟩ := hm
  have HM0 := Lib.hid hat
  clear hb0 k0 hbd hl hu hat
  have HE : Hid (∀ W o, Below W1.heap.size W1 W → Below w.heap.size w (W.alloc o)) := fun W o hb => (HW.out W hb).alloc (HW.out W hb).size o
  have HF : Hid (valK c (fndT l v c.a) = .tuple #[.int .u32 0, .bool false, .int .i64 0]) := by show _ = _; unfold fndT; rw [hf]; rfl
  rw [fndV_none hf] at CF
  unfold PlV at CF
  clear hf
  go_enter Try.func4, Try.ntmps4
  go_wp2_with (first | (go_at_call 12; with_reducible refine CA.out.mono ?_; rintro e w1 ⟨rfl, hb1⟩; obtain ⟨q33, q34⟩ := Q0.out w1 hb1) | (go_at_call 13; with_reducible refine (CF.out _ hb1).mono ?_; rintro e w2 ⟨rfl, hb2⟩; obtain ⟨p33, p34⟩ := Q0.out w2 hb2; have hne := HN.out w2 hb2; have p34a := Q34.out w2 hb2 ))
  exact bodyPost_ret (v := .tuple #[.int .u32 0, .bool false, .int .i64 0]) (by simp [results, Try.results4, go_sem]) rfl ⟨congrArg Ending.returned HF.out.symm, HE.out _ _ hb2⟩
set_option maxHeartbeats 2000000 in
theorem val_0 (l : List Pl) (u mv : Value) (c : Mac) (v : Int) (w : World) (hu : Pls w u l) (hl : traE l = 0) (hv : (decide (0 ≤ v) && decide (v ≤ 63)) = true) (hm : Ints .u8 w mv c.m) (hr : c.r.length = 32) (ha : 0 ≤ c.a ∧ c.a < 4294967296) (f t x : Int) (m : Nat) (hf : fnd l v c.a = some ⟨f, t, x, 0, (m : Int)⟩) (hn : m ≤ 31) : Calls Try.prog 4 #[u, .agg (macC c mv).toArray, .int .i64 v] w fun e w' => e = .returned (valK c (fndT l v c.a)) ∧ Below w.heap.size w w' := by
  obtain ⟨hb0, k0⟩ := box_cells w (macC c mv) 27
  obtain ⟨W1, hW1⟩ : ∃ W, w.alloc (.cells (macC c mv).toArray 27) = W := ⟨_, rfl⟩
  rw [hW1] at hb0 k0
  have hbd : ∀ x ∈ l, 0 < x.t ∧ x.t ≤ 32768 := fun x hx => by have := (traE_valid hl).ok x hx; unfold Pl.ok at this; omega
  have CA := Lib.hid (asked_ok l u (.slice none 0 0) v [] W1 (hu.stays hb0) (nil_ints _) hl hv rfl rfl)
  have CF : Hid (∀ W, Below W1.heap.size W1 W → Calls Try.prog 13 #[u, .int .i64 v, .int .i64 c.a] W fun e w' => e = .returned (fndV l v c.a) ∧ Below W1.heap.size W1 w') := fun W hb => (find_any l u v c.a W ((hu.stays hb0).stays hb) hbd).mono fun _ _ h => ⟨h.1, below_next hb hb.size h.2⟩
  have Q0 : Hid (∀ W, Below W1.heap.size W1 W → W.cell? ⟨w.heap.size, 33, none⟩ = some (.int .u32 c.a) ∧ W.cell? ⟨w.heap.size, 34, none⟩ = some mv) := fun W hb => by
    have h := (k0.below (by rw [macC_len hr]; decide) hb).tails hr
    exact ⟨h.2.1.1, h.2.2.1.1⟩
  have HW : Hid (∀ W, Below W1.heap.size W1 W → Below w.heap.size w W) := fun W hb => below_next hb0 hb0.size hb
  have Q34 : Hid (∀ W, Below W1.heap.size W1 W → ∀ o, (W.alloc o).cell? ⟨w.heap.size, 34, none⟩ = some mv) := fun W hb o => (Q0.out _ (hb.alloc hb.size o)).2
  have HN : Hid (∀ W, Below W1.heap.size W1 W → ¬ w.heap.size = W.heap.size) := fun W hb => by
    have h1 := hb.size
    have h2 : W1.heap.size = w.heap.size + 1 := by rw [← hW1]; simp
    omega
  have HK := Lib.hid k0
  have HM : Hid (∀ W, Below W1.heap.size W1 W → Ints .u8 W mv c.m) := fun W hb => (hm.stays hb0).stays hb
  have hwa : wrap64 c.a = c.a := IntWalk.wrap64_in _ (by omega)
  have hwb : IntKind.i64.wrap c.a = c.a := by simp [IntKind.wrap, IntKind.bits, IntKind.signed]; omega
  obtain ⟨ma, mc, rfl, hm1, hm2, -, hat⟩ := hm
  have HM0 := Lib.hid hat
  clear hb0 k0 hbd hl hu hat
  have HE : Hid (∀ W o, Below W1.heap.size W1 W → Below w.heap.size w (W.alloc o)) := fun W o hb => (HW.out W hb).alloc (HW.out W hb).size o
  have HF : Hid (valK c (fndT l v c.a) = .tuple #[.int .u32 (c.r.getD m 0), .bool true, .int .i64 0]) := by show _ = _; unfold fndT; rw [hf]; exact valK_0 c m
  rw [fndV_some hf] at CF
  unfold PlV at CF
  simp only at CF
  clear hf
  have QR : Hid (∀ W, Below W1.heap.size W1 W → W.cell? ⟨w.heap.size, m, none⟩ = some (.int .u32 (c.r.getD m 0))) := fun W hb => by
    have hml : m < c.r.length := by omega
    refine ((HK.out.below (by rw [macC_len hr]; decide) hb) m _ ?_).1
    unfold macC
    rw [List.getElem?_append_left (by simpa using hml), List.getElem?_map, List.getElem?_eq_getElem hml, List.getD_eq_getElem?_getD, List.getElem?_eq_getElem hml]
    rfl
  have QR2 : Hid (∀ W, Below W1.heap.size W1 W → ∀ o, (W.alloc o).cell? ⟨w.heap.size, m, none⟩ = some (.int .u32 (c.r.getD m 0))) := fun W hb o => QR.out _ (hb.alloc hb.size o)
  generalize c.r.getD m 0 = rv at *
  have m0 : (0 : Int) ≤ (m : Int) := by omega
  have m1 : (m : Int) < 32 := by omega
  go_enter Try.func4, Try.ntmps4
  go_wp2_with (first | (go_at_call 12; with_reducible refine CA.out.mono ?_; rintro e w1 ⟨rfl, hb1⟩; obtain ⟨q33, q34⟩ := Q0.out w1 hb1) | (go_at_call 13; with_reducible refine (CF.out _ hb1).mono ?_; rintro e w2 ⟨rfl, hb2⟩; obtain ⟨p33, p34⟩ := Q0.out w2 hb2; have hne := HN.out w2 hb2; have p34a := Q34.out w2 hb2 ; have qr := QR2.out w2 hb2))
  exact bodyPost_ret (v := .tuple #[.int .u32 rv, .bool true, .int .i64 0]) (by simp [results, Try.results4, go_sem]) rfl ⟨congrArg Ending.returned HF.out.symm, HE.out _ _ hb2⟩
set_option maxHeartbeats 2000000 in
theorem val_2 (l : List Pl) (u mv : Value) (c : Mac) (v : Int) (w : World) (hu : Pls w u l) (hl : traE l = 0) (hv : (decide (0 ≤ v) && decide (v ≤ 63)) = true) (hm : Ints .u8 w mv c.m) (hr : c.r.length = 32) (ha : 0 ≤ c.a ∧ c.a < 4294967296) (f t x n : Int) (hf : fnd l v c.a = some ⟨f, t, x, 2, n⟩) (hn : 0 ≤ n ∧ n ≤ 4294967295) : Calls Try.prog 4 #[u, .agg (macC c mv).toArray, .int .i64 v] w fun e w' => e = .returned (valK c (fndT l v c.a)) ∧ Below w.heap.size w w' := by
  obtain ⟨hb0, k0⟩ := box_cells w (macC c mv) 27
  obtain ⟨W1, hW1⟩ : ∃ W, w.alloc (.cells (macC c mv).toArray 27) = W := ⟨_, rfl⟩
  rw [hW1] at hb0 k0
  have hbd : ∀ x ∈ l, 0 < x.t ∧ x.t ≤ 32768 := fun x hx => by have := (traE_valid hl).ok x hx; unfold Pl.ok at this; omega
  have CA := Lib.hid (asked_ok l u (.slice none 0 0) v [] W1 (hu.stays hb0) (nil_ints _) hl hv rfl rfl)
  have CF : Hid (∀ W, Below W1.heap.size W1 W → Calls Try.prog 13 #[u, .int .i64 v, .int .i64 c.a] W fun e w' => e = .returned (fndV l v c.a) ∧ Below W1.heap.size W1 w') := fun W hb => (find_any l u v c.a W ((hu.stays hb0).stays hb) hbd).mono fun _ _ h => ⟨h.1, below_next hb hb.size h.2⟩
  have Q0 : Hid (∀ W, Below W1.heap.size W1 W → W.cell? ⟨w.heap.size, 33, none⟩ = some (.int .u32 c.a) ∧ W.cell? ⟨w.heap.size, 34, none⟩ = some mv) := fun W hb => by
    have h := (k0.below (by rw [macC_len hr]; decide) hb).tails hr
    exact ⟨h.2.1.1, h.2.2.1.1⟩
  have HW : Hid (∀ W, Below W1.heap.size W1 W → Below w.heap.size w W) := fun W hb => below_next hb0 hb0.size hb
  have Q34 : Hid (∀ W, Below W1.heap.size W1 W → ∀ o, (W.alloc o).cell? ⟨w.heap.size, 34, none⟩ = some mv) := fun W hb o => (Q0.out _ (hb.alloc hb.size o)).2
  have HN : Hid (∀ W, Below W1.heap.size W1 W → ¬ w.heap.size = W.heap.size) := fun W hb => by
    have h1 := hb.size
    have h2 : W1.heap.size = w.heap.size + 1 := by rw [← hW1]; simp
    omega
  have HK := Lib.hid k0
  have HM : Hid (∀ W, Below W1.heap.size W1 W → Ints .u8 W mv c.m) := fun W hb => (hm.stays hb0).stays hb
  have hwa : wrap64 c.a = c.a := IntWalk.wrap64_in _ (by omega)
  have hwb : IntKind.i64.wrap c.a = c.a := by simp [IntKind.wrap, IntKind.bits, IntKind.signed]; omega
  obtain ⟨ma, mc, rfl, hm1, hm2, -, hat⟩ := hm
  have HM0 := Lib.hid hat
  clear hb0 k0 hbd hl hu hat
  have HE : Hid (∀ W o, Below W1.heap.size W1 W → Below w.heap.size w (W.alloc o)) := fun W o hb => (HW.out W hb).alloc (HW.out W hb).size o
  have HF : Hid (valK c (fndT l v c.a) = .tuple #[.int .u32 n, .bool true, .int .i64 0]) := by show _ = _; unfold fndT; rw [hf]; exact valK_2 c n
  rw [fndV_some hf] at CF
  unfold PlV at CF
  simp only at CF
  clear hf
  have hwn : IntKind.u32.wrap n = n := by simp [IntKind.wrap, IntKind.bits, IntKind.signed]; omega
  go_enter Try.func4, Try.ntmps4
  go_wp2_with (first | (go_at_call 12; with_reducible refine CA.out.mono ?_; rintro e w1 ⟨rfl, hb1⟩; obtain ⟨q33, q34⟩ := Q0.out w1 hb1) | (go_at_call 13; with_reducible refine (CF.out _ hb1).mono ?_; rintro e w2 ⟨rfl, hb2⟩; obtain ⟨p33, p34⟩ := Q0.out w2 hb2; have hne := HN.out w2 hb2; have p34a := Q34.out w2 hb2 ))
  exact bodyPost_ret (v := .tuple #[.int .u32 n, .bool true, .int .i64 0]) (by simp [results, Try.results4, go_sem]) rfl ⟨congrArg Ending.returned HF.out.symm, HE.out _ _ hb2⟩
set_option maxHeartbeats 2000000 in
theorem val_1n (l : List Pl) (u mv : Value) (c : Mac) (v : Int) (w : World) (hu : Pls w u l) (hl : traE l = 0) (hv : (decide (0 ≤ v) && decide (v ≤ 63)) = true) (hm : Ints .u8 w mv c.m) (hr : c.r.length = 32) (ha : 0 ≤ c.a ∧ c.a < 4294967296) (f t x : Int) (m : Nat) (hf : fnd l v c.a = some ⟨f, t, x, 1, (m : Int)⟩) (hn : m ≤ 32764) (hs : decide ((c.m.length : Int) < (m : Int) + 4) = true) : Calls Try.prog 4 #[u, .agg (macC c mv).toArray, .int .i64 v] w fun e w' => e = .returned (valK c (fndT l v c.a)) ∧ Below w.heap.size w w' := by
  obtain ⟨hb0, k0⟩ := box_cells w (macC c mv) 27
  obtain ⟨W1, hW1⟩ : ∃ W, w.alloc (.cells (macC c mv).toArray 27) = W := ⟨_, rfl⟩
  rw [hW1] at hb0 k0
  have hbd : ∀ x ∈ l, 0 < x.t ∧ x.t ≤ 32768 := fun x hx => by have := (traE_valid hl).ok x hx; unfold Pl.ok at this; omega
  have CA := Lib.hid (asked_ok l u (.slice none 0 0) v [] W1 (hu.stays hb0) (nil_ints _) hl hv rfl rfl)
  have CF : Hid (∀ W, Below W1.heap.size W1 W → Calls Try.prog 13 #[u, .int .i64 v, .int .i64 c.a] W fun e w' => e = .returned (fndV l v c.a) ∧ Below W1.heap.size W1 w') := fun W hb => (find_any l u v c.a W ((hu.stays hb0).stays hb) hbd).mono fun _ _ h => ⟨h.1, below_next hb hb.size h.2⟩
  have Q0 : Hid (∀ W, Below W1.heap.size W1 W → W.cell? ⟨w.heap.size, 33, none⟩ = some (.int .u32 c.a) ∧ W.cell? ⟨w.heap.size, 34, none⟩ = some mv) := fun W hb => by
    have h := (k0.below (by rw [macC_len hr]; decide) hb).tails hr
    exact ⟨h.2.1.1, h.2.2.1.1⟩
  have HW : Hid (∀ W, Below W1.heap.size W1 W → Below w.heap.size w W) := fun W hb => below_next hb0 hb0.size hb
  have Q34 : Hid (∀ W, Below W1.heap.size W1 W → ∀ o, (W.alloc o).cell? ⟨w.heap.size, 34, none⟩ = some mv) := fun W hb o => (Q0.out _ (hb.alloc hb.size o)).2
  have HN : Hid (∀ W, Below W1.heap.size W1 W → ¬ w.heap.size = W.heap.size) := fun W hb => by
    have h1 := hb.size
    have h2 : W1.heap.size = w.heap.size + 1 := by rw [← hW1]; simp
    omega
  have HK := Lib.hid k0
  have HM : Hid (∀ W, Below W1.heap.size W1 W → Ints .u8 W mv c.m) := fun W hb => (hm.stays hb0).stays hb
  have hwa : wrap64 c.a = c.a := IntWalk.wrap64_in _ (by omega)
  have hwb : IntKind.i64.wrap c.a = c.a := by simp [IntKind.wrap, IntKind.bits, IntKind.signed]; omega
  obtain ⟨ma, mc, rfl, hm1, hm2, -, hat⟩ := hm
  have HM0 := Lib.hid hat
  clear hb0 k0 hbd hl hu hat
  have HE : Hid (∀ W o, Below W1.heap.size W1 W → Below w.heap.size w (W.alloc o)) := fun W o hb => (HW.out W hb).alloc (HW.out W hb).size o
  have HF : Hid (valK c (fndT l v c.a) = .tuple #[.int .u32 0, .bool false, .int .i64 4]) := by show _ = _; unfold fndT; rw [hf]; exact valK_1n c m (of_decide_eq_true hs)
  rw [fndV_some hf] at CF
  unfold PlV at CF
  simp only at CF
  clear hf
  have hw4 : wrap64 ((m : Int) + 4) = (m : Int) + 4 := IntWalk.wrap64_in _ (by omega)
  have hw5 : IntKind.i64.wrap ((m : Int) + 4) = (m : Int) + 4 := by simp [IntKind.wrap, IntKind.bits, IntKind.signed]; omega
  go_enter Try.func4, Try.ntmps4
  go_wp2_with (first | (go_at_call 12; with_reducible refine CA.out.mono ?_; rintro e w1 ⟨rfl, hb1⟩; obtain ⟨q33, q34⟩ := Q0.out w1 hb1) | (go_at_call 13; with_reducible refine (CF.out _ hb1).mono ?_; rintro e w2 ⟨rfl, hb2⟩; obtain ⟨p33, p34⟩ := Q0.out w2 hb2; have hne := HN.out w2 hb2; have p34a := Q34.out w2 hb2 ))
  exact bodyPost_ret (v := .tuple #[.int .u32 0, .bool false, .int .i64 4]) (by simp [results, Try.results4, go_sem]) rfl ⟨congrArg Ending.returned HF.out.symm, HE.out _ _ hb2⟩
set_option maxHeartbeats 2000000 in
theorem val_1y (l : List Pl) (u mv : Value) (c : Mac) (v : Int) (w : World) (hu : Pls w u l) (hl : traE l = 0) (hv : (decide (0 ≤ v) && decide (v ≤ 63)) = true) (hm : Ints .u8 w mv c.m) (hr : c.r.length = 32) (ha : 0 ≤ c.a ∧ c.a < 4294967296) (f t x : Int) (m : Nat) (hf : fnd l v c.a = some ⟨f, t, x, 1, (m : Int)⟩) (hn : m ≤ 32764) (hs : decide ((c.m.length : Int) < (m : Int) + 4) = false) : Calls Try.prog 4 #[u, .agg (macC c mv).toArray, .int .i64 v] w fun e w' => e = .returned (valK c (fndT l v c.a)) ∧ Below w.heap.size w w' := by
  obtain ⟨hb0, k0⟩ := box_cells w (macC c mv) 27
  obtain ⟨W1, hW1⟩ : ∃ W, w.alloc (.cells (macC c mv).toArray 27) = W := ⟨_, rfl⟩
  rw [hW1] at hb0 k0
  have hbd : ∀ x ∈ l, 0 < x.t ∧ x.t ≤ 32768 := fun x hx => by have := (traE_valid hl).ok x hx; unfold Pl.ok at this; omega
  have CA := Lib.hid (asked_ok l u (.slice none 0 0) v [] W1 (hu.stays hb0) (nil_ints _) hl hv rfl rfl)
  have CF : Hid (∀ W, Below W1.heap.size W1 W → Calls Try.prog 13 #[u, .int .i64 v, .int .i64 c.a] W fun e w' => e = .returned (fndV l v c.a) ∧ Below W1.heap.size W1 w') := fun W hb => (find_any l u v c.a W ((hu.stays hb0).stays hb) hbd).mono fun _ _ h => ⟨h.1, below_next hb hb.size h.2⟩
  have Q0 : Hid (∀ W, Below W1.heap.size W1 W → W.cell? ⟨w.heap.size, 33, none⟩ = some (.int .u32 c.a) ∧ W.cell? ⟨w.heap.size, 34, none⟩ = some mv) := fun W hb => by
    have h := (k0.below (by rw [macC_len hr]; decide) hb).tails hr
    exact ⟨h.2.1.1, h.2.2.1.1⟩
  have HW : Hid (∀ W, Below W1.heap.size W1 W → Below w.heap.size w W) := fun W hb => below_next hb0 hb0.size hb
  have Q34 : Hid (∀ W, Below W1.heap.size W1 W → ∀ o, (W.alloc o).cell? ⟨w.heap.size, 34, none⟩ = some mv) := fun W hb o => (Q0.out _ (hb.alloc hb.size o)).2
  have HN : Hid (∀ W, Below W1.heap.size W1 W → ¬ w.heap.size = W.heap.size) := fun W hb => by
    have h1 := hb.size
    have h2 : W1.heap.size = w.heap.size + 1 := by rw [← hW1]; simp
    omega
  have HK := Lib.hid k0
  have HM : Hid (∀ W, Below W1.heap.size W1 W → Ints .u8 W mv c.m) := fun W hb => (hm.stays hb0).stays hb
  have hwa : wrap64 c.a = c.a := IntWalk.wrap64_in _ (by omega)
  have hwb : IntKind.i64.wrap c.a = c.a := by simp [IntKind.wrap, IntKind.bits, IntKind.signed]; omega
  obtain ⟨ma, mc, rfl, hm1, hm2, -, hat⟩ := hm
  have HM0 := Lib.hid hat
  clear hb0 k0 hbd hl hu hat
  have HE : Hid (∀ W o, Below W1.heap.size W1 W → Below w.heap.size w (W.alloc o)) := fun W o hb => (HW.out W hb).alloc (HW.out W hb).size o
  have HF : Hid (valK c (fndT l v c.a) = .tuple #[.int .u32 (accW c.m m 4), .bool true, .int .i64 0]) := by show _ = _; unfold fndT; rw [hf]; exact valK_1y c m (of_decide_eq_false hs)
  rw [fndV_some hf] at CF
  unfold PlV at CF
  simp only at CF
  clear hf
  have hw4 : wrap64 ((m : Int) + 4) = (m : Int) + 4 := IntWalk.wrap64_in _ (by omega)
  have hw5 : IntKind.i64.wrap ((m : Int) + 4) = (m : Int) + 4 := by simp [IntKind.wrap, IntKind.bits, IntKind.signed]; omega
  have h9 := of_decide_eq_false hs
  obtain ⟨D, q, rfl, hD, -⟩ := HM0.out m (by omega)
  have HBY : Hid (∀ W o, Below W1.heap.size W1 W → ∀ j, j < 4 → (W.alloc o).cell? ⟨D, q + m + j, none⟩ = some (.int .u8 (c.m.getD (m + j) 0))) := fun W o hb j hj => by
    obtain ⟨a, c2, e, -, -, -, h⟩ := HM.out _ (hb.alloc hb.size o)
    obtain ⟨D', q', e', -, h⟩ := h (m + j) (by omega)
    cases e
    cases e'
    simpa [Nat.add_assoc] using h
  have s0 : (0 : Int) ≤ (m : Int) := by omega
  have s1 : (m : Int) ≤ (m : Int) + 4 := by omega
  have s2 : (m : Int) + 4 ≤ (mc : Int) := by omega
  go_enter Try.func4, Try.ntmps4
  go_wp2_with (first | (go_at_call 12; with_reducible refine CA.out.mono ?_; rintro e w1 ⟨rfl, hb1⟩; obtain ⟨q33, q34⟩ := Q0.out w1 hb1) | (go_at_call 13; with_reducible refine (CF.out _ hb1).mono ?_; rintro e w2 ⟨rfl, hb2⟩; obtain ⟨p33, p34⟩ := Q0.out w2 hb2; have hne := HN.out w2 hb2; have p34a := Q34.out w2 hb2 ))
  generalize hW4 : w2.alloc (.cells #[.int .i64 f, .int .i64 t, .int .i64 x, .int .i64 1, .int .i64 (m : Int)] 32) = W4 at *
  have HB4 : Hid (Below w.heap.size w W4) := by rw [← hW4]; exact HE.out _ _ hb2
  have HC : Hid (∀ j, j < 4 → W4.cell? ⟨D, q + m + j, none⟩ = some (.int .u8 (c.m.getD (m + j) 0))) := fun j hj => by
    rw [← hW4]; exact HBY.out _ _ hb2 j hj
  clear hW4 p33 p34 p34a q33 q34 hne
  go_loopw [12, 13, 14, 66] (fun n _ _ i wr => ∃ j : Nat, j ≤ 4 ∧ i = .int .i64 j ∧ n = .int .u32 (accW c.m m j) ∧ wr = W4) (fun _ _ _ i _ => 4 - (intOf i).toNat)
  case atStart => exact ⟨0, by omega, rfl, rfl, rfl⟩
  case round =>
    obtain ⟨j, hj, rfl, rfl, rfl⟩ := hrel
    by_cases hjl : j < 4
    · have x0 := HC.out j hjl
      have i0 : (0 : Int) ≤ (j : Int) := by omega
      have i1 : (j : Int) < 4 := by omega
      have HS : Hid (accW c.m m (j + 1) = bits BinOp.or IntKind.u32 (accW c.m m j) (c.m.getD (m + j) 0 % 4294967296 * 2 ^ (8 * j) % 4294967296)) := rfl
      generalize c.m.getD (m + j) 0 = y at *
      generalize accW c.m m j = n at *
      go_wp2_with fail
      go_roundw
      case rel => exact ⟨j + 1, by omega, by go_num, congrArg _ HS.out.symm, trivial⟩
      case measure => simp [intOf]; omega
    · obtain rfl : j = 4 := by omega
      clear HC
      generalize accW c.m m 4 = n at *
      go_wp2_with fail
      exact bodyPost_ret (v := .tuple #[.int .u32 n, .bool true, .int .i64 0]) (by simp [results, Try.results4, go_sem]) rfl ⟨congrArg Ending.returned HF.out.symm, HB4.out⟩
theorem val_any (l : List Pl) (u mv : Value) (c : Mac) (v : Int) (w : World) (hu : Pls w u l) (hl : traE l = 0) (hv : (decide (0 ≤ v) && decide (v ≤ 63)) = true) (hm : Ints .u8 w mv c.m) (hr : c.r.length = 32) (ha : 0 ≤ c.a ∧ c.a < 4294967296) : Calls Try.prog 4 #[u, .agg (macC c mv).toArray, .int .i64 v] w fun e w' => e = .returned (valK c (fndT l v c.a)) ∧ Below w.heap.size w w' := by
  cases hf : fnd l v c.a with
  | none => exact val_none l u mv c v w hu hl hv hm hr ha hf
  | some x =>
    have ho : x.ok := (traE_valid hl).ok x (List.mem_of_find?_eq_some hf)
    obtain ⟨f, t, y, k, n⟩ := x
    unfold Pl.ok limP at ho
    simp only at ho
    obtain ⟨m, rfl⟩ : ∃ m : Nat, n = m := ⟨n.toNat, by omega⟩
    by_cases h0 : k = 0
    · subst h0
      exact val_0 l u mv c v w hu hl hv hm hr ha f t y m hf (by rw [if_pos rfl] at ho; omega)
    by_cases h2 : k = 2
    · subst h2
      exact val_2 l u mv c v w hu hl hv hm hr ha f t y m hf (by rw [if_neg (by decide), if_neg (by decide)] at ho; omega)
    obtain rfl : k = 1 := by omega
    have hn : m ≤ 32764 := by rw [if_neg (by decide), if_pos rfl] at ho; omega
    cases hs : decide ((c.m.length : Int) < (m : Int) + 4)
    · exact val_1y l u mv c v w hu hl hv hm hr ha f t y m hf hn hs
    · exact val_1n l u mv c v w hu hl hv hm hr ha f t y m hf hn hs
end Go.Proofs.Ytgcfadnnajahhaa
namespace Go.Proofs
open Go.Shelf Go.RowKit Go.Lib Go.Sort
def Try.sortPl_ren : Go.Shelf.Ren := ⟨fun | 6 => 20 | 15 => 30 | 14 => 29 | 28 => 42 | 29 => 43 | 20 => 34 | 21 => 35 | 22 => 36 | 23 => 37 | 24 => 38 | 25 => 39 | 26 => 40 | 27 => 41 | 46 => 44 | 47 => 45 | 48 => 46 | 49 => 47 | 50 => 48 | 57 => 49 | n => n, fun | 22 => 22 | 24 => 32 | 25 => 49 | 3 => 3 | 39 => 41 | 0 => 0 | 53 => 23 | 55 => 78 | 4 => 4 | 46 => 71 | 45 => 70 | 50 => 55 | 5 => 5 | 9 => 9 | 66 => 79 | 70 => 83 | 76 => 85 | 77 => 86 | n => n, fun | n => n⟩
theorem Try.sortPl : Go.Proofs.SlLaysF0.n6 Try.prog Try.sortPl_ren := {
  mixed := by kernel_rfl
  f6 := ⟨Try.f20.name, by decide, Try.func20.trans (congrArg some (by kernel_rfl))⟩
  f14 := ⟨Try.f29.name, by decide, Try.func29.trans (congrArg some (by kernel_rfl))⟩
  f15 := Try.func30.trans (congrArg some (by kernel_rfl))
  f20 := ⟨Try.f34.name, by decide, Try.func34.trans (congrArg some (by kernel_rfl))⟩
  f21 := ⟨Try.f35.name, by decide, Try.func35.trans (congrArg some (by kernel_rfl))⟩
  f22 := ⟨Try.f36.name, by decide, Try.func36.trans (congrArg some (by kernel_rfl))⟩
  f23 := ⟨Try.f37.name, by decide, Try.func37.trans (congrArg some (by kernel_rfl))⟩
  f24 := ⟨Try.f38.name, by decide, Try.func38.trans (congrArg some (by kernel_rfl))⟩
  f25 := ⟨Try.f39.name, by decide, Try.func39.trans (congrArg some (by kernel_rfl))⟩
  f26 := ⟨Try.f40.name, by decide, Try.func40.trans (congrArg some (by kernel_rfl))⟩
  f27 := ⟨Try.f41.name, by decide, Try.func41.trans (congrArg some (by kernel_rfl))⟩
  f28 := Try.func42.trans (congrArg some (by kernel_rfl))
  f29 := Try.func43.trans (congrArg some (by kernel_rfl))
  f46 := ⟨Try.f44.name, by decide, Try.func44.trans (congrArg some (by kernel_rfl))⟩
  f47 := Try.func45.trans (congrArg some (by kernel_rfl))
  f48 := Try.func46.trans (congrArg some (by kernel_rfl))
  f49 := ⟨Try.f47.name, by decide, Try.func47.trans (congrArg some (by kernel_rfl))⟩
  f50 := ⟨Try.f48.name, by decide, Try.func48.trans (congrArg some (by kernel_rfl))⟩
  f57 := ⟨Try.f49.name, by decide, Try.func49.trans (congrArg some (by kernel_rfl))⟩
  t0 := Try.underlying0
  a0 := Try.isAgg0
  z0 := Try.sizeOf0
  v0 := Try.zeroValue0
  t3 := Try.underlying3
  a3 := Try.isAgg3
  z3 := Try.sizeOf3
  v3 := Try.zeroValue3
  t4 := Try.underlying4
  a4 := Try.isAgg4
  z4 := Try.sizeOf4
  v4 := Try.zeroValue4
  t5 := Try.underlying5
  a5 := Try.isAgg5
  z5 := Try.sizeOf5
  v5 := Try.zeroValue5
  t9 := Try.underlying9
  a9 := Try.isAgg9
  z9 := Try.sizeOf9
  v9 := Try.zeroValue9
  t22 := Try.underlying22
  a22 := Try.isAgg22
  z22 := Try.sizeOf22
  v22 := Try.zeroValue22
  t25 := Try.underlying49
  a25 := Try.isAgg49
  z25 := Try.sizeOf49
  v25 := Try.zeroValue49
  t39 := Try.underlying41
  a39 := Try.isAgg41
  z39 := Try.sizeOf41
  v39 := Try.zeroValue41
  t45 := Try.underlying70
  a45 := Try.isAgg70
  z45 := Try.sizeOf70
  v45 := Try.zeroValue70
  t46 := Try.underlying71
  a46 := Try.isAgg71
  z46 := Try.sizeOf71
  v46 := Try.zeroValue71
  t50 := Try.underlying55
  a50 := Try.isAgg55
  z50 := Try.sizeOf55
  v50 := Try.zeroValue55
  t53 := Try.underlying23
  a53 := Try.isAgg23
  z53 := Try.sizeOf23
  v53 := Try.zeroValue23
  t55 := Try.underlying78
  a55 := Try.isAgg78
  z55 := Try.sizeOf78
  v55 := Try.zeroValue78
  t66 := Try.underlying79
  a66 := Try.isAgg79
  z66 := Try.sizeOf79
  v66 := Try.zeroValue79
  t70 := Try.underlying83
  a70 := Try.isAgg83
  z70 := Try.sizeOf83
  v70 := Try.zeroValue83
  t76 := Try.underlying85
  a76 := Try.isAgg85
  z76 := Try.sizeOf85
  v76 := Try.zeroValue85
  t77 := Try.underlying86
  a77 := Try.isAgg86
  z77 := Try.sizeOf86
  v77 := Try.zeroValue86 }
end Go.Proofs
namespace Go.Proofs.Ytgcfadnnajahhaa
open Go.RowKit Go.Maps
open Go.Sort hiding Below
set_option linter.unusedVariables false
set_option linter.unusedSimpArgs false
instance (x y : Pl) : Decidable (x.lt y) := by unfold Pl.lt; infer_instance
theorem ltOf_cmpP (x y : Pl) : ltOf cmpP x y = decide (x.lt y) := by
  unfold ltOf
  by_cases h : x.lt y
  · rw [decide_eq_true h, decide_eq_true ((cmpP_lt x y).2 h)]
  · rw [decide_eq_false h, decide_eq_false (fun e => h ((cmpP_lt x y).1 e))]
theorem swoP : Go.Sort.SWO (ltOf cmpP) where
  irrefl x := by rw [ltOf_cmpP]; exact decide_eq_false (Pl.lt_irrefl x)
  trans x y z h1 h2 := by
    rw [ltOf_cmpP] at *
    exact decide_eq_true (Pl.lt_trans (of_decide_eq_true h1) (of_decide_eq_true h2))
  ntrans x y z h1 h2 := by
    rw [ltOf_cmpP] at *
    have h1 := of_decide_eq_false h1
    have h2 := of_decide_eq_false h2
    refine decide_eq_false fun h => ?_
    rcases Pl.lt_tri x y with h3 | h3 | h3
    · exact h1 h3
    · subst h3; exact h2 h
    · exact h2 (Pl.lt_trans h3 h)
theorem eg_c : ∀ args w, (callFunc 16 args).run Try.prog w = .ok (.enter 16 args) w := enters_of Try.func16 (by kernel_rfl) rfl
theorem cmpLaysP (blk off size : Nat) (w : World) : CmpLays Try.prog 16 #[] plL 5 cmpP blk off size w := fun m os dk _ x y => compare_gr x y _
theorem row_holds {w : World} {g : Nat} {cur : Array Value} {t : TypeId} {l : List Pl} (hg : w.heap[g]? = some (.cells cur t (0, 0))) (h4 : cur.toList.take (l.length * 5) = l.flatMap plL) : HoldsK plL 5 w g 0 l.toArray := by
  intro j hj
  have hj' : j < l.length * 5 := by simpa using hj
  have hm := Nat.div_add_mod j 5
  have hlt : j % 5 < 5 := Nat.mod_lt _ (by decide)
  have hi : j / 5 < l.length := by omega
  refine ⟨?_, by simp [World.frozen?, hg]⟩
  rw [get_flatK plL 5 _ j (by simpa using hj')]
  have e1 : w.cell? ⟨g, 0 + j, none⟩ = cur.toList[j]? := by simp [World.cell?, hg]
  have e2 : (cur.toList.take (l.length * 5))[j]? = cur.toList[j]? := by rw [List.getElem?_take, if_pos hj']
  have e3 := flat_get (C := plL) (z := 5) (fun _ => rfl) l (j / 5) (j % 5) hi hlt
  rw [show j / 5 * 5 + j % 5 = j by omega] at e3
  rw [e1, ← e2, h4, e3, show l.toArray[j / 5]! = l[j / 5]! by simp, getD_bang l _ hi]
  have hl : j % 5 < (plL (l.getD (j / 5) default)).length := hlt
  rw [List.getElem?_eq_getElem hl]
  exact congrArg some (getElem!_pos (plL (l.getD (j / 5) default)) (j % 5) hl).symm
theorem holds_pls {w : World} {g cap : Nat} {l : List Pl} (hl : l.length ≤ cap) (hc : cap ≤ 9223372036854775807) (hl2 : l.length ≤ 100000) (hlt : g < w.heap.size) (h : HoldsK plL 5 w g 0 l.toArray) : Pls w (.slice (some ⟨g, 0, none⟩) l.length cap) l := by
  refine ⟨some ⟨g, 0, none⟩, cap, rfl, hl, ⟨by omega, hc⟩, (fun hh => by cases hh), fun i hi => ⟨g, 0, rfl, hlt, ?_⟩⟩
  have e : l.toArray[i]! = l.getD i default := by rw [← getD_bang l i hi]; simp
  have hc : ∀ c, c < 5 → w.cell? ⟨g, 0 + i * 5 + c, none⟩ = some (plL (l.getD i default))[c]! := fun c hc => by
    rw [← e]; exact (h.cell (i := i) (c := c) (by simpa using hi) hc).1
  exact ⟨hc 0 (by decide), hc 1 (by decide), hc 2 (by decide), hc 3 (by decide), hc 4 (by decide)⟩
theorem sortP_any (l : List Pl) (v : Value) (base : Nat) (w : World) (h : RowG plL w base 32 5 v l) (hb : base ≤ w.heap.size) (hl : l.length ≤ 100000) :
    Calls Try.prog 20 #[v, .func (.func 16) #[] #[]] w fun e w' => e = .returned (.tuple #[]) ∧ ∃ s, Pls w' v s ∧ s.Perm l ∧ (s.Pairwise fun a b => ¬ b.lt a) ∧ Below base w w' := by
  obtain ⟨_, ⟨rfl, h0⟩ | ⟨g, cap, cur, rfl, hb', hg, h1, h2, h3, h4⟩⟩ := h
  · obtain rfl := List.length_eq_zero_iff.1 h0
    exact (AnyF.slices_SortFunc_none { Try.sortPl with } none 0 _ w).mono fun e w' h => ⟨h.1, [], Pls.nil _, List.Perm.refl _, List.Pairwise.nil, by rw [h.2]; exact Below.refl _ _⟩
  · have hlt : g < w.heap.size := by
      rcases Nat.lt_or_ge g w.heap.size with h | h
      · exact h
      · rw [Array.getElem?_eq_none h] at hg; cases hg
    have hH := row_holds hg h4
    refine (AnyQ.slices_SortFunc Try.sortPl 5 Try.isAgg32 Try.sizeOf32 plL (fun _ => rfl) (fun x v hv => ?_) cmpP swoP 16 #[] g 0 cap l.toArray w eg_c (cmpLaysP _ _ _ _) hH hlt (by simp; omega)).mono ?_
    · simp [plL] at hv
      rcases hv with rfl | rfl | rfl | rfl | rfl <;> rfl
    · rintro e w' ⟨rfl, d', n, os, hp, hs, rfl⟩
      have hsz : d'.size = l.length := by simpa using hp.1
      have hdl : d'.toList.length = l.length := by simpa using hsz
      have hK := holdsK_sortWorldK_c plL 5 w g 0 l.toArray d' n os hH hlt (by simpa using hsz)
      have hsw : (sortWorldK plL 5 w g 0 n d' os).heap.size = w.heap.size + os.size := by
        unfold sortWorldK
        rw [Go.Sort.size_grow, size_putRowK]
        rfl
      refine ⟨rfl, d'.toList, ?_, ?_, ?_, ?_⟩
      · have := holds_pls (l := d'.toList) (cap := cap) (w := sortWorldK plL 5 w g 0 n d' os) (g := g) (by omega) (by unfold maxLen at h2; omega) (by omega) (by omega) (by simpa using hK)
        rw [hdl] at this
        simpa using this
      · have := hp.2.2
        simp at this
        rwa [← hdl, List.take_length] at this
      · rw [List.pairwise_iff_getElem]
        intro i j hi hj hij
        have := hs i j (Nat.zero_le _) hij (by simp at hj ⊢; omega)
        rw [ltOf_cmpP] at this
        have := of_decide_eq_false this
        rw [getElem!_pos d' j (by simpa using hj), getElem!_pos d' i (by simpa using hi)] at this
        simpa using this
      · refine ⟨rfl, rfl, rfl, by omega, fun k hk => ?_⟩
        unfold sortWorldK
        rw [Go.Sort.heap_grow_old _ os (by rw [size_putRowK]; show k < w.heap.size; omega)]
        show ((w.heap.modify g _))[k]? = _
        rw [Array.getElem?_modify, if_neg (by omega)]
end Go.Proofs.Ytgcfadnnajahhaa
namespace Go.Proofs.Ytgcfadnnajahhaa
open Go.RowKit Go.Maps
set_option linter.unusedVariables false
set_option linter.unusedSimpArgs false
theorem flat_set (t : Int) : ∀ (xs : List Pl) (k : Nat), k < xs.length → (xs.flatMap plL).set (k * 5 + 1) (.int .i64 t) = (xs.set k { xs.getD k default with t := t }).flatMap plL
  | [], k, h => absurd h (Nat.not_lt_zero _)
  | x :: r, 0, h => by simp [plL]
  | x :: r, k + 1, h => by
    have ih := flat_set t r k (by simpa using h)
    rw [List.flatMap_cons, List.set_append_right _ _ (by simp [plL]; omega), List.set_cons_succ, List.flatMap_cons]
    have e : (k + 1) * 5 + 1 - (plL x).length = k * 5 + 1 := by simp [plL]; omega
    rw [e, ih]
    simp
theorem RowG.setT {w : World} {base : Nat} {g n cap : Nat} {xs : List Pl} (h : RowG plL w base 32 5 (.slice (some ⟨g, 0, none⟩) n cap) xs) {k : Nat} (hk : k < xs.length) (t : Int) (hn : n = xs.length) : RowG plL (w.setCell ⟨g, k * 5 + 1, none⟩ (.int .i64 t)) base 32 5 (.slice (some ⟨g, 0, none⟩) n cap) (xs.set k { xs.getD k default with t := t }) := by
  subst hn
  have hl : (xs.flatMap plL).length = xs.length * 5 := h.1
  have := ownsRow_cell h (k := k * 5 + 1) (by omega) (.int .i64 t)
  rw [flat_set t xs k hk] at this
  unfold RowG
  rw [List.length_set]
  exact this
theorem info_pl : (Try.prog.info? 32).map (fun i => (i.zero, i.size, i.bytes)) = some (some (.agg #[.int .i64 0, .int .i64 0, .int .i64 0, .int .i64 0, .int .i64 0]), 5, 40) := by kernel_rfl
theorem RowG.shape5 {α : Type} {C : α → List Value} {w : World} {base : Nat} {e : TypeId} {z : Nat} {v : Value} {xs : List α} (h : RowG C w base e z v xs) : ∃ a c, v = .slice a xs.length c := by
  obtain ⟨_, ⟨e, h1⟩ | ⟨g, cap, cur, e, _⟩⟩ := h
  · exact ⟨none, 0, by rw [e, h1]⟩
  · exact ⟨_, _, e⟩
theorem MapIs.atBlock {P : Program} {K : TypeId} {w w' : World} {r : Nat} {l : List (Value × Value)} (h : MapIs P K w r l) (e : w'.heap[r]? = w.heap[r]?) (hs : w.heap.size ≤ w'.heap.size) : MapIs P K w' r l := by
  obtain ⟨h0, h1, h2, h3⟩ := h
  refine ⟨Nat.lt_of_lt_of_le h0 hs, ?_, h2, h3⟩
  rw [← h1]; unfold mapAt; rw [e]
theorem heap_setMap {w : World} {r k : Nat} {es : Array MapEntry} {c : Nat} (h : k ≠ r) : (setMap w r es c).heap[k]? = w.heap[k]? := by
  show (w.heap.setIfInBounds r _)[k]? = _
  rw [Array.getElem?_setIfInBounds, if_neg (fun e => h e.symm)]
theorem RowG.blk {w : World} {base : Nat} {v : Value} {xs : List Pl} (h : RowG plL w base 32 5 v xs) {k : Nat} (hk : k < xs.length) : ∃ g c, v = .slice (some ⟨g, 0, none⟩) xs.length c ∧ base ≤ g ∧ g < w.heap.size ∧ w.cell? ⟨g, k * 5 + 1, none⟩ = some (.int .i64 (xs.getD k default).t) ∧ w.frozen? ⟨g, k * 5 + 1, none⟩ = false := by
  have h' := h
  obtain ⟨h0, ⟨e, h1⟩ | ⟨g, cap, cur, e, hb', hg, h1, h2, h3, h4⟩⟩ := h
  · omega
  · have hlt := (ownsRow_own h' g (by rw [e]; rfl)).2
    refine ⟨g, cap, e, hb', hlt, ?_, by simp [World.frozen?, hg]⟩
    have e1 : w.cell? ⟨g, k * 5 + 1, none⟩ = cur.toList[k * 5 + 1]? := by simp [World.cell?, hg]
    have e2 : (cur.toList.take (xs.length * 5))[k * 5 + 1]? = cur.toList[k * 5 + 1]? := by rw [List.getElem?_take, if_pos (by omega)]
    rw [e1, ← e2, h4, flat_get (C := plL) (z := 5) (fun _ => rfl) xs k 1 hk (by decide)]
    rfl
theorem two_ints (a b : Int) (w : World) : Ints .i64 (w.alloc (.cells #[.int .i64 a, .int .i64 b] 3)) (.slice (some ⟨w.heap.size, 0, none⟩) 2 2) [a, b] :=
  ⟨some ⟨w.heap.size, 0, none⟩, 2, rfl, Nat.le_refl _, by simp, (fun hh => by cases hh), fun i hi => ⟨w.heap.size, 0, rfl, by simp, by
    match i, hi with
    | 0, _ => simp [go_sem]
    | 1, _ => simp [go_sem]⟩⟩
theorem cutP_step (a b : Int) (l : List Pl) (j : Nat) (hj : j < l.length) : cutP a b (l.take (j + 1)) = cutP a b (l.take j) ++ (if (clip a b (l.getD j default)).f < (clip a b (l.getD j default)).t then [clip a b (l.getD j default)] else []) := by
  rw [List.take_succ_eq_append_getElem hj]
  unfold cutP
  rw [List.map_append, List.filter_append, List.getD_eq_getElem?_getD, List.getElem?_eq_getElem hj]
  simp only [List.map_cons, List.map_nil, Option.getD_some]
  congr 1
  by_cases h : (clip a b l[j]).f < (clip a b l[j]).t
  · rw [if_pos h, List.filter_cons_of_pos (by simpa using h)]; rfl
  · rw [if_neg h, List.filter_cons_of_neg (by simpa using h)]; rfl
theorem cutP_len (a b : Int) (l : List Pl) : (cutP a b l).length ≤ l.length := by
  unfold cutP; exact Nat.le_trans (List.length_filter_le _ _) (by simp)
def CutP (a b : Int) (l : List Pl) (w : World) (e : Ending) (w' : World) : Prop :=
  ∃ u s, e = .returned (.tuple #[u, .int .i64 0]) ∧ Pls w' u s ∧ s.Perm (cutP a b l) ∧ (s.Pairwise fun x y => ¬ y.lt x) ∧ Below w.heap.size w w'
set_option maxHeartbeats 2000000 in
theorem cut_any (l : List Pl) (u : Value) (a b : Int) (w : World) (hu : Pls w u l) (hl : traE l = 0) (ha : 0 ≤ a) (hab : a ≤ b) (hb : b ≤ 32768) : Calls Try.prog 11 #[u, .int .i64 a, .int .i64 b] w (CutP a b l w) := by
  obtain ⟨W1, hW1⟩ : ∃ W, w.alloc (.cells #[.int .i64 a, .int .i64 b] 3) = W := ⟨_, rfl⟩
  have hb0 : Below w.heap.size w W1 := by rw [← hW1]; exact (Below.refl _ _).alloc (Nat.le_refl _) _
  have CA := Lib.hid (asked_ok l u (.slice (some ⟨w.heap.size, 0, none⟩) 2 2) 0 [a, b] W1 (hu.stays hb0) (by rw [← hW1]; exact two_ints a b w) hl rfl (by simp; omega) (by simp [Lib.downOK]; omega))
  have hlen : l.length ≤ 64 := (traE_valid hl).len
  obtain ⟨sa, c, rfl, h1, h2, hr⟩ := hu.shapeR
  have HR0 := Lib.hid hr
  obtain ⟨ip, hi0, hz0, hz1, hz2⟩ := info_parts info_pl
  have HB0 := Lib.hid hb0
  have HI0 := Lib.hid hi0
  clear hu hl hb0
  go_enter Try.func11, Try.ntmps11
  go_wp2_with (go_at_call 12; with_reducible refine CA.out.mono ?_; rintro e w1 ⟨rfl, hb1⟩)
  have hs1 := hb1.size
  have HB1 := Lib.hid hb1
  clear hb1 CA hW1 hr
  go_loopw [9, 11, 22] (fun o _ i wr => ∃ j : Nat, j ≤ l.length ∧ i = .int .i64 j ∧ RowG plL wr w1.heap.size 32 5 o (cutP a b (l.take j)) ∧ Below w1.heap.size w1 wr) (fun _ _ i _ => l.length - (intOf i).toNat)
  case atStart => exact ⟨0, Nat.zero_le _, rfl, RowG.nil _ _ _ _ _, Below.refl _ _⟩
  case round =>
    obtain ⟨j, hj, rfl, hrow, hb⟩ := hrel
    have HB := Lib.hid hb
    have HRW := Lib.hid hrow
    have hbs := hb.size
    by_cases hjl : j < l.length
    · obtain ⟨bb, q, ea, hbl, x0, x1, x2, x3, x4⟩ := (HR0.out.stays (below_next HB0.out HB0.out.size HB1.out)).stays hb j hjl
      subst ea
      have HST := Lib.hid (cutP_step a b l j hjl)
      have HLN : Hid ((cutP a b (l.take j)).length ≤ 64) := Nat.le_trans (cutP_len a b _) (by rw [List.length_take]; omega)
      generalize l.getD j default = x at *
      obtain ⟨f, t, v, k, n⟩ := x
      simp only at x0 x1 x2 x3 x4
      have hne2 : ¬ bb = wr.heap.size := by omega
      have i0 : (0 : Int) ≤ (j : Int) := by omega
      have i1 : (j : Int) < (l.length : Int) := by omega
      obtain ⟨ov, oc, rfl⟩ := hrow.shape5
      clear hb hrow
      go_upto_region 9 with fail
      have HOW : Hid (∀ k, (Value.slice ov (cutP a b (l.take j)).length oc).ownBlock = some k → w1.heap.size ≤ k) := fun k hk => (ownsRow_own HRW.out k hk).1
      have HRB : Hid (∀ o, RowG plL (wr.alloc o) w1.heap.size 32 5 (.slice ov (cutP a b (l.take j)).length oc) (cutP a b (l.take j))) := fun o => ownsRow_at HRW.out fun g hg hlt => ((Below.refl wr.heap.size wr).alloc (Nat.le_refl _) o).block g hlt
      have HRB2 : Hid (∀ o o2, RowG plL ((wr.alloc o).alloc o2) w1.heap.size 32 5 (.slice ov (cutP a b (l.take j)).length oc) (cutP a b (l.take j))) := fun o o2 => ownsRow_at (HRB.out o) fun g hg hlt => ((Below.refl (wr.alloc o).heap.size (wr.alloc o)).alloc (Nat.le_refl _) o2).block g hlt
      have BB2 : Hid (∀ o o2, Below w1.heap.size w1 ((wr.alloc o).alloc o2)) := fun o o2 => (below_next HB.out hbs ((Below.refl wr.heap.size wr).alloc (Nat.le_refl _) o)).alloc (by simp; omega) o2
      have HNW : Hid (∀ o o2, ((wr.alloc o).alloc o2).heap[wr.heap.size + 1]? = some o2) := fun o o2 => by
        have e : (wr.alloc o).heap.size = wr.heap.size + 1 := by simp
        rw [← e]; exact Array.getElem?_push_size
      have BB : Hid (∀ o, Below w1.heap.size w1 (wr.alloc o)) := fun o => below_next HB.out hbs ((Below.refl wr.heap.size wr).alloc (Nat.le_refl _) o)
      have HNT : Hid (max f a < min t b → cutP a b (l.take (j + 1)) = cutP a b (l.take j) ++ [⟨max f a, min t b, v, k, n⟩]) := fun h => HST.out.trans (congrArg _ (if_pos h))
      have HNF : Hid (¬ max f a < min t b → cutP a b (l.take (j + 1)) = cutP a b (l.take j)) := fun h => (HST.out.trans (congrArg _ (if_neg h))).trans (List.append_nil _)
      clear HST
      generalize max f a = mf at *
      generalize min t b = mt at *
      generalize hCC : cutP a b (l.take j) = CC at *
      have HLC := HLN
      cases hlt : decide (mf < mt)
      · have HN : Hid (cutP a b (l.take (j + 1)) = CC) := by
          exact HNF.out (of_decide_eq_false hlt)
        clear HNT HNF hCC
        go_wp2_with fail
        go_roundw
        case rel => exact ⟨j + 1, by omega, by go_num, by rw [HN.out]; exact HRB.out _, BB.out _⟩
        case measure => simp [intOf]; omega
      · have HN : Hid (cutP a b (l.take (j + 1)) = CC ++ [⟨mf, mt, v, k, n⟩]) := by
          exact HNT.out (of_decide_eq_true hlt)
        clear HNT HNF hCC
        have hlc := HLC.out
        go_wp2_with (at_builtin; refine wpList_append_lies _ rfl _ _ _ rfl w1.heap.size 32 ip (.agg #[.int .i64 0, .int .i64 0, .int .i64 0, .int .i64 0, .int .i64 0]) 5 40 Try.underlying22 HI0.out hz0 hz1 hz2 rfl (by decide) (.slice ov CC.length oc) CC.length (CC.flatMap plL) rfl (HRB2.out _ _) ⟨wr.heap.size + 1, 0, none⟩ 1 1 [.int .i64 mf, .int .i64 mt, .int .i64 v, .int .i64 k, .int .i64 n] rfl rfl (World.news_of_block (cs := #[.int .i64 mf, .int .i64 mt, .int .i64 v, .int .i64 k, .int .i64 n]) (t := 32) (fr := (0, 0)) (HNW.out _ _)) (by simp [Value.oneCell']) (by decide) (by unfold maxLen; omega) (by omega) (by simp; omega) (wr.heap.size + 1 + 1) (by simp) (fun gc capc w6 ho6 hg6 hat6 hl6 => ?_); have HO6 := Lib.hid ho6; have HG6 := Lib.hid hg6; have HAT6 := Lib.hid hat6; clear ho6 hg6 hat6 hl6)
        go_roundw
        case rel => exact ⟨j + 1, by omega, by go_num, by rw [HN.out]; exact RowG.snoc (C := plL) (x := (⟨mf, mt, v, k, n⟩ : Pl)) HO6.out, (BB2.out _ _).grown HG6.out (by simp; omega) fun k hk => HOW.out k hk⟩
        case measure => simp [intOf]; omega
    · obtain rfl : j = l.length := by omega
      have hrow' := HRW.out
      rw [List.take_length] at hrow'
      have CS := Lib.hid (sortP_any (cutP a b l) _ w1.heap.size wr hrow' hbs (by have := cutP_len a b l; omega))
      have HFB : Hid (∀ w', Below w1.heap.size wr w' → Below w.heap.size w w') := fun w' h => (below_next (below_next HB0.out HB0.out.size HB1.out) (below_next HB0.out HB0.out.size HB1.out).size HB.out).trans (h.mono (below_next HB0.out HB0.out.size HB1.out).size)
      clear hrow' hrow HRW hb
      go_wp2_with (go_at_call 20; with_reducible refine CS.out.mono ?_; rintro e w7 ⟨rfl, s, hs7, hp7, ho7, hb7⟩; have HS7 := Lib.hid hs7; have HB7 := Lib.hid hb7; clear hs7 hb7)
      exact bodyPost_ret (by simp [results, Try.results11, go_sem]) rfl ⟨_, s, rfl, HS7.out, hp7, ho7, HFB.out _ HB7.out⟩
theorem info_u8 : (Try.prog.info? 5).map (fun i => (i.zero, i.size, i.bytes)) = some (some (.int .u8 0), 1, 1) := by kernel_rfl
theorem bits_and_i64_nat (a b : Nat) (ha : a < 9223372036854775808) (hb : b < 9223372036854775808) : bits .and .i64 (a : Int) (b : Int) = ((a &&& b : Nat) : Int) := by
  have hx : a &&& b < 2 ^ 63 := Nat.and_lt_two_pow _ (by omega)
  have h1 : (BitVec.ofInt 64 (a : Int)).toNat = a := by
    rw [BitVec.ofInt_natCast, BitVec.toNat_ofNat]; exact Nat.mod_eq_of_lt (by omega)
  have h2 : (BitVec.ofInt 64 (b : Int)).toNat = b := by
    rw [BitVec.ofInt_natCast, BitVec.toNat_ofNat]; exact Nat.mod_eq_of_lt (by omega)
  show IntKind.i64.wrap ((BitVec.ofInt 64 (a : Int) &&& BitVec.ofInt 64 (b : Int)).toNat : Int) = _
  rw [BitVec.toNat_and, h1, h2]
  simp only [IntKind.wrap, IntKind.bits, IntKind.signed]
  simp; omega
theorem bits_or_i64_nat (a b : Nat) (ha : a < 9223372036854775808) (hb : b < 9223372036854775808) : bits .or .i64 (a : Int) (b : Int) = ((a ||| b : Nat) : Int) := by
  have hx : a ||| b < 2 ^ 63 := Nat.or_lt_two_pow (by omega) (by omega)
  have h1 : (BitVec.ofInt 64 (a : Int)).toNat = a := by
    rw [BitVec.ofInt_natCast, BitVec.toNat_ofNat]; exact Nat.mod_eq_of_lt (by omega)
  have h2 : (BitVec.ofInt 64 (b : Int)).toNat = b := by
    rw [BitVec.ofInt_natCast, BitVec.toNat_ofNat]; exact Nat.mod_eq_of_lt (by omega)
  show IntKind.i64.wrap ((BitVec.ofInt 64 (a : Int) ||| BitVec.ofInt 64 (b : Int)).toNat : Int) = _
  rw [BitVec.toNat_or, h1, h2]
  simp only [IntKind.wrap, IntKind.bits, IntKind.signed]
  simp; omega
theorem low7 (m : Nat) (hm : m < 34359738368) : bits .or .i64 (bits .and .i64 (m : Int) 127) 128 % 256 = ((m % 128 + 128 : Nat) : Int) := by
  have e1 := bits_and_i64_nat m 127 (by omega) (by decide)
  have e2 : m &&& 127 = m % 128 := Nat.and_two_pow_sub_one_eq_mod m 7
  have e3 := bits_or_i64_nat (m % 128) 128 (by omega) (by decide)
  have e4 : m % 128 ||| 128 = m % 128 + 128 := by
    have := Nat.two_pow_add_eq_or_of_lt (i := 7) (b := m % 128) (by omega) 1
    rw [Nat.or_comm]; simpa [Nat.add_comm] using this.symm
  rw [e2] at e1
  rw [e4] at e3
  rw [show ((127 : Nat) : Int) = 127 from rfl] at e1
  rw [show ((128 : Nat) : Int) = 128 from rfl] at e3
  rw [e1, e3]
  omega
def PutS (B : Nat) (v : Value) (xs : List Int) (w : World) : Prop := w.cell? ⟨B, 0, none⟩ = some v ∧ w.frozen? ⟨B, 0, none⟩ = false ∧ RowI w (B + 1) 5 .u8 v xs
structure Stp (B : Nat) (v : Value) (w : World) (v' : Value) (w' : World) : Prop where
  os : w'.os = w.os
  tape : w'.tape = w.tape
  output : w'.output = w.output
  size : w.heap.size ≤ w'.heap.size
  block : ∀ q, q < w.heap.size → q ≠ B → v.ownBlock ≠ some q → w'.heap[q]? = w.heap[q]?
  own : ∀ g, v'.ownBlock = some g → v.ownBlock = some g ∨ w.heap.size ≤ g
theorem Stp.refl (B : Nat) (v : Value) (w : World) : Stp B v w v w := ⟨rfl, rfl, rfl, Nat.le_refl _, fun _ _ _ _ => rfl, fun _ h => .inl h⟩
theorem Stp.trans {B : Nat} {v v' v2 : Value} {w w' w2 : World} (h : Stp B v w v' w') (h' : Stp B v' w' v2 w2) : Stp B v w v2 w2 :=
  ⟨h'.os.trans h.os, h'.tape.trans h.tape, h'.output.trans h.output, Nat.le_trans h.size h'.size,
   fun q hq h1 h2 => (h'.block q (Nat.lt_of_lt_of_le hq h.size) h1 fun e => (h.own q e).elim h2 fun e => absurd e (by omega)).trans (h.block q hq h1 h2),
   fun g hg => (h'.own g hg).elim (fun e => h.own g e) fun e => .inr (Nat.le_trans h.size e)⟩
theorem put_step {B : Nat} {v : Value} {ys : List Int} {y : Int} {wr w6 : World} {o : Obj} {gc capc : Nat} (hB : B < wr.heap.size) (c6 : w6.cell? ⟨B, 0, none⟩ = some v) (f6 : w6.frozen? ⟨B, 0, none⟩ = false)
    (ho : w6.ownsRow (B + 1) 5 1 (.slice (some ⟨gc, 0, none⟩) (ys.length + 1) capc) (ys.length + 1) (ys.map (Value.int .u8) ++ [.int .u8 y])) (hg : (wr.alloc o).grownBy w6 v.ownBlock) (hat : v.ownBlock = some gc ∨ wr.heap.size ≤ gc) :
    PutS B (.slice (some ⟨gc, 0, none⟩) (ys.length + 1) capc) (ys ++ [y]) (w6.setCell ⟨B, 0, none⟩ (.slice (some ⟨gc, 0, none⟩) (ys.length + 1) capc)) ∧ Stp B v wr (.slice (some ⟨gc, 0, none⟩) (ys.length + 1) capc) (w6.setCell ⟨B, 0, none⟩ (.slice (some ⟨gc, 0, none⟩) (ys.length + 1) capc)) := by
  have hgb := (ownsRow_own ho gc rfl).1
  have hsz : wr.heap.size ≤ w6.heap.size := by have := hg.size; simp at this; omega
  refine ⟨⟨World.cell?_setCell_same _ _ _ c6, by rw [World.frozen?_setCell]; exact f6, ?_⟩, ⟨hg.os, hg.tape, hg.output, by simpa [World.setCell] using hsz, fun q hq h1 h2 => ?_, fun g hg' => ?_⟩⟩
  · refine RowI.app1 (j := ys.length) (l := ys) (y := y) (ownsRow_at ho fun g hg' hlt => Below.heap_setCell _ _ _ _ ?_) rfl rfl
    have := (ownsRow_own ho g hg').1
    show g ≠ B
    omega
  · rw [Below.heap_setCell _ _ _ _ (show q ≠ B from h1), hg.block q (by simp; omega) (fun e => h2 e.symm)]
    exact ((Below.refl wr.heap.size wr).alloc (Nat.le_refl _) o).block q hq
  · have : gc = g := by injection hg'
    subst this
    exact hat
set_option maxHeartbeats 2000000 in
theorem put_any (B : Nat) (v : Value) (xs : List Int) (n : Nat) (w : World) (h : PutS B v xs w) (hn : n < 34359738368) (hl : xs.length ≤ 90000) : Calls Try.prog 14 #[.int .i64 (n : Int), .pointer (some ⟨B, 0, none⟩)] w fun e w' => e = .returned (.tuple #[]) ∧ ∃ v', PutS B v' (xs ++ (encV n).map Int.ofNat) w' ∧ Stp B v w v' w' := by
  have H0 := Lib.hid h
  have HN := Lib.hid hn
  have HL := Lib.hid hl
  obtain ⟨ip, hi0, hz0, hz1, hz2⟩ := info_parts info_u8
  have HI0 := Lib.hid hi0
  clear h hn hl
  go_enter Try.func14, Try.ntmps14
  go_wp2_with fail
  go_loopw [0] (fun i wr => ∃ m : Nat, ∃ ys, i = .int .i64 (m : Int) ∧ m < 34359738368 ∧ ys ++ (encV m).map Int.ofNat = xs ++ (encV n).map Int.ofNat ∧ ∃ v', PutS B v' ys wr ∧ Stp B v w v' wr) (fun i _ => (intOf i).toNat)
  case atStart => exact ⟨n, xs, rfl, HN.out, rfl, v, H0.out, Stp.refl _ _ _⟩
  case round =>
    obtain ⟨m, ys, rfl, hm, hys, v', hp, hst⟩ := hrel
    have HM := Lib.hid hm
    have HYS := Lib.hid hys
    have HP := Lib.hid hp
    have HST := Lib.hid hst
    obtain ⟨c0, f0, hrow⟩ := hp
    have hB := cell_lt c0
    obtain ⟨va, vc, rfl⟩ : ∃ a c, v' = .slice a ys.length c := by
      obtain ⟨_, ⟨e, h1⟩ | ⟨g, cap, cur, e, _⟩⟩ := hrow
      · exact ⟨none, 0, by rw [e, h1]⟩
      · exact ⟨_, _, e⟩
    clear hys hst
    have hyl : ys.length ≤ 90005 := by
      have h1 := congrArg List.length HYS.out
      have h2 := encV_len 4 n (by have := HN.out; show n < 34359738368; exact this)
      have := HL.out
      simp at h1; omega
    have HRB : Hid (∀ o, (wr.alloc o).ownsRow (B + 1) 5 1 (.slice va ys.length vc) ys.length (ys.map (Value.int .u8))) := fun o => ownsRow_at hrow fun g hg hlt => ((Below.refl wr.heap.size wr).alloc (Nat.le_refl _) o).block g hlt
    have HNW : Hid (∀ o, (wr.alloc o).heap[wr.heap.size]? = some o) := fun o => Array.getElem?_push_size
    have HOW : Hid (∀ k, (Value.slice va ys.length vc).ownBlock = some k → B + 1 ≤ k) := fun k hk => (ownsRow_own hrow k hk).1
    have HC6 : Hid (∀ o w6, (wr.alloc o).grownBy w6 (Value.slice va ys.length vc).ownBlock → w6.cell? ⟨B, 0, none⟩ = some (.slice va ys.length vc)) := fun o w6 hg => by
      have e : w6.heap[B]? = wr.heap[B]? := (hg.block B (by simp; omega) (fun e => by have := HOW.out B e.symm; omega)).trans (((Below.refl wr.heap.size wr).alloc (Nat.le_refl _) o).block B hB)
      rw [← c0]; exact World.cell?_of_block (w := wr) e
    have HF6 : Hid (∀ o w6, (wr.alloc o).grownBy w6 (Value.slice va ys.length vc).ownBlock → w6.frozen? ⟨B, 0, none⟩ = false) := fun o w6 hg => by
      have e : w6.heap[B]? = wr.heap[B]? := (hg.block B (by simp; omega) (fun e => by have := HOW.out B e.symm; omega)).trans (((Below.refl wr.heap.size wr).alloc (Nat.le_refl _) o).block B hB)
      rw [← f0]; exact World.frozen?_of_block (w := wr) e
    have hne : ¬ B = wr.heap.size := by omega
    clear hrow
    cases h127 : decide ((127 : Int) < (m : Int))
    · have h9 := of_decide_eq_false h127
      have hs8 : (m : Int) % 256 = (m : Int) := by omega
      go_wp2_with (at_builtin; refine wpList_append_lies _ rfl _ _ _ rfl (B + 1) 5 ip (.int .u8 0) 1 1 Try.underlying25 HI0.out hz0 hz1 hz2 rfl (by decide) (.slice va ys.length vc) ys.length (ys.map (Value.int .u8)) rfl (HRB.out _) ⟨wr.heap.size, 0, none⟩ 1 1 [.int .u8 (m : Int)] rfl rfl (World.news_of_block (cs := #[.int .u8 (m : Int)]) (t := 5) (fr := (0, 0)) (HNW.out _)) (by simp [Value.oneCell']) (by decide) (by unfold maxLen; omega) (by omega) (by simp; omega) (wr.heap.size + 1) (by simp) (fun gc capc w6 ho6 hg6 hat6 hl6 => ?_); have HO6 := Lib.hid ho6; have HG6 := Lib.hid hg6; have HAT6 := Lib.hid hat6; have c6 := HC6.out _ _ hg6; have f6 := HF6.out _ _ hg6; clear ho6 hg6 hat6 hl6)
      obtain ⟨hp6, hs6⟩ := put_step hB c6 f6 HO6.out HG6.out (HAT6.out.imp id fun e => by rw [e]; simp)
      have hfin : ys ++ [(m : Int)] = xs ++ (encV n).map Int.ofNat := by rw [← HYS.out, encV_small (n := m) (by omega)]; rfl
      rw [hfin] at hp6
      exact bodyPost_end (v := .tuple #[]) (by simp [results, Try.results14, go_sem]) rfl ⟨rfl, _, hp6, HST.out.trans hs6⟩
    · have h7 := low7 m HM.out
      go_upto_region 1 with (at_builtin; refine wpList_append_lies _ rfl _ _ _ rfl (B + 1) 5 ip (.int .u8 0) 1 1 Try.underlying25 HI0.out hz0 hz1 hz2 rfl (by decide) (.slice va ys.length vc) ys.length (ys.map (Value.int .u8)) rfl (HRB.out _) ⟨wr.heap.size, 0, none⟩ 1 1 [.int .u8 ((m % 128 + 128 : Nat) : Int)] rfl rfl (World.news_of_block (cs := #[.int .u8 ((m % 128 + 128 : Nat) : Int)]) (t := 5) (fr := (0, 0)) (HNW.out _)) (by simp [Value.oneCell']) (by decide) (by unfold maxLen; omega) (by omega) (by simp; omega) (wr.heap.size + 1) (by simp) (fun gc capc w6 ho6 hg6 hat6 hl6 => ?_); have HO6 := Lib.hid ho6; have HG6 := Lib.hid hg6; have HAT6 := Lib.hid hat6; have c6 := HC6.out _ _ hg6; have f6 := HF6.out _ _ hg6; clear ho6 hg6 hat6 hl6)
      have HPS := Lib.hid (put_step hB c6 f6 HO6.out HG6.out (HAT6.out.imp id fun e => by rw [e]; simp))
      have HD : Hid (((m / 128 : Nat) : Int) = (m : Int) / 128) := by show _ = _; omega
      have HFN : Hid ((ys ++ [((m % 128 + 128 : Nat) : Int)]) ++ (encV (m / 128)).map Int.ofNat = xs ++ (encV n).map Int.ofNat) := by
        show _ = _
        rw [← HYS.out, encV_big (n := m) (by have := of_decide_eq_true h127; omega), List.append_assoc]
        rfl
      clear c6 f6
      go_wp2_with fail
      go_roundw
      case rel => exact ⟨m / 128, _, by rw [HD.out], by have := HM.out; omega, HFN.out, _, HPS.out.1, HST.out.trans HPS.out.2⟩
      case measure => simp [intOf]; have := of_decide_eq_true h127; omega
theorem Stp.nilBelow {B : Nat} {w w' : World} {v' : Value} (h : Stp B (.slice none 0 0) w v' w') (hB : B ≤ w.heap.size) : Below B w w' := ⟨h.os, h.tape, h.output, h.size, fun k hk => h.block k (by omega) (by omega) (by intro e; cases e)⟩
theorem PutS.own {B : Nat} {v : Value} {xs : List Int} {w : World} (h : PutS B v xs w) (g : Nat) (hg : v.ownBlock = some g) : B < g ∧ g < w.heap.size := ownsRow_own h.2.2 g hg
theorem PutS.alloc {B : Nat} {v : Value} {xs : List Int} {w : World} (h : PutS B v xs w) (o : Obj) : PutS B v xs (w.alloc o) := by
  have hB := cell_lt h.1
  have hb := (Below.refl w.heap.size w).alloc (Nat.le_refl _) o
  exact ⟨below_cell hb hB h.1, by rw [← h.2.1]; exact Below.frozen (p := ⟨B, 0, none⟩) hb hB, ownsRow_at h.2.2 fun g hg hlt => hb.block g hlt⟩
theorem Stp.alloc (B : Nat) (v : Value) (w : World) (o : Obj) : Stp B v w v (w.alloc o) := by
  have hb := (Below.refl w.heap.size w).alloc (Nat.le_refl _) o
  exact ⟨hb.os, hb.tape, hb.output, hb.size, fun q hq _ _ => hb.block q hq, fun g hg => .inl hg⟩
theorem PutS.ints {B : Nat} {v : Value} {xs : List Int} {w : World} (h : PutS B v xs w) (hl : xs.length ≤ 100000) : Ints .u8 w v xs := (h.2.2.memO).ints hl
theorem encP_len {x : Pl} (h : x.ok) {fr : Int} (h0 : 0 ≤ fr) : (encP fr x).length ≤ 25 := by
  unfold Pl.ok limP at h
  have e : (128 : Nat) ^ (4 + 1) = 34359738368 := rfl
  have hn : x.n ≤ 4294967295 := by
    have := h.2.2.2.2.2.2
    split at this <;> (try split at this) <;> omega
  have l1 := encV_len 4 (x.f - fr).toNat (by rw [e]; omega)
  have l2 := encV_len 4 (x.t - x.f).toNat (by rw [e]; omega)
  have l3 := encV_len 4 x.v.toNat (by rw [e]; omega)
  have l4 := encV_len 4 x.k.toNat (by rw [e]; omega)
  have l5 := encV_len 4 x.n.toNat (by rw [e]; omega)
  unfold encP
  simp only [List.length_append]
  omega
theorem encL_len : ∀ (l : List Pl) (fr : Int), 0 ≤ fr → (∀ x ∈ l, x.ok) → (encL fr l).length ≤ 25 * l.length
  | [], _, _, _ => by simp [encL]
  | x :: l, fr, h0, h => by
    have h1 := encP_len (h x (by simp)) h0
    have h2 := encL_len l x.f (h x (by simp)).1 fun y hy => h y (by simp [hy])
    show (encP fr x ++ encL x.f l).length ≤ _
    rw [List.length_append, List.length_cons]
    omega
theorem encT_len {l : List Pl} (h : ∀ x ∈ l, x.ok) (hl : l.length ≤ 64) : (encT l).length ≤ 1700 := by
  have h1 := encL_len l 0 (by omega) h
  have h2 := encV_len 4 l.length (by show l.length < 34359738368; omega)
  unfold encT
  rw [List.length_append]
  omega
theorem encL_step {l : List Pl} {j : Nat} (hj : j < l.length) {E0 : List Nat} (h0 : encV l.length ++ encL 0 (l.take j) = E0) : encV l.length ++ encL 0 (l.take (j + 1)) = E0 ++ encP (lastF (l.take j)) (l.getD j default) := by
  rw [List.take_succ_eq_append_getElem hj, encL_snoc, ← h0, List.append_assoc, List.getD_eq_getElem?_getD, List.getElem?_eq_getElem hj]
  rfl
theorem lastF_succ {l : List Pl} {j : Nat} (hj : j < l.length) : lastF (l.take (j + 1)) = (l.getD j default).f := by
  rw [List.take_succ_eq_append_getElem hj, List.getD_eq_getElem?_getD, List.getElem?_eq_getElem hj]
  unfold lastF
  rw [List.getLast?_concat]
  rfl
theorem lastF_le {l : List Pl} (h : ValidP l) {j : Nat} (hj : j < l.length) : 0 ≤ lastF (l.take j) ∧ lastF (l.take j) ≤ (l.getD j default).f := by
  have hx := h.ok _ (List.getElem_mem hj)
  rw [List.getD_eq_getElem?_getD, List.getElem?_eq_getElem hj]
  simp only [Option.getD_some]
  cases j with
  | zero => exact ⟨Int.le_refl _, hx.1⟩
  | succ i =>
    have hi : i < l.length := by omega
    rw [lastF_succ hi, List.getD_eq_getElem?_getD, List.getElem?_eq_getElem hi]
    simp only [Option.getD_some]
    have hlt := List.pairwise_iff_getElem.1 h.srt i (i + 1) hi hj (by omega)
    unfold Pl.lt at hlt
    exact ⟨(h.ok _ (List.getElem_mem hi)).1, by omega⟩
set_option maxHeartbeats 2000000 in
theorem enc_ok (l : List Pl) (u : Value) (w : World) (hu : Pls w u l) (hl : traE l = 0) : Calls Try.prog 6 #[u] w fun e w' => ∃ v, e = .returned (.tuple #[v, .int .i64 0]) ∧ Ints .u8 w' v ((encT l).map Int.ofNat) ∧ Below w.heap.size w w' := by
  have CV := Lib.hid (pVal24_any l u w hu)
  rw [hl] at CV
  have HVL := Lib.hid (traE_valid hl)
  have hlen : l.length ≤ 64 := (traE_valid hl).len
  obtain ⟨sa, c, rfl, h1, h2, hr⟩ := hu.shapeR
  have HR0 := Lib.hid hr
  clear hu hr hl
  go_enter Try.func6, Try.ntmps6
  go_upto_region 6 with (go_at_call 7; with_reducible refine CV.out.mono ?_; rintro e w1 ⟨rfl, hb1⟩)
  have hs1 := hb1.size
  have HB1 := Lib.hid hb1
  generalize hBq : w1.heap.size = B at *
  obtain ⟨W2, hW2⟩ : ∃ W, w1.alloc (.cells #[.slice none 0 0] 25) = W := ⟨_, rfl⟩
  have HP0 : Hid (PutS B (.slice none 0 0) [] W2) := by
    rw [← hW2, ← hBq]; exact ⟨by simp [go_sem], by simp [go_sem], World.ownsRow_nil _ _ _ _⟩
  have hs2 : W2.heap.size = B + 1 := by rw [← hW2]; simp [hBq]
  have HW2 : Hid (Below B w1 W2) := by rw [← hW2, ← hBq]; exact (Below.refl _ _).alloc (Nat.le_refl _) _
  have HS2 := Lib.hid hs2
  rw [hW2]
  clear hW2 hb1 CV
  go_wp2_with (go_at_call 14; with_reducible refine (put_any B (.slice none 0 0) [] l.length W2 HP0.out (by omega) (by simp)).mono ?_; rintro e w2 ⟨rfl, v2, hp2, hs3⟩; have HP2 := Lib.hid hp2; have HS3 := Lib.hid hs3; clear hp2 hs3)
  go_loopw [7, 9, 22] (fun fr _ i wr => ∃ j : Nat, j ≤ l.length ∧ i = .int .i64 j ∧ fr = .int .i64 (lastF (l.take j)) ∧ ∃ v', PutS B v' ((encV l.length ++ encL 0 (l.take j)).map Int.ofNat) wr ∧ Stp B (.slice none 0 0) W2 v' wr) (fun _ _ i _ => l.length - (intOf i).toNat)
  case atStart => exact ⟨0, Nat.zero_le _, rfl, rfl, v2, by simpa [encL] using HP2.out, HS3.out⟩
  case round =>
    obtain ⟨j, hj, rfl, rfl, u0, hp0, hst⟩ := hrel
    have HPR := Lib.hid hp0
    have HST := Lib.hid hst
    have HBL : Hid (Below w.heap.size w wr) := below_next HB1.out HB1.out.size (by rw [hBq]; exact HW2.out.trans (hst.nilBelow (by omega)))
    by_cases hjl : j < l.length
    · obtain ⟨bb, q, ea, hbl, x0, x1, x2, x3, x4⟩ := (HR0.out.stays HBL.out) j hjl
      subst ea
      have hok : (l.getD j default).ok := by rw [List.getD_eq_getElem?_getD, List.getElem?_eq_getElem hjl]; exact HVL.out.ok _ (List.getElem_mem hjl)
      obtain ⟨hf0, hf1⟩ := lastF_le HVL.out hjl
      have HBD := place_bd hok hf0 hf1
      have HSC := Lib.hid (lastF_succ (l := l) hjl)
      have HEN := Lib.hid (encL_step (l := l) hjl rfl)
      have HL0 : Hid ((encV l.length ++ encL 0 (l.take j)).length ≤ 1700) := by
        show _ ≤ 1700
        have a1 := encL_len (l.take j) 0 (by omega) fun x hx => HVL.out.ok x (List.mem_of_mem_take hx)
        have a2 := encV_len 4 l.length (by show l.length < 34359738368; omega)
        rw [List.length_take] at a1
        rw [List.length_append]
        omega
      generalize l.getD j default = x at *
      generalize lastF (l.take j) = fr at *
      generalize encV l.length ++ encL 0 (l.take j) = E0 at *
      obtain ⟨f, t, v, k, n⟩ := x
      unfold Pl.ok limP at hok
      simp only at x0 x1 x2 x3 x4 hok hf1 HBD HSC
      obtain ⟨d1, e1⟩ : ∃ d : Nat, f - fr = (d : Int) := ⟨(f - fr).toNat, by omega⟩
      obtain ⟨d2, e2⟩ : ∃ d : Nat, t - f = (d : Int) := ⟨(t - f).toNat, by omega⟩
      obtain ⟨vn, rfl⟩ : ∃ d : Nat, v = (d : Int) := ⟨v.toNat, by omega⟩
      obtain ⟨kn, rfl⟩ : ∃ d : Nat, k = (d : Int) := ⟨k.toNat, by omega⟩
      obtain ⟨nn, rfl⟩ : ∃ d : Nat, n = (d : Int) := ⟨n.toNat, by omega⟩
      have hbd : d1 < 34359738368 ∧ d2 < 34359738368 ∧ vn < 34359738368 ∧ kn < 34359738368 ∧ nn < 34359738368 := by
        rw [e1, e2] at HBD
        simpa using HBD
      have hw1 : wrap64 (f - fr) = (d1 : Int) := by rw [e1]; exact IntWalk.wrap64_in _ (by omega)
      have hw2 : wrap64 (t - f) = (d2 : Int) := by rw [e2]; exact IntWalk.wrap64_in _ (by omega)
      have L1 := Lib.hid (encV_len 4 d1 hbd.1)
      have L2 := Lib.hid (encV_len 4 d2 hbd.2.1)
      have L3 := Lib.hid (encV_len 4 vn hbd.2.2.1)
      have L4 := Lib.hid (encV_len 4 kn hbd.2.2.2.1)
      have HFIN : Hid (((((E0.map Int.ofNat ++ (encV d1).map Int.ofNat) ++ (encV d2).map Int.ofNat) ++ (encV vn).map Int.ofNat) ++ (encV kn).map Int.ofNat) ++ (encV nn).map Int.ofNat = (encV l.length ++ encL 0 (l.take (j + 1))).map Int.ofNat) := by
        refine Lib.hid ?_
        rw [HEN.out]
        unfold encP
        simp only [e1, e2, Int.toNat_natCast, List.map_append, List.append_assoc]
      have hBw := cell_lt hp0.1
      have hne : ¬ bb = wr.heap.size := by have := HBL.out.size; omega
      have hneB : ¬ B = wr.heap.size := by omega
      obtain ⟨w3, hW3⟩ : ∃ W, wr.alloc (.cells #[.int .i64 f, .int .i64 t, .int .i64 (vn : Int), .int .i64 (kn : Int), .int .i64 (nn : Int)] 32) = W := ⟨_, rfl⟩
      have HP3 : Hid (PutS B u0 (E0.map Int.ofNat) w3) := by rw [← hW3]; exact hp0.alloc _
      have HS3' : Hid (Stp B u0 w3 u0 w3) := Stp.refl _ _ _
      have HSA : Hid (Stp B u0 wr u0 w3) := by rw [← hW3]; exact Stp.alloc _ _ _ _
      have hX : wr.heap.size < w3.heap.size := by rw [← hW3]; simp
      have HX : Hid (∀ vk wk, Stp B u0 w3 vk wk → wk.cell? ⟨wr.heap.size, 0, none⟩ = some (.int .i64 f) ∧ wk.cell? ⟨wr.heap.size, 1, none⟩ = some (.int .i64 t) ∧ wk.cell? ⟨wr.heap.size, 2, none⟩ = some (.int .i64 (vn : Int)) ∧ wk.cell? ⟨wr.heap.size, 3, none⟩ = some (.int .i64 (kn : Int)) ∧ wk.cell? ⟨wr.heap.size, 4, none⟩ = some (.int .i64 (nn : Int))) := fun vk wk h => by
        have e := h.block wr.heap.size hX (by omega) (fun e => by have := (hp0.own _ e).2; omega)
        have e2 : ∀ o, wk.cell? ⟨wr.heap.size, o, none⟩ = w3.cell? ⟨wr.heap.size, o, none⟩ := fun o => World.cell?_of_block (w := w3) e
        rw [e2, e2, e2, e2, e2, ← hW3]
        simp [go_sem]
      clear hp0 hst hok hf0 hf1 HBD e1 e2
      go_upto_region 11 with fail
      obtain ⟨q0, q1, q2, q3, q4⟩ := HX.out _ _ HS3'.out
      have i0 : (0 : Int) ≤ (j : Int) := by omega
      clear hW3
      have HB5 := Lib.hid hbd
      clear hbd
      have CP0 : Hid (Calls Try.prog 14 #[.int .i64 (d1 : Int), .pointer (some ⟨B, 0, none⟩)] w3 fun e w' => e = .returned (.tuple #[]) ∧ ∃ v', PutS B v' ((E0.map Int.ofNat) ++ (encV d1).map Int.ofNat) w' ∧ Stp B u0 w3 v' w') := put_any B u0 (E0.map Int.ofNat) d1 w3 HP3.out HB5.out.1 (by have a0 := HL0.out; simp only [List.length_append, List.length_map]; omega)
      go_upto_region 12 with (go_at_call 14; with_reducible refine CP0.out.mono ?_; rintro e w4 ⟨rfl, u4, hp4, hs4⟩; have HP4 := Lib.hid hp4; have HS4 := Lib.hid (HS3'.out.trans hs4); clear hp4 hs4 q0 q1 q2 q3 q4; obtain ⟨q0, q1, q2, q3, q4⟩ := HX.out _ _ HS4.out)
      have CP1 : Hid (Calls Try.prog 14 #[.int .i64 (d2 : Int), .pointer (some ⟨B, 0, none⟩)] w4 fun e w' => e = .returned (.tuple #[]) ∧ ∃ v', PutS B v' (((E0.map Int.ofNat) ++ (encV d1).map Int.ofNat) ++ (encV d2).map Int.ofNat) w' ∧ Stp B u4 w4 v' w') := put_any B u4 ((E0.map Int.ofNat) ++ (encV d1).map Int.ofNat) d2 w4 HP4.out HB5.out.2.1 (by have a0 := HL0.out; have l1 := L1.out; simp only [List.length_append, List.length_map]; omega)
      go_upto_region 13 with (go_at_call 14; with_reducible refine CP1.out.mono ?_; rintro e w5 ⟨rfl, u5, hp5, hs5⟩; have HP5 := Lib.hid hp5; have HS5 := Lib.hid (HS4.out.trans hs5); clear hp5 hs5 q0 q1 q2 q3 q4; obtain ⟨q0, q1, q2, q3, q4⟩ := HX.out _ _ HS5.out)
      have CP2 : Hid (Calls Try.prog 14 #[.int .i64 (vn : Int), .pointer (some ⟨B, 0, none⟩)] w5 fun e w' => e = .returned (.tuple #[]) ∧ ∃ v', PutS B v' ((((E0.map Int.ofNat) ++ (encV d1).map Int.ofNat) ++ (encV d2).map Int.ofNat) ++ (encV vn).map Int.ofNat) w' ∧ Stp B u5 w5 v' w') := put_any B u5 (((E0.map Int.ofNat) ++ (encV d1).map Int.ofNat) ++ (encV d2).map Int.ofNat) vn w5 HP5.out HB5.out.2.2.1 (by have a0 := HL0.out; have l1 := L1.out; have l2 := L2.out; simp only [List.length_append, List.length_map]; omega)
      go_upto_region 14 with (go_at_call 14; with_reducible refine CP2.out.mono ?_; rintro e w6 ⟨rfl, u6, hp6, hs6⟩; have HP6 := Lib.hid hp6; have HS6 := Lib.hid (HS5.out.trans hs6); clear hp6 hs6 q0 q1 q2 q3 q4; obtain ⟨q0, q1, q2, q3, q4⟩ := HX.out _ _ HS6.out)
      have CP3 : Hid (Calls Try.prog 14 #[.int .i64 (kn : Int), .pointer (some ⟨B, 0, none⟩)] w6 fun e w' => e = .returned (.tuple #[]) ∧ ∃ v', PutS B v' (((((E0.map Int.ofNat) ++ (encV d1).map Int.ofNat) ++ (encV d2).map Int.ofNat) ++ (encV vn).map Int.ofNat) ++ (encV kn).map Int.ofNat) w' ∧ Stp B u6 w6 v' w') := put_any B u6 ((((E0.map Int.ofNat) ++ (encV d1).map Int.ofNat) ++ (encV d2).map Int.ofNat) ++ (encV vn).map Int.ofNat) kn w6 HP6.out HB5.out.2.2.2.1 (by have a0 := HL0.out; have l1 := L1.out; have l2 := L2.out; have l3 := L3.out; simp only [List.length_append, List.length_map]; omega)
      go_upto_region 15 with (go_at_call 14; with_reducible refine CP3.out.mono ?_; rintro e w7 ⟨rfl, u7, hp7, hs7⟩; have HP7 := Lib.hid hp7; have HS7 := Lib.hid (HS6.out.trans hs7); clear hp7 hs7 q0 q1 q2 q3 q4; obtain ⟨q0, q1, q2, q3, q4⟩ := HX.out _ _ HS7.out)
      have CP4 : Hid (Calls Try.prog 14 #[.int .i64 (nn : Int), .pointer (some ⟨B, 0, none⟩)] w7 fun e w' => e = .returned (.tuple #[]) ∧ ∃ v', PutS B v' ((((((E0.map Int.ofNat) ++ (encV d1).map Int.ofNat) ++ (encV d2).map Int.ofNat) ++ (encV vn).map Int.ofNat) ++ (encV kn).map Int.ofNat) ++ (encV nn).map Int.ofNat) w' ∧ Stp B u7 w7 v' w') := put_any B u7 (((((E0.map Int.ofNat) ++ (encV d1).map Int.ofNat) ++ (encV d2).map Int.ofNat) ++ (encV vn).map Int.ofNat) ++ (encV kn).map Int.ofNat) nn w7 HP7.out HB5.out.2.2.2.2 (by have a0 := HL0.out; have l1 := L1.out; have l2 := L2.out; have l3 := L3.out; have l4 := L4.out; simp only [List.length_append, List.length_map]; omega)
      go_upto_region 16 with (go_at_call 14; with_reducible refine CP4.out.mono ?_; rintro e w8 ⟨rfl, u8, hp8, hs8⟩; have HP8 := Lib.hid hp8; have HS8 := Lib.hid (HS7.out.trans hs8); clear hp8 hs8 q0 q1 q2 q3 q4; obtain ⟨q0, q1, q2, q3, q4⟩ := HX.out _ _ HS8.out)
      go_wp2_with fail
      go_roundw
      case rel => exact ⟨j + 1, by omega, by go_num, by rw [HSC.out], u8, by have h := HP8.out; rw [HFIN.out] at h; exact h, HST.out.trans (HSA.out.trans HS8.out)⟩
      case measure => simp [intOf]; omega
    · obtain rfl : j = l.length := by omega
      have HI : Hid (Ints .u8 wr u0 ((encT l).map Int.ofNat)) := by
        refine Lib.hid ?_
        rw [List.take_length] at hp0
        exact hp0.ints (by show ((encT l).map Int.ofNat).length ≤ 100000; have := encT_len HVL.out.ok (by omega); rw [List.length_map]; omega)
      have c0 := HPR.out.1
      clear hp0 hst
      go_wp2_with fail
      exact bodyPost_ret (v := .tuple #[u0, .int .i64 0]) (by simp [results, Try.results6, go_sem]) rfl ⟨u0, rfl, HI.out, HBL.out⟩
theorem Two.refl (R : Nat) (w : World) : Two R w w := ⟨rfl, rfl, rfl, Nat.le_refl _, fun _ _ _ _ => rfl⟩
theorem Two.trans {R : Nat} {a b c : World} (h : Two R a b) (h' : Two R b c) : Two R a c := ⟨h'.os.trans h.os, h'.tape.trans h.tape, h'.output.trans h.output, Nat.le_trans h.size h'.size, fun q hq h1 h2 => (h'.block q (Nat.lt_of_lt_of_le hq h.size) h1 h2).trans (h.block q hq h1 h2)⟩
theorem Two.cell {R : Nat} {a b : World} (h : Two R a b) {q o : Nat} {v : Value} (hq : R + 1 < q) (hc : a.cell? ⟨q, o, none⟩ = some v) : b.cell? ⟨q, o, none⟩ = some v := by
  rw [World.cell?_of_block (h.block q (cell_lt hc) (by omega) (by omega))]; exact hc
theorem Two.free {R : Nat} {a b : World} (h : Two R a b) {q o : Nat} (hl : q < a.heap.size) (hq : R + 1 < q) (hc : a.frozen? ⟨q, o, none⟩ = false) : b.frozen? ⟨q, o, none⟩ = false := by
  rw [World.frozen?_of_block (h.block q hl (by omega) (by omega))]; exact hc
theorem TakeS.alloc {W0 : World} {R : Nat} {r : List Nat} {w : World} (h : TakeS W0 R r w) (o : Obj) : TakeS W0 R r (w.alloc o) := by
  obtain ⟨v, h1, h2⟩ := h.rest
  have hb := (Below.refl w.heap.size w).alloc (Nat.le_refl _) o
  have l0 := cell_lt h1
  have l1 := cell_lt h.ok
  exact ⟨⟨v, below_cell hb l0 h1, h2⟩, by rw [← h.fr]; exact Below.frozen (p := ⟨R, 0, none⟩) hb l0, below_cell hb l1 h.ok, by rw [← h.fo]; exact Below.frozen (p := ⟨R + 1, 0, none⟩) hb l1, below_next h.below h.below.size hb, h.lo⟩
theorem TakeS.set {W0 : World} {R : Nat} {r : List Nat} {w : World} (h : TakeS W0 R r w) {q o : Nat} (hq : R + 1 < q) (v : Value) : TakeS W0 R r (w.setCell ⟨q, o, none⟩ v) := by
  obtain ⟨u, h1, h2⟩ := h.rest
  have e0 := Below.heap_setCell w ⟨q, o, none⟩ v R (by show R ≠ q; omega)
  have e1 := Below.heap_setCell w ⟨q, o, none⟩ v (R + 1) (by show R + 1 ≠ q; omega)
  have hlo := h.lo
  exact ⟨⟨u, by rw [World.cell?_of_block e0]; exact h1, h2⟩, by rw [World.frozen?_of_block e0]; exact h.fr, by rw [World.cell?_of_block e1]; exact h.ok, by rw [World.frozen?_of_block e1]; exact h.fo, below_at h.below (by omega) _ _, hlo⟩
theorem TakeS.drew {W0 : World} {R : Nat} {r : List Nat} {w : World} (h : TakeS W0 R r w) : TakeS W0 R r w.drew := ⟨h.rest, h.fr, h.ok, h.fo, h.below.trans ⟨rfl, rfl, rfl, Nat.le_refl _, fun _ _ => rfl⟩, h.lo⟩
theorem Two.undrew {R : Nat} {w w' : World} (h : Two R w.drew w') : Two R w w' := ⟨h.os, h.tape, h.output, h.size, h.block⟩
def BoxA (X : Nat) (cs : List Value) (w : World) : Prop := cs.length = 5 ∧ X < w.heap.size ∧ ∀ i, i < 5 → w.cell? ⟨X, i, none⟩ = cs[i]? ∧ w.frozen? ⟨X, i, none⟩ = false
theorem BoxA.two {R X : Nat} {cs : List Value} {a b : World} (h : BoxA X cs a) (h2 : Two R a b) (hx : R + 1 < X) : BoxA X cs b :=
  ⟨h.1, Nat.lt_of_lt_of_le h.2.1 h2.size, fun i hi => by
    have e := h2.block X h.2.1 (by omega) (by omega)
    rw [World.cell?_of_block e, World.frozen?_of_block e]; exact h.2.2 i hi⟩
theorem BoxA.set {X i : Nat} {cs : List Value} {a : World} (h : BoxA X cs a) (hi : i < 5) (v : Value) : BoxA X (cs.set i v) (a.setCell ⟨X, i, none⟩ v) := by
  obtain ⟨h1, h2, h3⟩ := h
  refine ⟨by rw [List.length_set]; exact h1, by simpa [World.setCell] using h2, fun k hk => ⟨?_, by rw [World.frozen?_setCell]; exact (h3 k hk).2⟩⟩
  by_cases e : i = k
  · subst e
    have hc := (h3 i hi).1
    rw [List.getElem?_eq_getElem (by omega)] at hc
    rw [World.cell?_setCell_same _ _ _ hc, List.getElem?_set_self (by omega)]
  · rw [List.getElem?_set_ne e, ← (h3 k hk).1]
    exact World.cell?_setCell_other _ _ _ _ (by intro e2; injection e2 with _ e3 _; exact e e3)
def KeepG (B : Nat) (a b : World) : Prop := a.heap.size ≤ b.heap.size ∧ ∀ g, B ≤ g → g < a.heap.size → b.heap[g]? = a.heap[g]?
theorem KeepG.two {R : Nat} {a b c : World} (h : KeepG (R + 2) a b) (h2 : Two R b c) : KeepG (R + 2) a c := ⟨Nat.le_trans h.1 h2.size, fun g h0 h1 => (h2.block g (Nat.lt_of_lt_of_le h1 h.1) (by omega) (by omega)).trans (h.2 g h0 h1)⟩
theorem KeepG.alloc {B : Nat} {a b : World} (h : KeepG B a b) (o : Obj) : KeepG B a (b.alloc o) := ⟨Nat.le_trans h.1 (by simp), fun g h0 h1 => (((Below.refl b.heap.size b).alloc (Nat.le_refl _) o).block g (Nat.lt_of_lt_of_le h1 h.1)).trans (h.2 g h0 h1)⟩
theorem KeepG.set {B X i : Nat} {a b : World} (h : KeepG B a b) (hX : a.heap.size ≤ X) (v : Value) : KeepG B a (b.setCell ⟨X, i, none⟩ v) := ⟨by simpa [World.setCell] using h.1, fun g h0 h1 => (Below.heap_setCell b ⟨X, i, none⟩ v g (by show g ≠ X; omega)).trans (h.2 g h0 h1)⟩
theorem TakeS.grown {W0 : World} {R : Nat} {r : List Nat} {w w' : World} {q : Option Nat} (h : TakeS W0 R r w) (hg : w.grownBy w' q) (hq : ∀ k, q = some k → R + 1 < k) : TakeS W0 R r w' := by
  obtain ⟨u, h1, h2⟩ := h.rest
  have l0 := cell_lt h1
  have l1 := cell_lt h.ok
  have e0 : w'.heap[R]? = w.heap[R]? := hg.block R l0 (fun e => by have := hq R (by first | exact e | exact e.symm); omega)
  have e1 : w'.heap[R + 1]? = w.heap[R + 1]? := hg.block (R + 1) l1 (fun e => by have := hq (R + 1) (by first | exact e | exact e.symm); omega)
  have hlo := h.lo
  exact ⟨⟨u, by rw [World.cell?_of_block e0]; exact h1, h2⟩, by rw [World.frozen?_of_block e0]; exact h.fr, by rw [World.cell?_of_block e1]; exact h.ok, by rw [World.frozen?_of_block e1]; exact h.fo, h.below.grown hg h.below.size (fun k hk => by have := hq k hk; omega), hlo⟩
theorem getD_mem' {out : List Pl} {k : Nat} (h : k < out.length) : out.getD k default ∈ out := by
  rw [List.getD_eq_getElem?_getD, List.getElem?_eq_getElem h]; exact List.getElem_mem h
theorem drop_getD {l : List Pl} {j : Nat} (h : j < l.length) : l.drop j = l.getD j default :: l.drop (j + 1) := by
  rw [List.drop_eq_getElem_cons h, List.getD_eq_getElem?_getD, List.getElem?_eq_getElem h]; rfl
theorem take_getD {l : List Pl} {j : Nat} (h : j < l.length) : l.take (j + 1) = l.take j ++ [l.getD j default] := by
  rw [List.take_succ_eq_append_getElem h, List.getD_eq_getElem?_getD, List.getElem?_eq_getElem h]; rfl
theorem RowG.pls {w : World} {base : Nat} {v : Value} {xs : List Pl} (h : RowG plL w base 32 5 v xs) (hl : xs.length ≤ 64) : Pls w v xs := by
  obtain ⟨a, c, e, h1, h2, h3, h4⟩ := h.slc (fun _ => rfl) (by decide) (by omega)
  refine ⟨a, c, e, h1, h2, h3, fun i hi => ?_⟩
  obtain ⟨b, o, e1, e2, e3⟩ := h4 i hi
  exact ⟨b, o, e1, e2, e3 0 (by decide), e3 1 (by decide), e3 2 (by decide), e3 3 (by decide), e3 4 (by decide)⟩
set_option maxHeartbeats 2000000 in
theorem dec_ok (l : List Pl) (v : Value) (w : World) (hl : traE l = 0) (hv : Ints .u8 w v ((encT l).map Int.ofNat)) : Calls Try.prog 8 #[v] w fun e w' => ∃ u, e = .returned (.tuple #[u, .int .i64 0]) ∧ Pls w' u l ∧ Below w.heap.size w w' := by
  have HVL := Lib.hid (traE_valid hl)
  have HL := Lib.hid hl
  have hlen : l.length ≤ 64 := (traE_valid hl).len
  obtain ⟨ip, hi0, hz0, hz1, hz2⟩ := info_parts info_pl
  have HI0 := Lib.hid hi0
  have HV := Lib.hid hv
  obtain ⟨va, vc, rfl, hvl, hvl2⟩ := hv.shape
  obtain ⟨N, hN⟩ : ∃ N, ((encT l).map Int.ofNat).length = N := ⟨_, rfl⟩
  rw [hN] at HV
  have hN2 : N ≤ 1700 := by rw [← hN, List.length_map]; exact encT_len (traE_valid hl).ok hlen
  obtain ⟨W2, hW2⟩ : ∃ W, (w.alloc (.cells #[.slice va N vc] 25)).alloc (.cells #[.bool false] 4) = W := ⟨_, rfl⟩
  have HT0 : Hid (TakeS w w.heap.size (encT l) W2) := by
    rw [← hW2]
    exact ⟨⟨_, by simp [go_sem], HV.out⟩, by simp [go_sem], by simp [go_sem], by simp [go_sem], ((Below.refl _ _).alloc (Nat.le_refl _) _).alloc (by simp) _, Nat.le_refl _⟩
  have hs2 : W2.heap.size = w.heap.size + 2 := by rw [← hW2]; simp
  rw [hN]
  have h64 : decide ((64 : Int) < (l.length : Int)) = false := by simp; omega
  have HTL : Hid ((encT l).length ≤ 1700) := Lib.hid (encT_len (traE_valid hl).ok hlen)
  have HS2 := Lib.hid hs2
  have HW2 := Lib.hid hW2
  clear hW2
  clear hv hl hi0 hvl hN hs2
  go_enter Try.func8, Try.ntmps8
  go_upto_region 4 with fail
  rw [HW2.out]
  have CT : Hid (Calls Try.prog 19 #[.pointer (some ⟨w.heap.size, 0, none⟩), .pointer (some ⟨w.heap.size + 1, 0, none⟩)] W2 fun e w' => e = .returned (.int .i64 (l.length : Int)) ∧ TakeS w w.heap.size (encL 0 l) w' ∧ Two w.heap.size W2 w') := take_any w w.heap.size l.length (encL 0 l) W2 HT0.out (by omega) (by have := HTL.out; unfold encT at this; omega)
  go_upto_region 9 with (go_at_call 19; with_reducible refine CT.out.mono ?_; rintro e w1 ⟨rfl, ht1, h21⟩; have HT1 := Lib.hid ht1; have H21 := Lib.hid h21; have c1 := ht1.ok; clear ht1 h21)
  go_wp2_with fail
  go_loopw [8, 9, 10, 21] (fun o fr _ i wr => ∃ j : Nat, j ≤ l.length ∧ i = .int .i64 j ∧ fr = .int .i64 (lastF (l.take j)) ∧ RowG plL wr (w.heap.size + 2) 32 5 o (l.take j) ∧ TakeS w w.heap.size (encL (lastF (l.take j)) (l.drop j)) wr) (fun _ _ _ i _ => l.length - (intOf i).toNat)
  case atStart => exact ⟨0, Nat.zero_le _, rfl, rfl, RowG.nil _ _ _ _ _, HT1.out⟩
  case round =>
    obtain ⟨j, hj, rfl, rfl, hrow, hts⟩ := hrel
    have HROW := Lib.hid hrow
    have HTS := Lib.hid hts
    by_cases hjl : j < l.length
    · have hok : (l.getD j default).ok := HVL.out.ok _ (getD_mem' hjl)
      obtain ⟨hf0, hf1⟩ := lastF_le HVL.out hjl
      have HBD := place_bd hok hf0 hf1
      have HSC := Lib.hid (lastF_succ (l := l) hjl)
      have HTK := Lib.hid (take_getD hjl)
      have HLB : Hid ((encL (lastF (l.take j)) (l.drop j)).length ≤ 1600) := by
        have a1 := encL_len (l.drop j) (lastF (l.take j)) hf0 fun x hx => HVL.out.ok x (List.mem_of_mem_drop hx)
        rw [List.length_drop] at a1
        exact Lib.hid (by omega)
      have HEN : Hid (encL (lastF (l.take j)) (l.drop j) = encP (lastF (l.take j)) (l.getD j default) ++ encL (l.getD j default).f (l.drop (j + 1))) := Lib.hid (by rw [drop_getD hjl]; rfl)
      rw [HEN.out] at HLB HTS
      clear HEN
      generalize hTL : encL (l.getD j default).f (l.drop (j + 1)) = TL at *
      have HTLE := Lib.hid hTL
      clear hTL
      generalize l.getD j default = x at *
      generalize lastF (l.take j) = fr at *
      obtain ⟨f, t, v, k, n⟩ := x
      unfold Pl.ok limP at hok
      simp only at hok hf1 HBD HSC
      obtain ⟨d1, e1⟩ : ∃ d : Nat, f - fr = (d : Int) := ⟨(f - fr).toNat, by omega⟩
      obtain ⟨d2, e2⟩ : ∃ d : Nat, t - f = (d : Int) := ⟨(t - f).toNat, by omega⟩
      obtain ⟨vn, rfl⟩ : ∃ d : Nat, v = (d : Int) := ⟨v.toNat, by omega⟩
      obtain ⟨kn, rfl⟩ : ∃ d : Nat, k = (d : Int) := ⟨k.toNat, by omega⟩
      obtain ⟨nn, rfl⟩ : ∃ d : Nat, n = (d : Int) := ⟨n.toNat, by omega⟩
      have hbd : d1 < 34359738368 ∧ d2 < 34359738368 ∧ vn < 34359738368 ∧ kn < 34359738368 ∧ nn < 34359738368 := by
        rw [e1, e2] at HBD
        simpa using HBD
      have g1 : fr + (d1 : Int) = f := by omega
      have g2 : IntKind.i64.wrap (f + (d2 : Int)) = t := by rw [show f + (d2 : Int) = t by omega]; exact IntWalk.i64_in _ (by omega)
      have HBY : Hid (encP fr ⟨f, t, (vn : Int), (kn : Int), (nn : Int)⟩ ++ TL = encV d1 ++ (encV d2 ++ (encV vn ++ (encV kn ++ (encV nn ++ TL))))) := Lib.hid (by unfold encP; simp only [e1, e2, Int.toNat_natCast, List.append_assoc])
      rw [HBY.out] at HLB HTS
      simp only [List.length_append] at HLB
      have HB5 := Lib.hid hbd
      have HLB2 := Lib.hid HLB.out
      have bf : 0 ≤ f ∧ f ≤ 32768 := by omega
      have i0 : (0 : Int) ≤ (j : Int) := by omega
      have i1 : (j : Int) < (l.length : Int) := by omega
      clear hok HBD e1 e2 HBY hbd hrow hts HLB
      have C0 : Hid (Calls Try.prog 19 #[.pointer (some ⟨w.heap.size, 0, none⟩), .pointer (some ⟨w.heap.size + 1, 0, none⟩)] wr fun e w' => e = .returned (.int .i64 (d1 : Int)) ∧ TakeS w w.heap.size (encV d2 ++ (encV vn ++ (encV kn ++ (encV nn ++ TL)))) w' ∧ Two w.heap.size wr w') := take_any w w.heap.size d1 _ wr HTS.out HB5.out.1 (by have := HLB2.out; simp only [List.length_append]; omega)
      go_upto_region 12 with (go_at_call 19; with_reducible refine C0.out.mono ?_; rintro e wa ⟨rfl, hta, h2a⟩; have HTA := Lib.hid hta; have H2A := Lib.hid h2a; clear hta h2a)
      have hXR : w.heap.size + 1 < wa.heap.size := by have := cell_lt HTA.out.ok; omega
      obtain ⟨X, hX⟩ : ∃ X, wa.heap.size = X := ⟨_, rfl⟩
      obtain ⟨W3, hW3⟩ : ∃ W, wa.alloc (.cells #[.int .i64 f, .int .i64 0, .int .i64 0, .int .i64 0, .int .i64 0] 32) = W := ⟨_, rfl⟩
      have HT3 : Hid (TakeS w w.heap.size (encV d2 ++ (encV vn ++ (encV kn ++ (encV nn ++ TL)))) W3) := by rw [← hW3]; exact HTA.out.alloc _
      have hs3 : W3.heap.size = X + 1 := by rw [← hW3, ← hX]; simp
      have HS3 := Lib.hid hs3
      clear hs3
      have HB3 : Hid (Below wa.heap.size wa W3) := by rw [← hW3]; exact (Below.refl _ _).alloc (Nat.le_refl _) _
      have HC3 : Hid (∀ i, i < 5 → W3.cell? ⟨X, i, none⟩ = [Value.int .i64 f, .int .i64 0, .int .i64 0, .int .i64 0, .int .i64 0][i]? ∧ W3.frozen? ⟨X, i, none⟩ = false) := fun i hi => by
        rw [← hW3, ← hX]
        match i, hi with
        | 0, _ => simp [go_sem]
        | 1, _ => simp [go_sem]
        | 2, _ => simp [go_sem]
        | 3, _ => simp [go_sem]
        | 4, _ => simp [go_sem]
      rw [hW3, hX]
      rw [hX] at hXR
      have HX := Lib.hid hX
      have hXs : X < W3.heap.size := by have := HS3.out; omega
      clear hW3 hX
      have C1 : Hid (Calls Try.prog 19 #[.pointer (some ⟨w.heap.size, 0, none⟩), .pointer (some ⟨w.heap.size + 1, 0, none⟩)] W3.drew fun e w' => e = .returned (.int .i64 (d2 : Int)) ∧ TakeS w w.heap.size (encV vn ++ (encV kn ++ (encV nn ++ TL))) w' ∧ Two w.heap.size W3 w') := (take_any w w.heap.size d2 _ W3.drew HT3.out.drew HB5.out.2.1 (by have := HLB2.out; simp only [List.length_append]; omega)).mono fun e w' h => ⟨h.1, h.2.1, h.2.2.undrew⟩
      have HBX : Hid (BoxA X [.int .i64 f, .int .i64 0, .int .i64 0, .int .i64 0, .int .i64 0] W3) := Lib.hid ⟨rfl, hXs, HC3.out⟩
      have HK3 : Hid (KeepG (w.heap.size + 2) wr W3) := Lib.hid ⟨Nat.le_trans H2A.out.size HB3.out.size, fun g h0 h1 => (HB3.out.block g (Nat.lt_of_lt_of_le h1 H2A.out.size)).trans (H2A.out.block g h1 (by omega) (by omega))⟩
      have HXW : Hid (wr.heap.size ≤ X) := Lib.hid (by rw [← HX.out]; exact H2A.out.size)
      have x0 : W3.cell? ⟨X, 0, none⟩ = some (.int .i64 f) := (HC3.out 0 (by decide)).1
      have x1 : W3.cell? ⟨X, 1, none⟩ = some (.int .i64 0) := (HC3.out 1 (by decide)).1
      have f1 : W3.frozen? ⟨X, 1, none⟩ = false := (HC3.out 1 (by decide)).2
      go_region_with (go_at_call 19; with_reducible refine C1.out.mono ?_; rintro e wb ⟨rfl, htb, h2b⟩; have HTB := Lib.hid htb; have H2B := Lib.hid h2b; have y0 := h2b.cell hXR x0; have y1 := h2b.cell hXR x1; have yf := h2b.free hXs hXR f1; clear htb h2b)
      all_goals
        obtain ⟨w4, h4⟩ : ∃ W, wb.setCell ⟨X, 1, none⟩ (.int .i64 t) = W := ⟨_, rfl⟩
        have HT4 : Hid (TakeS w w.heap.size (encV vn ++ (encV kn ++ (encV nn ++ TL))) w4) := by rw [← h4]; exact HTB.out.set hXR _
        have HK4 : Hid (KeepG (w.heap.size + 2) wr w4) := by rw [← h4]; exact (HK3.out.two H2B.out).set HXW.out _
        have HB4 : Hid (BoxA X [.int .i64 f, .int .i64 t, .int .i64 0, .int .i64 0, .int .i64 0] w4) := by rw [← h4]; exact (HBX.out.two H2B.out hXR).set (i := 1) (by decide) _
        rw [h4]
        clear h4 y0 y1 yf x0 x1 f1
        have C4 : Hid (Calls Try.prog 19 #[.pointer (some ⟨w.heap.size, 0, none⟩), .pointer (some ⟨w.heap.size + 1, 0, none⟩)] w4 fun e w' => e = .returned (.int .i64 (vn : Int)) ∧ TakeS w w.heap.size (encV kn ++ (encV nn ++ TL)) w' ∧ Two w.heap.size w4 w') := take_any w w.heap.size vn _ w4 HT4.out HB5.out.2.2.1 (by have := HLB2.out; simp only [List.length_append]; omega)
        have z2 : ∀ wk, Two w.heap.size w4 wk → wk.cell? ⟨X, 2, none⟩ = some (.int .i64 0) ∧ wk.frozen? ⟨X, 2, none⟩ = false := fun wk h => (HB4.out.two h hXR).2.2 2 (by decide)
        have Z2 := Lib.hid z2
        clear z2
        go_upto_region 14 with (go_at_call 19; with_reducible refine C4.out.mono ?_; rintro e wc ⟨rfl, htwc, h2wc⟩; have HTwc := Lib.hid htwc; have H2wc := Lib.hid h2wc; obtain ⟨zc2, zf2⟩ := Z2.out _ h2wc; clear htwc h2wc)
        obtain ⟨w5, h5⟩ : ∃ W, wc.setCell ⟨X, 2, none⟩ (.int .i64 (vn : Int)) = W := ⟨_, rfl⟩
        have HT5 : Hid (TakeS w w.heap.size (encV kn ++ (encV nn ++ TL)) w5) := by rw [← h5]; exact HTwc.out.set hXR _
        have HK5 : Hid (KeepG (w.heap.size + 2) wr w5) := by rw [← h5]; exact (HK4.out.two H2wc.out).set HXW.out _
        have HBB5 : Hid (BoxA X [.int .i64 f, .int .i64 t, .int .i64 (vn : Int), .int .i64 0, .int .i64 0] w5) := by rw [← h5]; exact (HB4.out.two H2wc.out hXR).set (i := 2) (by decide) _
        rw [h5]
        clear h5 zc2 zf2
        have C5 : Hid (Calls Try.prog 19 #[.pointer (some ⟨w.heap.size, 0, none⟩), .pointer (some ⟨w.heap.size + 1, 0, none⟩)] w5 fun e w' => e = .returned (.int .i64 (kn : Int)) ∧ TakeS w w.heap.size (encV nn ++ TL) w' ∧ Two w.heap.size w5 w') := take_any w w.heap.size kn _ w5 HT5.out HB5.out.2.2.2.1 (by have := HLB2.out; simp only [List.length_append]; omega)
        have z3 : ∀ wk, Two w.heap.size w5 wk → wk.cell? ⟨X, 3, none⟩ = some (.int .i64 0) ∧ wk.frozen? ⟨X, 3, none⟩ = false := fun wk h => (HBB5.out.two h hXR).2.2 3 (by decide)
        have Z3 := Lib.hid z3
        clear z3
        go_upto_region 15 with (go_at_call 19; with_reducible refine C5.out.mono ?_; rintro e wd ⟨rfl, htwd, h2wd⟩; have HTwd := Lib.hid htwd; have H2wd := Lib.hid h2wd; obtain ⟨zc3, zf3⟩ := Z3.out _ h2wd; clear htwd h2wd)
        obtain ⟨w6, h6⟩ : ∃ W, wd.setCell ⟨X, 3, none⟩ (.int .i64 (kn : Int)) = W := ⟨_, rfl⟩
        have HT6 : Hid (TakeS w w.heap.size (encV nn ++ TL) w6) := by rw [← h6]; exact HTwd.out.set hXR _
        have HK6 : Hid (KeepG (w.heap.size + 2) wr w6) := by rw [← h6]; exact (HK5.out.two H2wd.out).set HXW.out _
        have HBB6 : Hid (BoxA X [.int .i64 f, .int .i64 t, .int .i64 (vn : Int), .int .i64 (kn : Int), .int .i64 0] w6) := by rw [← h6]; exact (HBB5.out.two H2wd.out hXR).set (i := 3) (by decide) _
        rw [h6]
        clear h6 zc3 zf3
        have C6 : Hid (Calls Try.prog 19 #[.pointer (some ⟨w.heap.size, 0, none⟩), .pointer (some ⟨w.heap.size + 1, 0, none⟩)] w6 fun e w' => e = .returned (.int .i64 (nn : Int)) ∧ TakeS w w.heap.size (TL) w' ∧ Two w.heap.size w6 w') := take_any w w.heap.size nn _ w6 HT6.out HB5.out.2.2.2.2 (by have := HLB2.out; simp only [List.length_append]; omega)
        have z4 : ∀ wk, Two w.heap.size w6 wk → wk.cell? ⟨X, 4, none⟩ = some (.int .i64 0) ∧ wk.frozen? ⟨X, 4, none⟩ = false := fun wk h => (HBB6.out.two h hXR).2.2 4 (by decide)
        have Z4 := Lib.hid z4
        clear z4
        go_upto_region 16 with (go_at_call 19; with_reducible refine C6.out.mono ?_; rintro e we ⟨rfl, htwe, h2we⟩; have HTwe := Lib.hid htwe; have H2we := Lib.hid h2we; obtain ⟨zc4, zf4⟩ := Z4.out _ h2we; clear htwe h2we)
        obtain ⟨w7, h7⟩ : ∃ W, we.setCell ⟨X, 4, none⟩ (.int .i64 (nn : Int)) = W := ⟨_, rfl⟩
        have HT7 : Hid (TakeS w w.heap.size (TL) w7) := by rw [← h7]; exact HTwe.out.set hXR _
        have HK7 : Hid (KeepG (w.heap.size + 2) wr w7) := by rw [← h7]; exact (HK6.out.two H2we.out).set HXW.out _
        have HBB7 : Hid (BoxA X [.int .i64 f, .int .i64 t, .int .i64 (vn : Int), .int .i64 (kn : Int), .int .i64 (nn : Int)] w7) := by rw [← h7]; exact (HBB6.out.two H2we.out hXR).set (i := 4) (by decide) _
        rw [h7]
        clear h7 zc4 zf4
        obtain ⟨⟨q0, -⟩, ⟨q1, -⟩, ⟨q2, -⟩, ⟨q3, -⟩, ⟨q4, -⟩⟩ := (⟨HBB7.out.2.2 0 (by decide), HBB7.out.2.2 1 (by decide), HBB7.out.2.2 2 (by decide), HBB7.out.2.2 3 (by decide), HBB7.out.2.2 4 (by decide)⟩ : _ ∧ _ ∧ _ ∧ _ ∧ _)
        simp only [List.getElem?_cons_zero, List.getElem?_cons_succ] at q0 q1 q2 q3 q4
        obtain ⟨ov, oc, rfl⟩ := HROW.out.shape5
        have hlt' : (l.take j).length ≤ 64 := by rw [List.length_take]; omega
        generalize hLT : l.take j = LT at *
        have HLT := Lib.hid hLT
        clear hLT
        have HOW : Hid (∀ k, (Value.slice ov LT.length oc).ownBlock = some k → w.heap.size + 2 ≤ k) := fun k hk => (ownsRow_own HROW.out k hk).1
        have HRB : Hid (∀ o, RowG plL (w7.alloc o) (w.heap.size + 2) 32 5 (.slice ov LT.length oc) LT) := fun o => ownsRow_at HROW.out fun g hg hlt => (HK7.out.alloc o).2 g (HOW.out g hg) hlt
        have HNW : Hid (∀ o, (w7.alloc o).heap[w7.heap.size]? = some o) := fun o => Array.getElem?_push_size
        have hX7 : X < w7.heap.size := HBB7.out.2.1
        have hne7 : ¬ X = w7.heap.size := by omega
        have hw7 : w.heap.size + 2 ≤ w7.heap.size := by omega
        go_wp2_with (at_builtin; refine wpList_append_lies _ rfl _ _ _ rfl (w.heap.size + 2) 32 ip (.agg #[.int .i64 0, .int .i64 0, .int .i64 0, .int .i64 0, .int .i64 0]) 5 40 Try.underlying22 HI0.out hz0 hz1 hz2 rfl (by decide) (.slice ov LT.length oc) LT.length (LT.flatMap plL) rfl (HRB.out _) ⟨w7.heap.size, 0, none⟩ 1 1 [.int .i64 f, .int .i64 t, .int .i64 (vn : Int), .int .i64 (kn : Int), .int .i64 (nn : Int)] rfl rfl (World.news_of_block (cs := #[.int .i64 f, .int .i64 t, .int .i64 (vn : Int), .int .i64 (kn : Int), .int .i64 (nn : Int)]) (t := 32) (fr := (0, 0)) (HNW.out _)) (by simp [Value.oneCell']) (by decide) (by unfold maxLen; omega) (by omega) (by simp; omega) (w7.heap.size + 1) (by simp) (fun gc capc w9 ho9 hg9 hat9 hl9 => ?_); have HO9 := Lib.hid ho9; have HG9 := Lib.hid hg9; clear ho9 hg9 hat9 hl9)
        go_roundw
        case rel => exact ⟨j + 1, by omega, by go_num, by rw [HSC.out], by rw [HTK.out]; exact RowG.snoc (C := plL) (x := (⟨f, t, (vn : Int), (kn : Int), (nn : Int)⟩ : Pl)) HO9.out, by rw [HSC.out, HTLE.out]; exact (HT7.out.alloc _).grown HG9.out fun k hk => HOW.out k hk⟩
        case measure => simp [intOf]; omega
    · obtain rfl : j = l.length := by omega
      rw [List.take_length] at hrow
      rw [List.drop_length] at hts
      have hP : Pls wr _ l := RowG.pls hrow hlen
      have CV := Lib.hid (pVal24_any l _ wr hP)
      rw [HL.out] at CV
      have HP := Lib.hid hP
      obtain ⟨vr, r0, hir⟩ := hts.rest
      obtain ⟨ra, rc, rfl, _, _⟩ := hir.shape
      have hok := hts.ok
      have HBL := Lib.hid hts.below
      simp only [encL, List.map_nil, List.length_nil] at r0
      clear hrow hts hP hir HROW HTS
      go_wp2_with (go_at_call 7; with_reducible refine CV.out.mono ?_; rintro e w9 ⟨rfl, hb9⟩; have HB9 := Lib.hid hb9; clear hb9)
      exact bodyPost_ret (by simp [results, Try.results8, go_sem]) rfl ⟨_, rfl, HP.out.stays HB9.out, HBL.out.trans (HB9.out.mono HBL.out.size)⟩
end Go.Proofs.Ytgcfadnnajahhaa
namespace Go.Proofs.Ytgcfadnnajahhaa
open Go.RowKit
set_option linter.unusedVariables false
set_option linter.unusedSimpArgs false
theorem plL_flat_len (ys : List Pl) : (ys.flatMap plL).length = ys.length * 5 := by
  induction ys with
  | nil => rfl
  | cons y r ih => rw [List.flatMap_cons, List.length_append, ih, List.length_cons]; show 5 + _ = _; omega
theorem plL_one (ys : List Pl) : ∀ u ∈ ys.flatMap plL, u.oneCell' = true := fun u hu => by
  obtain ⟨y, _, hy⟩ := List.mem_flatMap.1 hu
  simp [plL] at hy
  rcases hy with rfl | rfl | rfl | rfl | rfl <;> rfl
theorem Pls.news {w : World} {ad : Addr} {n c : Nat} {ys : List Pl} (h : Pls w (.slice (some ad) n c) ys) : ∀ (j : Nat) (u : Value), (ys.flatMap plL)[j]? = some u → w.cell? (ad.add j) = some u := by
  obtain ⟨a', c', e, h1, h2, h3, h4⟩ := h
  cases e
  intro j u hj
  have hlt : j < ys.length * 5 := by
    rw [← plL_flat_len]
    exact (List.getElem?_eq_some_iff.1 hj).1
  obtain ⟨b, o, e1, e2, e3⟩ := h4 (j / 5) (by omega)
  cases e1
  have hm := Nat.div_add_mod j 5
  rw [← hm, Nat.mul_comm, flat_get (C := plL) (z := 5) (fun _ => rfl) ys (j / 5) (j % 5) (by omega) (by omega)] at hj
  have e4 : (⟨b, o, none⟩ : Addr).add j = ⟨b, o + j / 5 * 5 + j % 5, none⟩ := by
    show (if j = 0 then (⟨b, o, none⟩ : Addr) else ⟨b, o + j, none⟩) = _
    split
    · subst j; rfl
    · congr 1; omega
  rw [e4]
  obtain ⟨c0, c1, c2, c3, c4⟩ := e3
  have h5 : j % 5 = 0 ∨ j % 5 = 1 ∨ j % 5 = 2 ∨ j % 5 = 3 ∨ j % 5 = 4 := by omega
  rcases h5 with h5 | h5 | h5 | h5 | h5 <;> rw [h5] at hj ⊢ <;> injection hj with hj <;> rw [← hj]
  · exact c0
  · exact c1
  · exact c2
  · exact c3
  · exact c4
theorem rowP_empty (w : World) (base : Nat) (hb : base ≤ w.heap.size) (e : TypeId) : RowG plL (w.alloc (.cells #[] e)) base e 5 (.slice (some ⟨w.heap.size, 0, none⟩) 0 0) [] :=
  ⟨rfl, .inr ⟨w.heap.size, 0, #[], rfl, hb, Array.getElem?_push_size, Nat.le_refl _, Nat.zero_le _, rfl, rfl⟩⟩
theorem appP_any {w : World} {ops : Array Oper} {rest : List Oper} {o : Oper} {a : Act} {Q : Exit → Act → World → Prop} (hgd : o.guard = none) (s x : Operand)
    (ho : o.op = .call { callee := .builtin .append, args := #[s, x], argTypes := #[22, 22] }) (base : Nat) (v : Value) (xs : List Pl) (hs : a.eval s = v) (hown : RowG plL w base 32 5 v xs)
    (u : Value) (ys : List Pl) (hx : a.eval x = u) (hu : Pls w u ys) (hl : xs.length + ys.length ≤ 100000) (hbase : base ≤ w.heap.size)
    (h : ∀ v' w', RowG plL w' base 32 5 v' (xs ++ ys) → Below base w w' → wpList Try.prog ops Q rest (a.put o.dst v') w') : wpList Try.prog ops Q (o :: rest) a w := by
  obtain ⟨ip, hi0, hz0, hz1, hz2⟩ := info_parts info_pl
  obtain ⟨ad, c, e, h1, h2, h3, h4⟩ := id hu
  rcases ad with _ | ad
  · have hc : c = 0 := h3 rfl
    have h0 : ys = [] := List.length_eq_zero_iff.1 (by omega)
    subst h0
    refine wpList_append_own_none hgd s x _ ho base 32 ip 5 Try.underlying22 hi0 v xs.length _ hs hown (hx.trans (by rw [e, hc]; rfl)) ?_
    exact h v w (by rw [List.append_nil]; exact hown) (Below.refl _ _)
  · refine wpList_append_own (P := Try.prog) w hgd s x _ ho base 32 ip (.agg #[.int .i64 0, .int .i64 0, .int .i64 0, .int .i64 0, .int .i64 0]) 5 40 Try.underlying22 hi0 hz0 hz1 hz2 rfl (by decide) v xs.length _ hs hown ad ys.length c (ys.flatMap plL) (hx.trans e) (plL_flat_len ys) (by rw [e] at hu; exact hu.news) (plL_one ys) ?_ ?_ hbase ?_
    · unfold maxLen; omega
    · omega
    · intro v' w' hown' hg _
      exact h v' w' (by unfold RowG; rw [List.length_append, List.flatMap_append]; exact hown') ((Below.refl _ _).grown hg hbase fun k hk => (ownsRow_own hown k hk).1)
end Go.Proofs.Ytgcfadnnajahhaa
namespace Go.Proofs.Ytgcfadnnajahhaa
open Go.RowKit Go.Maps
set_option linter.unusedVariables false
set_option linter.unusedSimpArgs false
theorem kl_intT {P : Program} {t : TypeId} {d : Nat} {q : IntKind} {n : Int} (hu : P.underlying t = some (.int q)) (hw : (Lit.int q n).wf = true) : P.keyLits (d + 1) t [.int q n] = some [.int q n] := by
  unfold Program.keyLits; rw [hu]; simp [hw]
theorem lawT : Keyed Try.prog 54 := Keyed.of_law (deep_law_gate (by kernel_rfl) (of_decide_eq_true (by kernel_rfl)) (of_decide_eq_true (by kernel_rfl)) (by kernel_rfl) (by kernel_rfl))
theorem keyT (a b c : Int) (ha : (Lit.int .i64 a).wf = true) (hb : (Lit.int .i64 b).wf = true) (hc : (Lit.int .i64 c).wf = true) :
    ∃ q, keyOf Try.prog 54 (.agg #[.int .i64 a, .int .i64 b, .int .i64 c]) = some q := by
  have h1 : Try.prog.keyType 54 = true := by kernel_rfl
  have h2 : Try.prog.cellsOf 54 = 3 := by kernel_rfl
  have h3 : Try.prog.cellsOf 3 = 1 := by kernel_rfl
  have h6 : Try.prog.types.size = (Try.prog.types.size - 2) + 2 := by kernel_rfl
  unfold keyOf
  rw [Try.underlying54]
  rw [h6]
  generalize Try.prog.types.size - 2 = n
  simp only [h1, Value.formed, Try.underlying54, h2]
  unfold Program.keyLits
  rw [Try.underlying54]
  simp [h2, h3, Value.cells, kl_intT Try.underlying3, ha, hb, hc]
theorem ents_get (l : List (Value × Value)) (j : Nat) : (ents l)[j]? = (l[j]?).map fun p => (⟨p.1, p.2, j⟩ : MapEntry) := by
  unfold ents
  simp
theorem ents_modify {l : List (Value × Value)} {j : Nat} {k v0 v : Value} (hj : l[j]? = some (k, v0)) : ((ents l).modify j fun e => { e with key := k, val := v }) = ents (l.set j (k, v)) := by
  apply Array.ext_getElem?
  intro i
  rw [Array.getElem?_modify, ents_get, ents_get, List.getElem?_set]
  have hlt : j < l.length := (List.getElem?_eq_some_iff.1 hj).1
  by_cases h : j = i
  · subst h
    rw [if_pos rfl, if_pos rfl, if_pos hlt, hj]
    rfl
  · rw [if_neg h, if_neg h]
theorem update_old {P : Program} {t K E : TypeId} {w : World} {r : Nat} {l : List (Value × Value)} (law : Keyed P K) (ht : P.underlying t = some (.map K E)) (h : MapIs P K w r l) {k v v0 : Value} {q : Lit} {i : Nat} (hk : keyOf P K k = some q) (hi : l[i]? = some (k, v0)) :
    (Instr.mapUpdate t (.map (some r)) k v).run P w = .ok () (setMap w r (ents (l.set i (k, v))) l.length) := by
  obtain ⟨_, h1, h2, h3⟩ := h
  have hb := mapAt_some h1
  rcases law.find w hk (ents l).toList (fun e he => h2 _ (mem_ents he)) with ⟨hrun, hno⟩ | ⟨j, e, hrun, hj, hek⟩
  · refine absurd rfl (hno ⟨k, v0, i⟩ ?_)
    refine List.mem_of_getElem? (i := i) ?_
    have := ents_get l i
    rw [hi] at this
    simpa using this
  · have hj' : (ents l)[j]? = some e := by simpa using hj
    have hj2 := hj'
    rw [ents_get] at hj2
    obtain ⟨p, hp, hpe⟩ := Option.map_eq_some_iff.1 hj2
    have hpk : p.1 = k := by rw [← hek, ← hpe]
    have hij : i = j := by
      have h4 : (l.map (·.1))[i]? = some k := by rw [List.getElem?_map, hi]; rfl
      have h5 : (l.map (·.1))[j]? = some k := by rw [List.getElem?_map, hp]; simp [hpk]
      obtain ⟨h6, h7⟩ := List.getElem?_eq_some_iff.1 h4
      obtain ⟨h8, h9⟩ := List.getElem?_eq_some_iff.1 h5
      have hpw := List.pairwise_iff_getElem.1 h3
      rcases Nat.lt_trichotomy i j with h | h | h
      · exact absurd (h7.trans h9.symm) (hpw i j h6 h8 h)
      · exact h
      · exact absurd (h9.trans h7.symm) (hpw j i h8 h6 h)
    subst hij
    have hm := ents_modify (v := v) hi
    simp [Instr.mapUpdate, run_underlying ht, MapKept.run_getObj_map hb, law.check w _ hk, hrun, hj', hek, law.stays w hk, MapKept.run_setObj_map _ hb, Result.andThen, setMap, hm]
theorem MapIs.old {P : Program} {K : TypeId} {w : World} {r : Nat} {l : List (Value × Value)} (h : MapIs P K w r l) {k v v0 : Value} {i : Nat} (hi : l[i]? = some (k, v0)) : MapIs P K (setMap w r (ents (l.set i (k, v))) l.length) r (l.set i (k, v)) := by
  obtain ⟨h0, h1, h2, h3⟩ := h
  have hm : (l.set i (k, v)).map (·.1) = l.map (·.1) := by
    apply List.ext_getElem?
    intro j
    rw [List.getElem?_map, List.getElem?_map, List.getElem?_set]
    by_cases e : i = j
    · subst e
      rw [if_pos rfl, if_pos (List.getElem?_eq_some_iff.1 hi).1, hi]
      rfl
    · rw [if_neg e]
  refine ⟨by rw [size_setMap]; exact h0, by rw [mapAt_setMap h1]; simp, fun p hp => ?_, by rw [hm]; exact h3⟩
  have hp1 : p.1 ∈ (l.set i (k, v)).map (·.1) := List.mem_map_of_mem hp
  rw [hm] at hp1
  obtain ⟨p', hp', e⟩ := List.mem_map.1 hp1
  rw [← e]
  exact h2 p' hp'
end Go.Proofs.Ytgcfadnnajahhaa
namespace Go.Proofs.Ytgcfadnnajahhaa
set_option linter.unusedVariables false
set_option linter.unusedSimpArgs false
def lastI (out : List Pl) (x : Pl) (k : Nat) : Prop := k < out.length ∧ (out.getD k default).th x ∧ ∀ j, k < j → j < out.length → ¬ (out.getD j default).th x
def Asc (out : List Pl) : Prop := out.Pairwise fun x y => x.f ≤ y.f
theorem getD_mem {out : List Pl} {k : Nat} (h : k < out.length) : out.getD k default ∈ out := by
  rw [List.getD_eq_getElem?_getD, List.getElem?_eq_getElem h]; exact List.getElem_mem h
theorem mstep_none {out : List Pl} {x : Pl} (h : ∀ y ∈ out, ¬ y.th x) : mstep out x = out ++ [x] := by
  unfold mstep
  rw [if_neg (fun ⟨y, hy, h1, _⟩ => h y hy h1)]
theorem mstep_new {out : List Pl} {x : Pl} {k : Nat} (hk : lastI out x k) (hne : (out.getD k default).t ≠ x.f) (ho : ∀ y ∈ out, y.f < y.t) (hx : x.f < x.t) (hm : ∀ y ∈ out, ¬ y.meet x) (hf : ∀ y ∈ out, y.f ≤ x.f) (ap : out.Pairwise fun x y => ¬ x.meet y) (ha : Asc out) : mstep out x = out ++ [x] := by
  unfold mstep
  rw [if_neg]
  rintro ⟨y, hy, h1, h2⟩
  obtain ⟨i, hi, rfl⟩ := List.getElem_of_mem hy
  obtain ⟨hk1, hk2, hk3⟩ := hk
  have ek : out.getD k default = out[k] := by rw [List.getD_eq_getElem?_getD, List.getElem?_eq_getElem hk1]; rfl
  rw [ek] at hne hk2
  rcases Nat.lt_trichotomy i k with h | h | h
  · have a1 := List.pairwise_iff_getElem.1 ap i k hi hk1 h
    have a2 := List.pairwise_iff_getElem.1 ha i k hi hk1 h
    have a3 := hf _ (List.getElem_mem hk1)
    have a4 := ho _ (List.getElem_mem hk1)
    have a5 := ho _ (List.getElem_mem hi)
    have a6 := hm _ (List.getElem_mem hk1)
    unfold Pl.meet at a1 a6
    unfold Pl.th at h1 hk2
    omega
  · subst h; exact hne h2
  · refine hk3 i h hi ?_
    rw [List.getD_eq_getElem?_getD, List.getElem?_eq_getElem hi]
    exact h1
theorem mstep_on {out : List Pl} {x : Pl} {k : Nat} (hk : lastI out x k) (he : (out.getD k default).t = x.f) (ho : ∀ y ∈ out, y.f < y.t) (hx : x.f < x.t) (hm : ∀ y ∈ out, ¬ y.meet x) (hf : ∀ y ∈ out, y.f ≤ x.f) (ap : out.Pairwise fun x y => ¬ x.meet y) (ha : Asc out) : mstep out x = out.set k { out.getD k default with t := x.t } := by
  obtain ⟨hk1, hk2, hk3⟩ := hk
  have ek : out.getD k default = out[k] := by rw [List.getD_eq_getElem?_getD, List.getElem?_eq_getElem hk1]; rfl
  unfold mstep
  rw [if_pos ⟨_, getD_mem hk1, hk2, he⟩]
  apply List.ext_getElem?
  intro i
  rw [List.getElem?_map, List.getElem?_set]
  by_cases h : k = i
  · subst h
    rw [if_pos rfl, if_pos hk1, List.getElem?_eq_getElem hk1, ← ek]
    show some (mext x (out.getD k default)) = _
    unfold mext
    rw [if_pos ⟨hk2, he⟩]
  · rw [if_neg h]
    by_cases hi : i < out.length
    · rw [List.getElem?_eq_getElem hi]
      show some (mext x out[i]) = _
      rw [mext_same]
      rintro ⟨h1, h2⟩
      rw [ek] at hk2 he
      have a3 := hf _ (List.getElem_mem hk1)
      have a4 := ho _ (List.getElem_mem hk1)
      have a5 := ho _ (List.getElem_mem hi)
      have a6 := hf _ (List.getElem_mem hi)
      unfold Pl.th at h1 hk2
      rcases Nat.lt_or_gt_of_ne h with h | h
      · have a1 := List.pairwise_iff_getElem.1 ap k i hk1 hi h
        have a2 := List.pairwise_iff_getElem.1 ha k i hk1 hi h
        unfold Pl.meet at a1
        omega
      · have a1 := List.pairwise_iff_getElem.1 ap i k hi hk1 h
        have a2 := List.pairwise_iff_getElem.1 ha i k hi hk1 h
        unfold Pl.meet at a1
        omega
    · rw [List.getElem?_eq_none (by omega)]; rfl
theorem MInv.low {p out : List Pl} {x : Pl} (h : MInv p out) (hs : ∀ y ∈ p, y.lt x) : ∀ z ∈ out, z.f ≤ x.f := fun z hz => by
  obtain ⟨y, hy, e⟩ := h.fr z hz
  have := hs y hy
  unfold Pl.lt at this; omega
theorem MInv.miss {p out : List Pl} {x : Pl} (h : MInv p out) (hx : x.f < x.t) (hs : ∀ y ∈ p, y.lt x) (ha : ∀ y ∈ p, ¬ y.meet x) : ∀ z ∈ out, ¬ z.meet x := fun z hz hm => by
  obtain ⟨y, hy, ⟨y1, y2, y3⟩, y4, y5⟩ := (h.tell z.v z.k z.n x.f).1 ⟨z, hz, ⟨rfl, rfl, rfl⟩, h.low hs z hz, hm.2.2⟩
  exact ha y hy ⟨by rw [y1, hm.1], by omega, y5⟩
theorem Asc.step {out : List Pl} {x : Pl} (h : Asc out) (hf : ∀ y ∈ out, y.f ≤ x.f) : Asc (mstep out x) := by
  unfold mstep
  split
  · unfold Asc
    rw [List.pairwise_map]
    exact h.imp fun {a b} hab => by rw [(mext_th x a).2.2.2, (mext_th x b).2.2.2]; exact hab
  · exact List.pairwise_append.2 ⟨h, List.pairwise_singleton _ _, fun a ha b hb => by rw [List.mem_singleton.1 hb]; exact hf a ha⟩
theorem valid_take {l : List Pl} (h : ValidP l) (j : Nat) : ValidP (l.take j) := ⟨by rw [List.length_take]; have := h.len; omega, fun x hx => h.ok x (List.mem_of_mem_take hx), h.srt.sublist (List.take_sublist _ _), h.apart.sublist (List.take_sublist _ _)⟩
theorem mrg_succ {l : List Pl} {j : Nat} (hj : j < l.length) : mrg (l.take (j + 1)) = mstep (mrg (l.take j)) (l.getD j default) := by
  unfold mrg
  rw [List.take_succ_eq_append_getElem hj, List.foldl_append, List.getD_eq_getElem?_getD, List.getElem?_eq_getElem hj]
  rfl
theorem take_lt {l : List Pl} {R : Pl → Pl → Prop} (h : l.Pairwise R) {j : Nat} (hj : j < l.length) : ∀ y ∈ l.take j, R y (l.getD j default) := fun y hy => by
  obtain ⟨i, hi, rfl⟩ := List.mem_take_iff_getElem.1 hy
  rw [List.getD_eq_getElem?_getD, List.getElem?_eq_getElem hj]
  exact List.pairwise_iff_getElem.1 h i j (by omega) hj (by omega)
theorem mrg_asc {l : List Pl} (h : ValidP l) : ∀ j, j ≤ l.length → Asc (mrg (l.take j))
  | 0, _ => List.Pairwise.nil
  | j + 1, hj => by
    rw [mrg_succ hj]
    exact (mrg_asc h j (by omega)).step ((mrg_inv (valid_take h j)).low (take_lt h.srt hj))
end Go.Proofs.Ytgcfadnnajahhaa
namespace Go.Proofs.Ytgcfadnnajahhaa
open Go.RowKit Go.Maps
set_option linter.unusedVariables false
set_option linter.unusedSimpArgs false
def thV (x : Pl) : Value := .agg #[.int .i64 x.v, .int .i64 x.k, .int .i64 x.n]
def LastIs (out : List Pl) (m : List (Value × Value)) : Prop :=
  (∀ p ∈ m, ∃ x, ∃ k : Nat, p = (thV x, .int .i64 (k : Int)) ∧ lastI out x k) ∧ ∀ y ∈ out, ∃ k : Nat, (thV y, .int .i64 (k : Int)) ∈ m
theorem thV_th {x y : Pl} : thV x = thV y ↔ x.th y := by
  unfold thV Pl.th
  constructor
  · intro h; injection h with h; simpa using h
  · rintro ⟨h1, h2, h3⟩; rw [h1, h2, h3]
theorem th_symm {x y : Pl} (h : x.th y) : y.th x := ⟨h.1.symm, h.2.1.symm, h.2.2.symm⟩
theorem th_trans {x y z : Pl} (h : x.th y) (h' : y.th z) : x.th z := ⟨h.1.trans h'.1, h.2.1.trans h'.2.1, h.2.2.trans h'.2.2⟩
theorem lastI_congr {out : List Pl} {x y : Pl} {k : Nat} (h : lastI out x k) (e : x.th y) : lastI out y k :=
  ⟨h.1, th_trans h.2.1 e, fun j h1 h2 h3 => h.2.2 j h1 h2 (th_trans h3 (th_symm e))⟩
theorem LastIs.nil : LastIs [] [] := ⟨(fun p h => by cases h), (fun y h => by cases h)⟩
theorem LastIs.hit {out : List Pl} {m : List (Value × Value)} (h : LastIs out m) {x : Pl} (hx : ∃ y ∈ out, y.th x) : ∃ k : Nat, (thV x, .int .i64 (k : Int)) ∈ m ∧ lastI out x k := by
  obtain ⟨y, hy, e⟩ := hx
  obtain ⟨k, hk⟩ := h.2 y hy
  rw [thV_th.2 e] at hk
  obtain ⟨x', k', e', hl⟩ := h.1 _ hk
  injection e' with e1 e2
  injection e2 with _ e2
  have e3 : k = k' := by omega
  subst e3
  exact ⟨k, hk, lastI_congr hl (th_symm (thV_th.1 e1))⟩
theorem LastIs.miss {out : List Pl} {m : List (Value × Value)} (h : LastIs out m) {x : Pl} (hx : ∀ y ∈ out, ¬ y.th x) : ∀ p ∈ m, p.1 ≠ thV x := by
  intro p hp e
  obtain ⟨z, k, rfl, hl⟩ := h.1 p hp
  exact hx _ (getD_mem hl.1) (th_trans hl.2.1 (thV_th.1 e))
theorem getD_app1 {out : List Pl} {x : Pl} {j : Nat} (h : j < out.length) : (out ++ [x]).getD j default = out.getD j default := by
  rw [List.getD_eq_getElem?_getD, List.getElem?_append_left h, ← List.getD_eq_getElem?_getD]
theorem getD_app2 {out : List Pl} {x : Pl} : (out ++ [x]).getD out.length default = x := by
  rw [List.getD_eq_getElem?_getD]; simp
theorem lastI_app {out : List Pl} {x z : Pl} {k : Nat} (h : lastI out z k) (hn : ¬ x.th z) : lastI (out ++ [x]) z k := by
  obtain ⟨h1, h2, h3⟩ := h
  refine ⟨by simp; omega, by rw [getD_app1 h1]; exact h2, fun j hj hl => ?_⟩
  by_cases e : j < out.length
  · rw [getD_app1 e]; exact h3 j hj e
  · obtain rfl : j = out.length := by simp at hl; omega
    rw [getD_app2]; exact hn
theorem lastI_new (out : List Pl) (x : Pl) : lastI (out ++ [x]) x out.length :=
  ⟨by simp, by rw [getD_app2]; exact ⟨rfl, rfl, rfl⟩, fun j h1 h2 => by simp at h2; omega⟩
theorem LastIs.new {out : List Pl} {m : List (Value × Value)} (h : LastIs out m) {x : Pl} (hx : ∀ y ∈ out, ¬ y.th x) : LastIs (out ++ [x]) (m ++ [(thV x, .int .i64 (out.length : Int))]) := by
  refine ⟨fun p hp => ?_, fun y hy => ?_⟩
  · rcases List.mem_append.1 hp with hp | hp
    · obtain ⟨z, k, e, hl⟩ := h.1 p hp
      exact ⟨z, k, e, lastI_app hl fun e => hx _ (getD_mem hl.1) (th_trans hl.2.1 (th_symm e))⟩
    · rw [List.mem_singleton] at hp
      exact ⟨x, out.length, hp, lastI_new out x⟩
  · rcases List.mem_append.1 hy with hy | hy
    · obtain ⟨k, hk⟩ := h.2 y hy
      exact ⟨k, List.mem_append_left _ hk⟩
    · rw [List.mem_singleton] at hy
      subst hy
      exact ⟨out.length, List.mem_append_right _ (List.mem_singleton.2 rfl)⟩
theorem LastIs.old {out : List Pl} {m : List (Value × Value)} (h : LastIs out m) (hnd : (m.map (·.1)).Nodup) {x : Pl} {i : Nat} {v0 : Value} (hi : m[i]? = some (thV x, v0)) : LastIs (out ++ [x]) (m.set i (thV x, .int .i64 (out.length : Int))) := by
  obtain ⟨hil, hie⟩ := List.getElem?_eq_some_iff.1 hi
  refine ⟨fun p hp => ?_, fun y hy => ?_⟩
  · obtain ⟨j, hj, rfl⟩ := List.getElem_of_mem hp
    rw [List.length_set] at hj
    by_cases e : i = j
    · subst e
      rw [List.getElem_set_self]
      exact ⟨x, out.length, rfl, lastI_new out x⟩
    · rw [List.getElem_set_ne e]
      obtain ⟨z, k, e', hl⟩ := h.1 _ (List.getElem_mem hj)
      refine ⟨z, k, e', lastI_app hl fun e2 => ?_⟩
      have hpw := List.pairwise_iff_getElem.1 hnd
      have k1 : (m.map (·.1))[j]'(by simpa using hj) = thV x := by rw [List.getElem_map, e', thV_th.2 e2]
      have k2 : (m.map (·.1))[i]'(by simpa using hil) = thV x := by rw [List.getElem_map, hie]
      rcases Nat.lt_or_gt_of_ne e with h | h
      · exact hpw i j (by simpa using hil) (by simpa using hj) h (k2.trans k1.symm)
      · exact hpw j i (by simpa using hj) (by simpa using hil) h (k1.trans k2.symm)
  · rcases List.mem_append.1 hy with hy | hy
    · obtain ⟨k, hk⟩ := h.2 y hy
      obtain ⟨j, hj, e⟩ := List.getElem_of_mem hk
      by_cases ej : i = j
      · subst ej
        rw [hie] at e
        injection e with e1 _
        exact ⟨out.length, by rw [← e1]; exact List.mem_of_getElem? (i := i) (by rw [List.getElem?_set_self hil])⟩
      · exact ⟨k, List.mem_of_getElem? (i := j) (by rw [List.getElem?_set_ne ej, List.getElem?_eq_getElem hj, e])⟩
    · rw [List.mem_singleton] at hy
      subst hy
      exact ⟨out.length, List.mem_of_getElem? (i := i) (by rw [List.getElem?_set_self hil])⟩
theorem LastIs.on {out : List Pl} {m : List (Value × Value)} (h : LastIs out m) {k : Nat} (hk : k < out.length) (t : Int) : LastIs (out.set k { out.getD k default with t := t }) m := by
  have e : ∀ j, (out.set k { out.getD k default with t := t }).getD j default = if k = j then { out.getD k default with t := t } else out.getD j default := fun j => by
    rw [List.getD_eq_getElem?_getD, List.getElem?_set]
    by_cases e : k = j
    · subst e; rw [if_pos rfl, if_pos hk, if_pos rfl]; rfl
    · rw [if_neg e, if_neg e, ← List.getD_eq_getElem?_getD]
  have et : ∀ j z, ((out.set k { out.getD k default with t := t }).getD j default).th z ↔ (out.getD j default).th z := fun j z => by
    rw [e]
    by_cases e : k = j
    · subst e; rw [if_pos rfl]; exact Iff.rfl
    · rw [if_neg e]
  refine ⟨fun p hp => ?_, fun y hy => ?_⟩
  · obtain ⟨z, k', e', h1, h2, h3⟩ := h.1 p hp
    exact ⟨z, k', e', by rw [List.length_set]; exact h1, (et _ _).2 h2, fun j hj hl h4 => h3 j hj (by rw [List.length_set] at hl; exact hl) ((et _ _).1 h4)⟩
  · obtain ⟨j, hj, rfl⟩ := List.getElem_of_mem hy
    rw [List.length_set] at hj
    by_cases ej : k = j
    · subst ej
      rw [List.getElem_set_self]
      obtain ⟨q, hq⟩ := h.2 _ (getD_mem hk)
      exact ⟨q, hq⟩
    · rw [List.getElem_set_ne ej]
      exact h.2 _ (List.getElem_mem hj)
theorem merge_way {l : List Pl} (hl : ValidP l) {j : Nat} (hj : j < l.length) {m : List (Value × Value)} (hm : LastIs (mrg (l.take j)) m) :
    (∃ k : Nat, (thV (l.getD j default), .int .i64 (k : Int)) ∈ m ∧ k < (mrg (l.take j)).length ∧ ((mrg (l.take j)).getD k default).t = (l.getD j default).f ∧ mrg (l.take (j + 1)) = (mrg (l.take j)).set k { (mrg (l.take j)).getD k default with t := (l.getD j default).t }) ∨
    (∃ k : Nat, (thV (l.getD j default), .int .i64 (k : Int)) ∈ m ∧ k < (mrg (l.take j)).length ∧ ((mrg (l.take j)).getD k default).t ≠ (l.getD j default).f ∧ mrg (l.take (j + 1)) = mrg (l.take j) ++ [l.getD j default]) ∨
    ((∀ p ∈ m, p.1 ≠ thV (l.getD j default)) ∧ (∀ y ∈ mrg (l.take j), ¬ y.th (l.getD j default)) ∧ mrg (l.take (j + 1)) = mrg (l.take j) ++ [l.getD j default]) := by
  have hv := valid_take hl j
  have hi := mrg_inv hv
  have hx := hl.ok _ (List.getElem_mem hj)
  have ex : l.getD j default = l[j] := by rw [List.getD_eq_getElem?_getD, List.getElem?_eq_getElem hj]; rfl
  rw [← ex] at hx
  have h1 := take_lt hl.srt hj
  have h2 := take_lt hl.apart hj
  have hlow := hi.low h1
  have hmiss := hi.miss hx.2.1 h1 h2
  have hasc := mrg_asc hl j (by omega)
  have hok : ∀ y ∈ mrg (l.take j), y.f < y.t := fun y hy => (hi.ok y hy).2.1
  rw [mrg_succ hj]
  by_cases hh : ∃ y ∈ mrg (l.take j), y.th (l.getD j default)
  · obtain ⟨k, hk, hlast⟩ := hm.hit hh
    by_cases ht : ((mrg (l.take j)).getD k default).t = (l.getD j default).f
    · exact .inl ⟨k, hk, hlast.1, ht, mstep_on hlast ht hok hx.2.1 hmiss hlow hi.apart hasc⟩
    · exact .inr (.inl ⟨k, hk, hlast.1, ht, mstep_new hlast ht hok hx.2.1 hmiss hlow hi.apart hasc⟩)
  · have hn : ∀ y ∈ mrg (l.take j), ¬ y.th (l.getD j default) := fun y hy e => hh ⟨y, hy, e⟩
    exact .inr (.inr ⟨hm.miss hn, hn, mstep_none hn⟩)
theorem wf_i64 {x : Int} (h0 : -9223372036854775808 ≤ x) (h1 : x ≤ 9223372036854775807) : (Lit.int .i64 x).wf = true := by simpa [Lit.wf, IntKind.min, IntKind.max, IntKind.signed, IntKind.bits] using And.intro h0 h1
theorem thV_key (x : Pl) (hx : x.ok) : ∃ q, keyOf Try.prog 54 (thV x) = some q := by
  obtain ⟨h1, h2, h3, ⟨h4, h5⟩, ⟨h6, h7⟩, h8, h9⟩ := hx
  have hl : limP x.k ≤ 4294967295 := by unfold limP; split <;> (try split) <;> omega
  exact keyT _ _ _ (wf_i64 (by omega) (by omega)) (wf_i64 (by omega) (by omega)) (wf_i64 (by omega) (by omega))
end Go.Proofs.Ytgcfadnnajahhaa
