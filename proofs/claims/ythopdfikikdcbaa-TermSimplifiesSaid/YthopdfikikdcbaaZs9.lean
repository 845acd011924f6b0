/- The value of a tree: a valid term's value is that of its root's tree; and that of a term with another one in the place of a variable. Plain. -/
import Derived.BigQuiet
import Derived.Deep.QuietTactic
import Derived.Test.YthopdfikikdcbaaZs6
import Derived.Test.YthopdfikikdcbaaZs7
import Derived.Test.YthopdfikikdcbaaZs8
namespace Go.Proofs.Ythopdfikikdcbaa
open Go.RowKit Wd
set_option linter.unusedVariables false
set_option linter.unusedSimpArgs false
def vT (op w i : Int) (env ws xs : List Int) : Int :=
  if op = 0 then i else if op = 33 then env.getD i.toNat 0 else
  if op = 14 then (if coX i (ws.getD 0 0) (xs.getD 0 0) (xs.getD 1 0) = true then 1 else 0) else
  if op = 15 then xs.getD (2 - xs.getD 0 0).toNat 0 else
  if 16 ≤ op then exX op (ws.getD 0 0) w (xs.getD 0 0) else toX op w (xs.getD 0 0) (xs.getD 1 0)
mutual
/-- The value of a tree. -/
def evalT (env : List Int) : Tr → Int
  | .mk op w f l i => vT op w i env (l.map Tr.w) (evalL env l)
def evalL (env : List Int) : List Tr → List Int
  | [] => []
  | t :: l => evalT env t :: evalL env l
end
theorem evalL_eq (env : List Int) : ∀ l, evalL env l = l.map (evalT env)
  | [] => by rw [evalL]; rfl
  | t :: l => by rw [evalL, evalL_eq env l]; rfl
theorem evalT_mk (env : List Int) (op w f : Int) (l : List Tr) (i : Int) : evalT env (.mk op w f l i) = vT op w i env (l.map Tr.w) (l.map (evalT env)) := by rw [evalT, evalL_eq]
theorem valsF_app (ts : List Nd) (env : List Int) (us vs : List Nd) : ∃ m, valsF ts env (us ++ vs) = valsF ts env us ++ m := by
  have key : ∀ (vs : List Nd) (acc : List Int), ∃ m, vs.foldl (fun acc x => acc ++ [vNode ts env acc x]) acc = acc ++ m := by
    intro vs
    induction vs with
    | nil => intro acc; exact ⟨[], by simp⟩
    | cons x vs ih =>
      intro acc
      obtain ⟨m, hm⟩ := ih (acc ++ [vNode ts env acc x])
      exact ⟨[vNode ts env acc x] ++ m, by rw [List.foldl_cons, hm, List.append_assoc]⟩
  unfold valsF
  rw [List.foldl_append]
  exact key vs _
theorem vals_take {ts : List Nd} {env : List Int} {j a : Nat} (hj : j ≤ ts.length) (ha : a < j) : (valsF ts env (ts.take j)).getD a 0 = (vals ts env).getD a 0 := by
  obtain ⟨m, hm⟩ := valsF_app ts env (ts.take j) (ts.drop j)
  rw [List.take_append_drop] at hm
  unfold vals
  rw [hm, getD_app_l (by rw [valsF_take_len hj]; exact ha)]
theorem vals_at {ts : List Nd} {env : List Int} {j : Nat} (hj : j < ts.length) : (vals ts env).getD j 0 = vNode ts env (valsF ts env (ts.take j)) (nd ts j) := by
  rw [← vals_take (j := j + 1) (by omega) (by omega), vals_snoc ts env j hj, getD_app_r (by rw [valsF_take_len (by omega)]; exact Nat.le_refl _), valsF_take_len (by omega), Nat.sub_self]
  rfl
/-- The value of a node is that of its tree. -/
theorem vals_tree {ts : List Nd} {env : List Int} (h : valE ts = 0) (hI : ∀ x ∈ ts, 0 ≤ x.imm ∧ x.imm ≤ 4294967295) (he : EnvOk ts env) : ∀ j, j < ts.length → (vals ts env).getD j 0 = evalT env (tree ts j) := by
  have hd := valid_down h
  intro j
  induction j using Nat.strongRecOn with
  | _ j ih =>
    intro hj
    have hw := vals_words h hI he j (by omega)
    have hx : NodeOk ts j (nd ts j) := nodeOk h hj
    have hdj := hd j hj
    have hvw := fun i hi => vArg_word hx hw (i := i) hi
    have ha : ∀ i, i < (nd ts j).args.length → vArg (valsF ts env (ts.take j)) (nd ts j) i = (((nd ts j).args.map fun a => tree ts a.toNat).map (evalT env)).getD i 0 := by
      intro i hi
      have h1 := hdj _ (mem_getD (l := (nd ts j).args) hi)
      change 0 ≤ (nd ts j).args.getD i 0 ∧ (nd ts j).args.getD i 0 < (j : Int) at h1
      unfold vArg
      rw [vals_take (by omega) (by omega), ih _ (by omega) (by omega), List.map_map, List.getD_eq_getElem?_getD (l := List.map _ _), List.getElem?_map, List.getElem?_eq_getElem hi, List.getD_eq_getElem?_getD, List.getElem?_eq_getElem hi]
      rfl
    have hws : ∀ i, i < (nd ts j).args.length → wdt ts (nd ts j).args i = (((nd ts j).args.map fun a => tree ts a.toNat).map Tr.w).getD i 0 := by
      intro i hi
      rw [kids_w hd hj, wdt_get hi]
    rw [vals_at hj, tree_eq hd hj, evalT_mk]
    have hlen := hx.len
    unfold vNode vT
    rcases arV_cases (nd ts j).op with ⟨c | c, e0⟩ | ⟨⟨c1, c2⟩, e0⟩ | ⟨c, e0⟩ | ⟨⟨c1, c2⟩, e0⟩ | ⟨c, e0⟩
    · rw [if_pos c, if_pos c]
    · have o0 : ¬ (nd ts j).op = 0 := by omega
      rw [if_neg o0, if_neg o0, if_pos c, if_pos c]
    · have o0 : ¬ (nd ts j).op = 0 := by omega
      have o33 : ¬ (nd ts j).op = 33 := by omega
      have o15 : ¬ (nd ts j).op = 15 := by omega
      have o16 : ¬ 16 ≤ (nd ts j).op := by omega
      rw [if_neg o0, if_neg o0, if_neg o33, if_neg o33, hws 0 (by omega), ha 0 (by omega), ha 1 (by omega)]
      by_cases h14 : (nd ts j).op = 14
      · rw [if_pos h14, if_pos h14]
      · rw [if_neg h14, if_neg h14, if_neg o15, if_neg o15, if_neg o16]
    · have o0 : ¬ (nd ts j).op = 0 := by omega
      have o33 : ¬ (nd ts j).op = 33 := by omega
      have o14 : ¬ (nd ts j).op = 14 := by omega
      rw [if_neg o0, if_neg o0, if_neg o33, if_neg o33, if_neg o14, if_neg o14, if_pos c, if_pos c]
      have hl3 : (nd ts j).args.length = 3 := by omega
      obtain ⟨t0, t1, t2⟩ := typed_sel hx.typ c
      have w0 := hvw 0 (by omega)
      rw [t0, show pw 1 = 2 from rfl] at w0
      have hk : (2 - vArg (valsF ts env (ts.take j)) (nd ts j) 0).toNat = 1 ∨ (2 - vArg (valsF ts env (ts.take j)) (nd ts j) 0).toNat = 2 := by omega
      rw [← ha 0 (by omega)]
      rcases hk with hk | hk
      · rw [hk, ha 1 (by omega)]
      · rw [hk, ha 2 (by omega)]
    · have o0 : ¬ (nd ts j).op = 0 := by omega
      have o33 : ¬ (nd ts j).op = 33 := by omega
      have o14 : ¬ (nd ts j).op = 14 := by omega
      have o15 : ¬ (nd ts j).op = 15 := by omega
      rw [if_neg o0, if_neg o0, if_neg o33, if_neg o33, if_neg o14, if_neg o14, if_neg o15, if_neg o15, if_pos c1, if_pos c1, hws 0 (by omega), ha 0 (by omega)]
    · exact absurd e0 hx.ar
theorem evV_tree {ts : List Nd} {env : List Int} (h : vaE ts env = 0) (hI : ∀ x ∈ ts, 0 ≤ x.imm ∧ x.imm ≤ 4294967295) (hE : ∀ x ∈ env, 0 ≤ x ∧ x ≤ 4294967295) : evV ts env = evalT env (tree ts (ts.length - 1)) := by
  obtain ⟨h1, h2⟩ := vaE_zero h
  have := (valid_facts h1).1
  unfold evV
  rw [if_pos h]
  exact vals_tree h1 hI (envOk_of hE h2) _ (by omega)
theorem sub_w {v : Int} {U : Tr} {t : Tr} (hv : t.All (fun op w f i => (op = 33 → i = v → w = U.w) ∧ 0 ≤ i)) : (subT v U t).w = t.w := by
  cases hv with
  | mk v1 v2 =>
    rw [subT_mk]
    split
    · rename_i hc; exact (v1.1 hc.1 hc.2).symm
    · rfl
/-- The value of a tree with another one in the place of a variable. -/
theorem sub_eval {v : Nat} {U : Tr} {env : List Int} (hl : v < env.length) (t : Tr) : t.All (fun op w f i => (op = 33 → i = (v : Int) → w = U.w) ∧ 0 ≤ i) → evalT env (subT (v : Int) U t) = evalT (env.set v (evalT env U)) t := by
  induction t using Tr.ind with
  | _ op w f l i ih =>
    intro hv
    cases hv with
    | mk v1 v2 =>
      rw [subT_mk, evalT_mk]
      by_cases hc : op = 33 ∧ i = (v : Int)
      · rw [if_pos hc]
        obtain ⟨rfl, rfl⟩ := hc
        show _ = vT 33 w (v : Int) _ _ _
        unfold vT
        rw [if_neg (by omega), if_pos rfl, Int.toNat_natCast, List.getD_eq_getElem?_getD, List.getElem?_set_self hl]; rfl
      · rw [if_neg hc, evalT_mk]
        have e1 : (l.map (subT (v : Int) U)).map Tr.w = l.map Tr.w := by
          rw [List.map_map]
          exact List.map_congr_left fun t ht => sub_w (v2 t ht)
        have e2 : (l.map (subT (v : Int) U)).map (evalT env) = l.map (evalT (env.set v (evalT env U))) := by
          rw [List.map_map]
          exact List.map_congr_left fun t ht => ih t ht (v2 t ht)
        rw [e1, e2]
        unfold vT
        by_cases h33 : op = 33
        · have hne : v ≠ i.toNat := fun e => hc ⟨h33, by have := v1.2; omega⟩
          have o0 : ¬ op = 0 := by omega
          rw [if_neg o0, if_neg o0, if_pos h33, if_pos h33, List.getD_eq_getElem?_getD, List.getD_eq_getElem?_getD, List.getElem?_set_ne hne]
        · rw [if_neg h33, if_neg h33]
theorem outP_tree (v : Int) {ts us : List Nd} (h : valE ts = 0) (hu : valE us = 0) : tree (outP v ts us) ((outP v ts us).length - 1) = putT v ts us := by
  obtain ⟨t1, t2, _⟩ := valid_facts h
  obtain ⟨u1, u2, _⟩ := valid_facts hu
  have hp := put1 (putT v ts us) [] Good.nil
  obtain ⟨h1, h2, h3, h4, h5⟩ := put_share (v := v) (valid_down h) (valid_down hu) (by omega) (by omega) rfl
  have htr := (gvis_ok (valid_down h) (gjP (v := v) (valid_down h) (valid_down hu) (by omega)) (ts.length - 1 + 1) (ts.length - 1) (([], List.replicate us.length (-1)), List.replicate ts.length (-1)) (by omega) (by omega) (jp_start v us ts))
  have h6 := htr.1.j.tr _ htr.2
  rw [← h4, shr_tree h1 h3]
  exact h6
/-- What TermMeans states. -/
theorem means_plain {ts us : List Nd} {v : Nat} {env : List Int} (hI : ∀ x ∈ ts, 0 ≤ x.imm ∧ x.imm ≤ 4294967295) (hI' : ∀ x ∈ us, 0 ≤ x.imm ∧ x.imm ≤ 4294967295) (hE : ∀ x ∈ env, 0 ≤ x ∧ x ≤ 4294967295) (hl : env.length = 4) (hv : v < 4)
    (hp : putE (v : Int) ts us = 0) (hu : vaE us env = 0) (ha : vaE (putO (v : Int) ts us) env = 0) (hm : vaE ts (env.set v (evV us env)) = 0) (hE2 : ∀ x ∈ env.set v (evV us env), 0 ≤ x ∧ x ≤ 4294967295) :
    evV (putO (v : Int) ts us) env = evV ts (env.set v (evV us env)) := by
  have h1 : valE ts = 0 := (vaE_zero hm).1
  have h2 : valE us = 0 := (vaE_zero hu).1
  have hw0 : (widL ts).getD v 0 ≠ 0 := fun e => by rw [putE_0 h1 h2 hv e] at hp; omega
  have hw : (nd us (us.length - 1)).width = (widL ts).getD v 0 := by
    by_cases e : (nd us (us.length - 1)).width = (widL ts).getD v 0
    · exact e
    · rw [putE_w h1 h2 hv hw0 e] at hp; omega
  have ho : putO (v : Int) ts us = outP (v : Int) ts us := if_pos hp
  rw [ho] at ha ⊢
  obtain ⟨t1, t2, _⟩ := valid_facts h1
  obtain ⟨u1, u2, _⟩ := valid_facts h2
  rw [evV_tree ha (outP_imm (v : Int) h1 h2 hI hI') hE, evV_tree hm hI hE2, evV_tree hu hI' hE, outP_tree (v : Int) h1 h2]
  unfold putT
  refine sub_eval (by omega) _ (tree_all (valid_down h1) (fun x hx => ⟨fun h33 hiv => ?_, (hI x hx).1⟩) _ (by omega))
  rw [tree_w (valid_down h2) (by omega), hw, ← var_w h1 hI x hx h33, hiv]
  rfl
end Go.Proofs.Ythopdfikikdcbaa
/- Simplified trees: the plain law. -/
namespace Go.Proofs.Ythopdfikikdcbaa
open Go.RowKit Wd
set_option linter.unusedVariables false
set_option linter.unusedSimpArgs false
open Classical
def Tr.op : Tr → Int
  | .mk op _ _ _ _ => op
def Tr.imm : Tr → Int
  | .mk _ _ _ _ i => i
def cst (w n : Int) : Tr := .mk 0 w 0 [] n
/-- What an arithmetic operation is, if it is one of its Args or a constant. -/
noncomputable def idG (op w : Int) (p q : Tr) : Option Tr :=
  if (op = 1 ∨ op = 9 ∨ op = 10) ∧ p.op = 0 ∧ p.imm = 0 then some q else
  if (op = 1 ∨ op = 9 ∨ op = 10) ∧ q.op = 0 ∧ q.imm = 0 then some p else
  if (op = 2 ∨ op = 11 ∨ op = 12 ∨ op = 13) ∧ q.op = 0 ∧ q.imm = 0 then some p else
  if op = 3 ∧ p.op = 0 ∧ p.imm ≤ 1 then some (if p.imm = 0 then p else q) else
  if op = 3 ∧ q.op = 0 ∧ q.imm ≤ 1 then some (if q.imm = 0 then q else p) else
  if op = 8 ∧ p.op = 0 ∧ (p.imm = 0 ∨ p.imm = mkX w) then some (if p.imm = 0 then p else q) else
  if op = 8 ∧ q.op = 0 ∧ (q.imm = 0 ∨ q.imm = mkX w) then some (if q.imm = 0 then q else p) else
  if p = q ∧ (op = 8 ∨ op = 9) then some p else
  if p = q ∧ (op = 10 ∨ op = 2) then some (cst w 0) else none
/-- A node, or what is as good and simpler. -/
noncomputable def simG (op w f : Int) (l : List Tr) (i : Int) : Tr :=
  if l ≠ [] ∧ ∀ t ∈ l, t.op = 0 then cst w (vT op w i [0, 0, 0, 0] (l.map Tr.w) (l.map Tr.imm)) else
  if op = 15 ∧ (l.getD 0 default).op = 0 then l.getD (2 - (l.getD 0 default).imm).toNat default else
  if op = 15 ∧ l.getD 1 default = l.getD 2 default then l.getD 1 default else
  if op = 14 ∧ l.getD 0 default = l.getD 1 default then cst w (if coX i 1 0 0 = true then 1 else 0) else
  if 1 ≤ op ∧ op ≤ 13 then (idG op w (l.getD 0 default) (l.getD 1 default)).getD (.mk op w f l i) else .mk op w f l i
noncomputable def simT : Tr → Tr := mapT simG
theorem simT_mk (op w f : Int) (l : List Tr) (i : Int) : simT (.mk op w f l i) = simG op w f (l.map simT) i := mapT_mk _ _ _ _ _ _
/-- The seven ways of a simplified node. -/
theorem simG_ways (op w f : Int) (l : List Tr) (i : Int) (Q : Tr → Prop)
    (h1 : l ≠ [] → (∀ t ∈ l, t.op = 0) → Q (cst w (vT op w i [0, 0, 0, 0] (l.map Tr.w) (l.map Tr.imm))))
    (h2 : op = 15 → (l.getD 0 default).op = 0 → Q (l.getD (2 - (l.getD 0 default).imm).toNat default))
    (h3 : op = 15 → l.getD 1 default = l.getD 2 default → Q (l.getD 1 default))
    (h4 : op = 14 → l.getD 0 default = l.getD 1 default → Q (cst w (if coX i 1 0 0 = true then 1 else 0)))
    (h5 : ∀ t, 1 ≤ op → op ≤ 13 → idG op w (l.getD 0 default) (l.getD 1 default) = some t → Q t)
    (h6 : Q (.mk op w f l i)) : Q (simG op w f l i) := by
  unfold simG
  by_cases c1 : l ≠ [] ∧ ∀ t ∈ l, t.op = 0
  · rw [if_pos c1]; exact h1 c1.1 c1.2
  rw [if_neg c1]
  by_cases c2 : op = 15 ∧ (l.getD 0 default).op = 0
  · rw [if_pos c2]; exact h2 c2.1 c2.2
  rw [if_neg c2]
  by_cases c3 : op = 15 ∧ l.getD 1 default = l.getD 2 default
  · rw [if_pos c3]; exact h3 c3.1 c3.2
  rw [if_neg c3]
  by_cases c4 : op = 14 ∧ l.getD 0 default = l.getD 1 default
  · rw [if_pos c4]; exact h4 c4.1 c4.2
  rw [if_neg c4]
  by_cases c5 : 1 ≤ op ∧ op ≤ 13
  · rw [if_pos c5]
    cases e : idG op w (l.getD 0 default) (l.getD 1 default) with
    | none => exact h6
    | some t => exact h5 t c5.1 c5.2 e
  · rw [if_neg c5]; exact h6
theorem idG_ways {op w : Int} {p q t : Tr} (h : idG op w p q = some t) (Q : Tr → Prop)
    (h1 : (op = 1 ∨ op = 9 ∨ op = 10) → p.op = 0 → p.imm = 0 → Q q) (h2 : (op = 1 ∨ op = 9 ∨ op = 10 ∨ op = 2 ∨ op = 11 ∨ op = 12 ∨ op = 13) → q.op = 0 → q.imm = 0 → Q p)
    (h3 : op = 3 → p.op = 0 → p.imm ≤ 1 → p.imm = 0 → Q p) (h4 : op = 3 → p.op = 0 → p.imm ≤ 1 → p.imm ≠ 0 → Q q) (h5 : op = 3 → q.op = 0 → q.imm ≤ 1 → q.imm = 0 → Q q) (h6 : op = 3 → q.op = 0 → q.imm ≤ 1 → q.imm ≠ 0 → Q p)
    (h7 : op = 8 → p.op = 0 → p.imm = 0 → Q p) (h8 : op = 8 → p.op = 0 → p.imm = mkX w → Q q) (h9 : op = 8 → q.op = 0 → q.imm = 0 → Q q) (h10 : op = 8 → q.op = 0 → q.imm = mkX w → Q p)
    (h11 : p = q → (op = 8 ∨ op = 9) → Q p) (h12 : p = q → (op = 10 ∨ op = 2) → Q (cst w 0)) : Q t := by
  unfold idG at h
  by_cases c1 : (op = 1 ∨ op = 9 ∨ op = 10) ∧ p.op = 0 ∧ p.imm = 0
  · rw [if_pos c1] at h; cases h; exact h1 c1.1 c1.2.1 c1.2.2
  rw [if_neg c1] at h
  by_cases c2 : (op = 1 ∨ op = 9 ∨ op = 10) ∧ q.op = 0 ∧ q.imm = 0
  · rw [if_pos c2] at h; cases h; exact h2 (by omega) c2.2.1 c2.2.2
  rw [if_neg c2] at h
  by_cases c3 : (op = 2 ∨ op = 11 ∨ op = 12 ∨ op = 13) ∧ q.op = 0 ∧ q.imm = 0
  · rw [if_pos c3] at h; cases h; exact h2 (by omega) c3.2.1 c3.2.2
  rw [if_neg c3] at h
  by_cases c4 : op = 3 ∧ p.op = 0 ∧ p.imm ≤ 1
  · rw [if_pos c4] at h; cases h
    split
    · exact h3 c4.1 c4.2.1 c4.2.2 ‹_›
    · exact h4 c4.1 c4.2.1 c4.2.2 ‹_›
  rw [if_neg c4] at h
  by_cases c5 : op = 3 ∧ q.op = 0 ∧ q.imm ≤ 1
  · rw [if_pos c5] at h; cases h
    split
    · exact h5 c5.1 c5.2.1 c5.2.2 ‹_›
    · exact h6 c5.1 c5.2.1 c5.2.2 ‹_›
  rw [if_neg c5] at h
  by_cases c6 : op = 8 ∧ p.op = 0 ∧ (p.imm = 0 ∨ p.imm = mkX w)
  · rw [if_pos c6] at h; cases h
    split
    · exact h7 c6.1 c6.2.1 ‹_›
    · exact h8 c6.1 c6.2.1 (by have := c6.2.2; omega)
  rw [if_neg c6] at h
  by_cases c7 : op = 8 ∧ q.op = 0 ∧ (q.imm = 0 ∨ q.imm = mkX w)
  · rw [if_pos c7] at h; cases h
    split
    · exact h9 c7.1 c7.2.1 ‹_›
    · exact h10 c7.1 c7.2.1 (by have := c7.2.2; omega)
  rw [if_neg c7] at h
  by_cases c8 : p = q ∧ (op = 8 ∨ op = 9)
  · rw [if_pos c8] at h; cases h; exact h11 c8.1 c8.2
  rw [if_neg c8] at h
  by_cases c9 : p = q ∧ (op = 10 ∨ op = 2)
  · rw [if_pos c9] at h; cases h; exact h12 c9.1 c9.2
  rw [if_neg c9] at h
  cases h

/-! ### what stays -/
/-- A constant is as a node must be. -/
theorem cst_ok {w n : Int} (h1 : 1 ≤ w ∧ w ≤ 32) (h2 : n < pw w) : (cst w n).Ok := by
  refine .mk ?_ rfl (fun t ht => by cases ht)
  unfold shp
  have e : arV 0 = 0 := rfl
  rw [e]
  simp only [List.length_nil, immOk, fit, isW, Bool.and_eq_true, Bool.not_eq_true', decide_eq_true_eq, decide_eq_false_iff_not]
  refine ⟨⟨⟨⟨⟨⟨by decide, by omega⟩, by omega⟩, by decide⟩, by decide⟩, ?_⟩, rfl⟩
  rw [if_pos trivial]
  simp only [Bool.and_eq_true, decide_eq_true_eq]
  exact ⟨h1, h2⟩
theorem Tr.Ok.facts {op w f : Int} {l : List Tr} {i : Int} (h : (Tr.mk op w f l i).Ok) : (l.length : Int) = arV op ∧ (1 ≤ w ∧ w ≤ 32) ∧ f = 0 ∧ immOk ⟨op, w, f, [], i⟩ = true ∧ (op = 14 → w = 1) ∧ arV op ≠ -1 ∧ typ op w (l.map Tr.w) = true ∧ ∀ t ∈ l, t.Ok := by
  cases h with
  | mk h1 h2 h3 =>
    have h9 : shaped 0 ⟨op, w, f, List.replicate l.length (-1), i⟩ = true ∨ True := .inr trivial
    unfold shp at h1
    simp only [Bool.and_eq_true, Bool.not_eq_true', bne_iff_ne, ne_eq, decide_eq_false_iff_not, Bool.and_eq_false_imp, beq_iff_eq, bne_eq_false_iff_eq] at h1
    obtain ⟨⟨⟨⟨⟨⟨h1, h4⟩, h5⟩, h6⟩, h7⟩, h8⟩, h10⟩ := h1
    exact ⟨h7, ⟨by omega, by omega⟩, h6, h8, h10, h1, h2, h3⟩
/-- The widths of the children. -/
theorem typ_kids {op w : Int} {l : List Tr} (h : typ op w (l.map Tr.w) = true) (hl : (l.length : Int) = arV op) :
    (1 ≤ op → op ≤ 13 → (l.getD 0 default).w = w ∧ (l.getD 1 default).w = w) ∧ (op = 14 → (l.getD 0 default).w = (l.getD 1 default).w) ∧ (op = 15 → (l.getD 0 default).w = 1 ∧ (l.getD 1 default).w = w ∧ (l.getD 2 default).w = w) ∧
    (op = 16 ∨ op = 17 → (l.getD 0 default).w < w) ∧ (op = 18 → w < (l.getD 0 default).w) := by
  have hg : ∀ i, i < l.length → (l.map Tr.w).getD i 0 = (l.getD i default).w := fun i hi => by
    rw [List.getD_eq_getElem?_getD, List.getElem?_map, List.getElem?_eq_getElem hi, List.getD_eq_getElem?_getD, List.getElem?_eq_getElem hi]; rfl
  unfold typ at h
  refine ⟨fun h1 h2 => ?_, fun h1 => ?_, fun h1 => ?_, fun h1 => ?_, fun h1 => ?_⟩
  · have e : arV op = 2 := by rcases arV_cases op with h | h | h | h | h <;> omega
    rw [if_pos ⟨h1, h2⟩, hg 0 (by omega), hg 1 (by omega)] at h
    simpa using h
  · subst h1
    have e : arV 14 = 2 := rfl
    rw [if_neg (by omega), if_pos rfl, hg 0 (by omega), hg 1 (by omega)] at h
    simpa using h
  · subst h1
    have e : arV 15 = 3 := rfl
    rw [if_neg (by omega), if_neg (by omega), if_pos rfl, hg 0 (by omega), hg 1 (by omega), hg 2 (by omega)] at h
    simp at h
    exact ⟨h.1.1, h.1.2, h.2⟩
  · have e : arV op = 1 := by rcases arV_cases op with h | h | h | h | h <;> omega
    rw [if_neg (by omega), if_neg (by omega), if_neg (by omega), if_pos h1, hg 0 (by omega)] at h
    simpa using h
  · subst h1
    have e : arV 18 = 1 := rfl
    rw [if_neg (by omega), if_neg (by omega), if_neg (by omega), if_neg (by omega), if_pos rfl, hg 0 (by omega)] at h
    simpa using h
theorem Tr.Ok.const {t : Tr} (h : t.Ok) (h0 : t.op = 0) : ∃ n, t = cst t.w n ∧ t.imm = n ∧ n < pw t.w := by
  obtain ⟨op, w, f, l, i⟩ := t
  have hf := h.facts
  have e0 : op = 0 := h0
  subst e0
  have hl : l = [] := by
    have h1 := hf.1
    have e : arV 0 = 0 := rfl
    rw [e] at h1
    exact List.length_eq_zero_iff.1 (by omega)
  subst hl
  have hi := hf.2.2.2.1
  unfold immOk at hi
  rw [if_pos rfl] at hi
  simp only [Bool.and_eq_true, fit, decide_eq_true_eq] at hi
  exact ⟨i, by unfold cst; rw [hf.2.2.1]; rfl, rfl, hi.2⟩
/-- An environment's words for the variables of a tree; and what its constants hold is not negative. -/
def EnvT (env : List Int) (t : Tr) : Prop := t.All fun op w f i => (op = 33 → 0 ≤ env.getD i.toNat 0 ∧ env.getD i.toNat 0 < pw w) ∧ 0 ≤ i
theorem vT_word {op w i : Int} {env ws xs : List Int} {l : List Tr} (ht : (Tr.mk op w 0 l i).Ok) (hv : (op = 33 → 0 ≤ env.getD i.toNat 0 ∧ env.getD i.toNat 0 < pw w) ∧ 0 ≤ i) (hws : ws = l.map Tr.w) (hx : xs.length = l.length) (hxw : ∀ j, j < l.length → 0 ≤ xs.getD j 0 ∧ xs.getD j 0 < pw (ws.getD j 0)) :
    0 ≤ vT op w i env ws xs ∧ vT op w i env ws xs < pw w := by
  obtain ⟨f1, f2, _, f4, f5, f6, f7, _⟩ := ht.facts
  have hk := typ_kids f7 f1
  have hg : ∀ i, i < l.length → ws.getD i 0 = (l.getD i default).w := fun i hi => by
    rw [hws, List.getD_eq_getElem?_getD, List.getElem?_map, List.getElem?_eq_getElem hi, List.getD_eq_getElem?_getD, List.getElem?_eq_getElem hi]; rfl
  have hp := pw_pos w
  unfold vT
  by_cases o0 : op = 0
  · rw [if_pos o0]
    unfold immOk at f4
    rw [if_pos o0] at f4
    simp only [Bool.and_eq_true, fit, decide_eq_true_eq] at f4
    exact ⟨hv.2, f4.2⟩
  rw [if_neg o0]
  by_cases o33 : op = 33
  · rw [if_pos o33]; exact hv.1 o33
  rw [if_neg o33]
  by_cases o14 : op = 14
  · rw [if_pos o14, f5 o14]
    have : pw 1 = 2 := rfl
    rw [this]
    split <;> omega
  rw [if_neg o14]
  by_cases o15 : op = 15
  · rw [if_pos o15]
    have h3 : arV 15 = 3 := rfl
    have hlen : l.length = 3 := by rw [o15] at f1; omega
    obtain ⟨t0, t1, t2⟩ := hk.2.2.1 o15
    have w0 := hxw 0 (by omega)
    rw [hg 0 (by omega), t0, show pw 1 = 2 from rfl] at w0
    have hk2 : (2 - xs.getD 0 0).toNat = 1 ∨ (2 - xs.getD 0 0).toNat = 2 := by omega
    rcases hk2 with hk2 | hk2
    · rw [hk2]; have := hxw 1 (by omega); rw [hg 1 (by omega), t1] at this; exact this
    · rw [hk2]; have := hxw 2 (by omega); rw [hg 2 (by omega), t2] at this; exact this
  rw [if_neg o15]
  by_cases o16 : 16 ≤ op
  · rw [if_pos o16]; exact exX_word f2.1
  · rw [if_neg o16]
    have hlen : l.length = 2 := by rcases arV_cases op with h | h | h | h | h <;> omega
    exact toX_word (hxw 0 (by omega)).1 (hxw 1 (by omega)).1 f2.1
/-- The value of a tree is a word. -/
theorem eval_word {env : List Int} (t : Tr) : t.Ok → EnvT env t → 0 ≤ evalT env t ∧ evalT env t < pw t.w := by
  induction t using Tr.ind with
  | _ op w f l i ih =>
    intro ht he
    cases he with
    | mk v1 v2 =>
      have hf := ht.facts
      have f0 := hf.2.2.1
      subst f0
      rw [evalT_mk]
      refine vT_word ht v1 rfl (by simp) fun j hj => ?_
      have hm : l.getD j default ∈ l := mem_getD hj
      have h9 := ih _ hm (hf.2.2.2.2.2.2.2 _ hm) (v2 _ hm)
      rw [List.getD_eq_getElem?_getD, List.getElem?_map, List.getElem?_eq_getElem hj, List.getD_eq_getElem?_getD, List.getElem?_map, List.getElem?_eq_getElem hj]
      rw [List.getD_eq_getElem?_getD, List.getElem?_eq_getElem hj] at h9
      exact h9
end Go.Proofs.Ythopdfikikdcbaa
/- Simplified trees are valid and mean the same: the plain law. -/
namespace Go.Proofs.Ythopdfikikdcbaa
open Go.RowKit Wd
set_option linter.unusedVariables false
set_option linter.unusedSimpArgs false
open Classical
/-! ### words -/
theorem pw_zero : pw 0 = 1 := rfl
theorem pw_one : pw 1 = 2 := rfl
theorem toX_tot {op n a b : Int} (ho : 1 ≤ op ∧ op ≤ 13) (hn : 1 ≤ n ∧ n ≤ 32) (ha : a < pw n) (hb : b < pw n) : toX op n a b = tot op n a b := if_pos ((good_iff _ _ _ _).2 ⟨ho.1, ho.2, hn.1, hn.2, ha, hb⟩)
theorem tot_l0 {op n b : Int} (ho : op = 1 ∨ op = 9 ∨ op = 10) (h0 : 0 ≤ b) (h1 : b < pw n) : tot op n 0 b = b := by
  rcases ho with rfl | rfl | rfl
  · show wr n (0 + b) = b; rw [Int.zero_add]; exact wr_small h0 h1
  · show ((((0 : Int).toNat ||| b.toNat : Nat)) : Int) = b
    rw [show (0 : Int).toNat = 0 from rfl, Nat.zero_or]; omega
  · show ((((0 : Int).toNat ^^^ b.toNat : Nat)) : Int) = b
    rw [show (0 : Int).toNat = 0 from rfl, Nat.zero_xor]; omega
theorem tot_r0 {op n a : Int} (ho : op = 1 ∨ op = 9 ∨ op = 10 ∨ op = 2 ∨ op = 11 ∨ op = 12 ∨ op = 13) (hn : 1 ≤ n) (h0 : 0 ≤ a) (h1 : a < pw n) : tot op n a 0 = a := by
  rcases ho with rfl | rfl | rfl | rfl | rfl | rfl | rfl
  · show wr n (a + 0) = a; rw [Int.add_zero]; exact wr_small h0 h1
  · show (((a.toNat ||| (0 : Int).toNat : Nat)) : Int) = a
    rw [show (0 : Int).toNat = 0 from rfl, Nat.or_zero]; omega
  · show (((a.toNat ^^^ (0 : Int).toNat : Nat)) : Int) = a
    rw [show (0 : Int).toNat = 0 from rfl, Nat.xor_zero]; omega
  · show wr n (a - 0) = a; rw [Int.sub_zero]; exact wr_small h0 h1
  · show (if n ≤ 0 then 0 else wr n (a * pw 0)) = a
    rw [if_neg (by omega), pw_zero, Int.mul_one]; exact wr_small h0 h1
  · show (if n ≤ 0 then 0 else a / pw 0) = a
    rw [if_neg (by omega), pw_zero, Int.ediv_one]
  · show (if n ≤ 0 then (if sgn n a < 0 then pw n - 1 else 0) else wr n (sgn n a / pw 0)) = a
    rw [if_neg (by omega), pw_zero, Int.ediv_one, wr_sgn, wr_small h0 h1]
theorem tot_m0l {n b : Int} : tot 3 n 0 b = 0 := by
  show wr n (0 * b) = 0; rw [Int.zero_mul]; exact wr_small (Int.le_refl _) (pw_pos n)
theorem tot_m0r {n a : Int} : tot 3 n a 0 = 0 := by
  show wr n (a * 0) = 0; rw [Int.mul_zero]; exact wr_small (Int.le_refl _) (pw_pos n)
theorem tot_m1l {n b : Int} (h0 : 0 ≤ b) (h1 : b < pw n) : tot 3 n 1 b = b := by
  show wr n (1 * b) = b; rw [Int.one_mul]; exact wr_small h0 h1
theorem tot_m1r {n a : Int} (h0 : 0 ≤ a) (h1 : a < pw n) : tot 3 n a 1 = a := by
  show wr n (a * 1) = a; rw [Int.mul_one]; exact wr_small h0 h1
theorem pw_toNat (n : Int) : (pw n - 1).toNat = 2 ^ n.toNat - 1 := by
  have h := Nat.one_le_two_pow (n := n.toNat)
  have e : pw n = ((2 ^ n.toNat : Nat) : Int) := by unfold pw; simp
  rw [e]; omega
theorem lt_toNat {n a : Int} (h0 : 0 ≤ a) (h1 : a < pw n) : a.toNat < 2 ^ n.toNat := by
  have e : pw n = ((2 ^ n.toNat : Nat) : Int) := by unfold pw; simp
  rw [e] at h1; omega
theorem and_ones_r {n a : Int} (h0 : 0 ≤ a) (h1 : a < pw n) : tot 8 n a (pw n - 1) = a := by
  show ((a.toNat &&& (pw n - 1).toNat : Nat) : Int) = a
  rw [pw_toNat, Nat.and_two_pow_sub_one_of_lt_two_pow (lt_toNat h0 h1)]; omega
theorem and_ones_l {n a : Int} (h0 : 0 ≤ a) (h1 : a < pw n) : tot 8 n (pw n - 1) a = a := by
  show (((pw n - 1).toNat &&& a.toNat : Nat) : Int) = a
  rw [Nat.and_comm, pw_toNat, Nat.and_two_pow_sub_one_of_lt_two_pow (lt_toNat h0 h1)]; omega
theorem and_0l {n b : Int} : tot 8 n 0 b = 0 := by
  show (((0 : Int).toNat &&& b.toNat : Nat) : Int) = 0
  rw [show (0 : Int).toNat = 0 from rfl, Nat.zero_and]; rfl
theorem and_0r {n a : Int} : tot 8 n a 0 = 0 := by
  show ((a.toNat &&& (0 : Int).toNat : Nat) : Int) = 0
  rw [show (0 : Int).toNat = 0 from rfl, Nat.and_zero]; rfl
theorem tot_same {op n a : Int} (ho : op = 8 ∨ op = 9) (h0 : 0 ≤ a) : tot op n a a = a := by
  rcases ho with rfl | rfl
  · show ((a.toNat &&& a.toNat : Nat) : Int) = a; rw [Nat.and_self]; omega
  · show ((a.toNat ||| a.toNat : Nat) : Int) = a; rw [Nat.or_self]; omega
theorem tot_same0 {op n a : Int} (ho : op = 10 ∨ op = 2) : tot op n a a = 0 := by
  rcases ho with rfl | rfl
  · show ((a.toNat ^^^ a.toNat : Nat) : Int) = 0; rw [Nat.xor_self]; rfl
  · show wr n (a - a) = 0; rw [Int.sub_self]; exact wr_small (Int.le_refl _) (pw_pos n)
theorem coX_same {p n a : Int} (hp : 0 ≤ p ∧ p ≤ 9) (hn : 1 ≤ n ∧ n ≤ 32) (ha : a < pw n) : coX p n a a = coX p 1 0 0 := by
  have g1 : goodC p n a a = true := (goodC_iff _ _ _ _).2 ⟨hp.1, hp.2, hn.1, hn.2, ha, ha⟩
  have g2 : goodC p 1 0 0 = true := (goodC_iff _ _ _ _).2 ⟨hp.1, hp.2, by omega, by omega, by decide, by decide⟩
  unfold coX
  rw [g1, g2]
  have h : p = 0 ∨ p = 1 ∨ p = 2 ∨ p = 3 ∨ p = 4 ∨ p = 5 ∨ p = 6 ∨ p = 7 ∨ p = 8 ∨ p = 9 := by omega
  rcases h with rfl | rfl | rfl | rfl | rfl | rfl | rfl | rfl | rfl | rfl <;> simp [cmpV, cmp2]
/-! ### one node -/
section
variable {op w f i : Int} {l : List Tr}
theorem getD_map {α : Type} (g : Tr → α) (d : α) {j : Nat} (h : j < l.length) : (l.map g).getD j d = g (l.getD j default) := by
  rw [List.getD_eq_getElem?_getD, List.getElem?_map, List.getElem?_eq_getElem h, List.getD_eq_getElem?_getD, List.getElem?_eq_getElem h]; rfl
/-- What holds of a node over simplified ones. -/
structure Pre (op w f i : Int) (l : List Tr) : Prop where
  ok : (Tr.mk op w f l i).Ok
  nn : ∀ t ∈ l, t.All fun _ _ _ i => 0 ≤ i
  i0 : 0 ≤ i
theorem Pre.len2 (h : Pre op w f i l) (h1 : 1 ≤ op) (h2 : op ≤ 14) : l.length = 2 := by
  have := h.ok.facts.1
  rcases arV_cases op with h | h | h | h | h <;> omega
theorem Pre.len3 (h : Pre op w f i l) (h1 : op = 15) : l.length = 3 := by
  have := h.ok.facts.1
  have e : arV 15 = 3 := rfl
  rw [h1] at this; omega
theorem Pre.kid (h : Pre op w f i l) {j : Nat} (hj : j < l.length) : l.getD j default ∈ l ∧ (l.getD j default).Ok := ⟨mem_getD hj, h.ok.facts.2.2.2.2.2.2.2 _ (mem_getD hj)⟩
theorem Pre.imm0 (h : Pre op w f i l) {t : Tr} (ht : t ∈ l) : 0 ≤ t.imm := by
  have h1 := h.nn t ht
  cases h1 with
  | mk v1 _ => exact v1
/-- The choice by a constant. -/
theorem Pre.pick (h : Pre op w f i l) (h15 : op = 15) (h0 : (l.getD 0 default).op = 0) : ((l.getD 0 default).imm = 0 ∨ (l.getD 0 default).imm = 1) ∧ ((2 - (l.getD 0 default).imm).toNat = 1 ∨ (2 - (l.getD 0 default).imm).toNat = 2) := by
  have hl := h.len3 h15
  obtain ⟨hm, hk⟩ := h.kid (j := 0) (by omega)
  obtain ⟨n, e1, e2, e3⟩ := hk.const h0
  have ht := (typ_kids h.ok.facts.2.2.2.2.2.2.1 h.ok.facts.1).2.2.1 h15
  rw [ht.1, pw_one] at e3
  have := h.imm0 hm
  omega
theorem vT_zero (h : Pre op w f i l) (hne : l ≠ []) (hc : ∀ t ∈ l, t.op = 0) : 0 ≤ vT op w i [0, 0, 0, 0] (l.map Tr.w) (l.map Tr.imm) ∧ vT op w i [0, 0, 0, 0] (l.map Tr.w) (l.map Tr.imm) < pw w := by
  have f0 := h.ok.facts.2.2.1
  have hok := h.ok
  rw [f0] at hok
  refine vT_word hok ⟨fun h33 => ?_, h.i0⟩ rfl (by simp) fun j hj => ?_
  · exfalso
    have := h.ok.facts.1
    have e : arV 33 = 0 := rfl
    rw [h33, e] at this
    exact hne (List.length_eq_zero_iff.1 (by omega))
  · obtain ⟨hm, hk⟩ := h.kid hj
    obtain ⟨n, e1, e2, e3⟩ := hk.const (hc _ hm)
    rw [getD_map _ _ hj, getD_map _ _ hj]
    have := h.imm0 hm
    omega
theorem sim_ok (h : Pre op w f i l) : (simG op w f l i).Ok ∧ (simG op w f l i).w = w := by
  have hf := h.ok.facts
  have hk := typ_kids hf.2.2.2.2.2.2.1 hf.1
  have hp := pw_pos w
  refine simG_ways op w f l i (fun t => t.Ok ∧ t.w = w) (fun hne hc => ?_) (fun h15 h0 => ?_) (fun h15 he => ?_) (fun h14 he => ?_) (fun t o1 o2 ht => ?_) ⟨h.ok, rfl⟩
  · exact ⟨cst_ok hf.2.1 (vT_zero h hne hc).2, rfl⟩
  · have hl := h.len3 h15
    have ht := hk.2.2.1 h15
    rcases (h.pick h15 h0).2 with e | e
    · rw [e]; exact ⟨(h.kid (by omega)).2, ht.2.1⟩
    · rw [e]; exact ⟨(h.kid (by omega)).2, ht.2.2⟩
  · have hl := h.len3 h15
    exact ⟨(h.kid (by omega)).2, (hk.2.2.1 h15).2.1⟩
  · refine ⟨cst_ok hf.2.1 ?_, rfl⟩
    rw [hf.2.2.2.2.1 h14, pw_one]; split <;> omega
  · have hl := h.len2 o1 (by omega)
    have hw := hk.1 o1 o2
    have P : (l.getD 0 default).Ok ∧ (l.getD 0 default).w = w := ⟨(h.kid (by omega)).2, hw.1⟩
    have Q : (l.getD 1 default).Ok ∧ (l.getD 1 default).w = w := ⟨(h.kid (by omega)).2, hw.2⟩
    exact idG_ways ht (fun t => t.Ok ∧ t.w = w) (fun _ _ _ => Q) (fun _ _ _ => P) (fun _ _ _ _ => P) (fun _ _ _ _ => Q) (fun _ _ _ _ => Q) (fun _ _ _ _ => P) (fun _ _ _ => P) (fun _ _ _ => Q) (fun _ _ _ => Q) (fun _ _ _ => P) (fun _ _ => P) (fun _ _ => ⟨cst_ok hf.2.1 hp, rfl⟩)
theorem cst_all {p : Int → Int → Int → Int → Prop} (hp : ∀ w n, 0 ≤ n → p 0 w 0 n) {w n : Int} (h : 0 ≤ n) : (cst w n).All p := .mk (hp w n h) (fun t ht => by cases ht)
theorem sim_all {p : Int → Int → Int → Int → Prop} (hp : ∀ w n, 0 ≤ n → p 0 w 0 n) (h : Pre op w f i l) (h0 : p op w f i) (hl : ∀ t ∈ l, t.All p) : (simG op w f l i).All p := by
  refine simG_ways op w f l i (fun t => t.All p) (fun hne hc => ?_) (fun h15 h0 => ?_) (fun h15 he => ?_) (fun h14 he => ?_) (fun t o1 o2 ht => ?_) (.mk h0 hl)
  · exact cst_all hp (vT_zero h hne hc).1
  · have hl3 := h.len3 h15
    rcases (h.pick h15 h0).2 with e | e
    · rw [e]; exact hl _ (h.kid (by omega)).1
    · rw [e]; exact hl _ (h.kid (by omega)).1
  · have hl3 := h.len3 h15
    exact hl _ (h.kid (by omega)).1
  · exact cst_all hp (by split <;> omega)
  · have hl2 := h.len2 o1 (by omega)
    have P : (l.getD 0 default).All p := hl _ (h.kid (by omega)).1
    have Q : (l.getD 1 default).All p := hl _ (h.kid (by omega)).1
    exact idG_ways ht (fun t => t.All p) (fun _ _ _ => Q) (fun _ _ _ => P) (fun _ _ _ _ => P) (fun _ _ _ _ => Q) (fun _ _ _ _ => Q) (fun _ _ _ _ => P) (fun _ _ _ => P) (fun _ _ _ => Q) (fun _ _ _ => Q) (fun _ _ _ => P) (fun _ _ => P) (fun _ _ => cst_all hp (Int.le_refl _))
theorem eval_cst (env : List Int) (w n : Int) : evalT env (cst w n) = n := by unfold cst; rw [evalT_mk]; unfold vT; rw [if_pos rfl]
theorem eval_const {env : List Int} {t : Tr} (h : t.Ok) (h0 : t.op = 0) : evalT env t = t.imm := by
  obtain ⟨n, e1, e2, _⟩ := h.const h0
  rw [e1, eval_cst]; rfl
theorem sim_eval {env : List Int} (h : Pre op w f i l) (hE : ∀ t ∈ l, EnvT env t) : evalT env (simG op w f l i) = vT op w i env (l.map Tr.w) (l.map (evalT env)) := by
  have hf := h.ok.facts
  have hk := typ_kids hf.2.2.2.2.2.2.1 hf.1
  have hp := pw_pos w
  have hword : ∀ j, j < l.length → 0 ≤ evalT env (l.getD j default) ∧ evalT env (l.getD j default) < pw (l.getD j default).w := fun j hj => eval_word _ (h.kid hj).2 (hE _ (h.kid hj).1)
  refine simG_ways op w f l i (fun t => evalT env t = vT op w i env (l.map Tr.w) (l.map (evalT env))) (fun hne hc => ?_) (fun h15 h0 => ?_) (fun h15 he => ?_) (fun h14 he => ?_) (fun t o1 o2 ht => ?_) (evalT_mk _ _ _ _ _ _)
  · rw [eval_cst]
    have e : l.map (evalT env) = l.map Tr.imm := List.map_congr_left fun t ht => eval_const (hf.2.2.2.2.2.2.2 t ht) (hc t ht)
    rw [e]
    have h33 : op ≠ 33 := fun h33 => by
      have := hf.1
      have e : arV 33 = 0 := rfl
      rw [h33, e] at this
      exact hne (List.length_eq_zero_iff.1 (by omega))
    unfold vT
    rw [if_neg h33, if_neg h33]
  · subst h15
    have hl3 := h.len3 rfl
    have hpk := h.pick rfl h0
    have e0 : (l.map (evalT env)).getD 0 0 = (l.getD 0 default).imm := by rw [getD_map _ _ (by omega)]; exact eval_const (h.kid (by omega)).2 h0
    show _ = (l.map (evalT env)).getD (2 - (l.map (evalT env)).getD 0 0).toNat 0
    rw [e0]
    rcases hpk.2 with e | e
    · rw [e, getD_map _ _ (by omega)]
    · rw [e, getD_map _ _ (by omega)]
  · subst h15
    have hl3 := h.len3 rfl
    have w0 := hword 0 (by omega)
    rw [(hk.2.2.1 rfl).1, pw_one] at w0
    show _ = (l.map (evalT env)).getD (2 - (l.map (evalT env)).getD 0 0).toNat 0
    rw [getD_map _ _ (show 0 < l.length by omega)]
    have hk2 : (2 - evalT env (l.getD 0 default)).toNat = 1 ∨ (2 - evalT env (l.getD 0 default)).toNat = 2 := by omega
    rcases hk2 with e | e
    · rw [e, getD_map _ _ (by omega)]
    · rw [e, getD_map _ _ (by omega), ← he]
  · subst h14
    have hl2 := h.len2 (by omega) (by omega)
    rw [eval_cst]
    show _ = (if coX i ((l.map Tr.w).getD 0 0) ((l.map (evalT env)).getD 0 0) ((l.map (evalT env)).getD 1 0) = true then 1 else 0)
    rw [getD_map _ _ (show 0 < l.length by omega), getD_map _ _ (show 0 < l.length by omega), getD_map _ _ (show 1 < l.length by omega), ← he]
    have hi9 : i ≤ 9 := by
      have := hf.2.2.2.1
      unfold immOk at this
      rw [if_neg (show ¬ (14 : Int) = 0 by decide), if_neg (show ¬ (14 : Int) = 33 by decide), if_pos rfl] at this
      simpa using this
    obtain ⟨op0, w0, f0, l0, i0, e0⟩ : ∃ op0 w0 f0 l0 i0, l.getD 0 default = .mk op0 w0 f0 l0 i0 := by
      cases l.getD 0 default with
      | mk a b c d e => exact ⟨a, b, c, d, e, rfl⟩
    have hw0 : 1 ≤ (l.getD 0 default).w ∧ (l.getD 0 default).w ≤ 32 := by
      have h9 := (h.kid (show 0 < l.length by omega)).2
      rw [e0] at h9 ⊢
      exact h9.facts.2.1
    rw [coX_same ⟨h.i0, hi9⟩ hw0 (hword 0 (by omega)).2]
  · have hl2 := h.len2 o1 (by omega)
    have hw := hk.1 o1 o2
    have a1 := hword 0 (by omega)
    have b1 := hword 1 (by omega)
    rw [hw.1] at a1
    rw [hw.2] at b1
    have hR : vT op w i env (l.map Tr.w) (l.map (evalT env)) = tot op w (evalT env (l.getD 0 default)) (evalT env (l.getD 1 default)) := by
      unfold vT
      rw [if_neg (by omega), if_neg (by omega), if_neg (by omega), if_neg (by omega), if_neg (by omega), getD_map _ _ (show 0 < l.length by omega), getD_map _ _ (show 1 < l.length by omega)]
      exact toX_tot ⟨o1, o2⟩ hf.2.1 a1.2 b1.2
    have c0 := fun hc => eval_const (env := env) (h.kid (show 0 < l.length by omega)).2 hc
    have c1 := fun hc => eval_const (env := env) (h.kid (show 1 < l.length by omega)).2 hc
    have mk : mkX w = pw w - 1 := if_pos (by unfold isW; exact decide_eq_true hf.2.1)
    rw [hR]
    generalize l.getD 0 default = pp at *
    generalize l.getD 1 default = qq at *
    refine idG_ways ht (fun t => evalT env t = tot op w (evalT env pp) (evalT env qq)) ?_ ?_ ?_ ?_ ?_ ?_ ?_ ?_ ?_ ?_ ?_ ?_
    · intro ho hc hi; rw [c0 hc, hi]; exact (tot_l0 ho b1.1 b1.2).symm
    · intro ho hc hi; rw [c1 hc, hi]; exact (tot_r0 ho hf.2.1.1 a1.1 a1.2).symm
    · intro ho hc _ hi; subst ho; rw [c0 hc, hi]; exact tot_m0l.symm
    · intro ho hc hle hi; subst ho
      have e := c0 hc
      have : pp.imm = 1 := by omega
      rw [e, this]; exact (tot_m1l b1.1 b1.2).symm
    · intro ho hc _ hi; subst ho; rw [c1 hc, hi]; exact tot_m0r.symm
    · intro ho hc hle hi; subst ho
      have e := c1 hc
      have : qq.imm = 1 := by omega
      rw [e, this]; exact (tot_m1r a1.1 a1.2).symm
    · intro ho hc hi; subst ho; rw [c0 hc, hi]; exact and_0l.symm
    · intro ho hc hi; subst ho; rw [c0 hc, hi, mk]; exact (and_ones_l b1.1 b1.2).symm
    · intro ho hc hi; subst ho; rw [c1 hc, hi]; exact and_0r.symm
    · intro ho hc hi; subst ho; rw [c1 hc, hi, mk]; exact (and_ones_r a1.1 a1.2).symm
    · intro he ho; rw [← he]; exact (tot_same ho a1.1).symm
    · intro he ho; rw [eval_cst, ← he]; exact (tot_same0 ho).symm
end
/-! ### all nodes -/
theorem pre_of {op w f i : Int} {l : List Tr} (ht : (Tr.mk op w f l i).Ok) (hn : (Tr.mk op w f l i).All fun _ _ _ i => 0 ≤ i) (ih : ∀ t ∈ l, (simT t).Ok ∧ (simT t).w = t.w ∧ (simT t).All fun _ _ _ i => 0 ≤ i) : Pre op w f i (l.map simT) := by
  cases ht with
  | mk h1 h2 h3 =>
    cases hn with
    | mk v1 v2 =>
      refine ⟨.mk (by rw [List.length_map]; exact h1) ?_ ?_, ?_, v1⟩
      · have e : (l.map simT).map Tr.w = l.map Tr.w := by
          rw [List.map_map]
          exact List.map_congr_left fun t ht => (ih t ht).2.1
        rw [e]; exact h2
      · intro t ht
        obtain ⟨t', ht', rfl⟩ := List.mem_map.1 ht
        exact (ih t' ht').1
      · intro t ht
        obtain ⟨t', ht', rfl⟩ := List.mem_map.1 ht
        exact (ih t' ht').2.2
theorem sim_main (t : Tr) : t.Ok → (t.All fun _ _ _ i => 0 ≤ i) → (simT t).Ok ∧ (simT t).w = t.w ∧ (simT t).All fun _ _ _ i => 0 ≤ i := by
  induction t using Tr.ind with
  | _ op w f l i ih =>
    intro ht hn
    have ih' : ∀ t ∈ l, (simT t).Ok ∧ (simT t).w = t.w ∧ (simT t).All fun _ _ _ i => 0 ≤ i := fun t hm => by
      cases hn with
      | mk v1 v2 => exact ih t hm (ht.facts.2.2.2.2.2.2.2 t hm) (v2 t hm)
    have hp := pre_of ht hn ih'
    rw [simT_mk]
    have h1 := sim_ok hp
    exact ⟨h1.1, h1.2, sim_all (p := fun _ _ _ i => 0 ≤ i) (fun _ _ h => h) hp hp.i0 hp.nn⟩
theorem sim_pre {op w f i : Int} {l : List Tr} (ht : (Tr.mk op w f l i).Ok) (hn : (Tr.mk op w f l i).All fun _ _ _ i => 0 ≤ i) : Pre op w f i (l.map simT) :=
  pre_of ht hn fun t hm => by
    cases hn with
    | mk v1 v2 => exact sim_main t (ht.facts.2.2.2.2.2.2.2 t hm) (v2 t hm)
theorem simT_all {p : Int → Int → Int → Int → Prop} (hp : ∀ w n, 0 ≤ n → p 0 w 0 n) (t : Tr) : t.Ok → (t.All fun _ _ _ i => 0 ≤ i) → t.All p → (simT t).All p := by
  induction t using Tr.ind with
  | _ op w f l i ih =>
    intro ht hn ha
    have hpre := sim_pre ht hn
    rw [simT_mk]
    cases ha with
    | mk a1 a2 =>
      refine sim_all hp hpre a1 fun t hm => ?_
      obtain ⟨t', ht', rfl⟩ := List.mem_map.1 hm
      cases hn with
      | mk v1 v2 => exact ih t' ht' (ht.facts.2.2.2.2.2.2.2 t' ht') (v2 t' ht') (a2 t' ht')
theorem simT_eval {env : List Int} (t : Tr) : t.Ok → (t.All fun _ _ _ i => 0 ≤ i) → EnvT env t → evalT env (simT t) = evalT env t := by
  induction t using Tr.ind with
  | _ op w f l i ih =>
    intro ht hn he
    have hpre := sim_pre ht hn
    cases he with
    | mk a1 a2 =>
      cases hn with
      | mk v1 v2 =>
        rw [simT_mk, sim_eval hpre, evalT_mk]
        · have e1 : (l.map simT).map Tr.w = l.map Tr.w := by
            rw [List.map_map]
            exact List.map_congr_left fun t hm => (sim_main t (ht.facts.2.2.2.2.2.2.2 t hm) (v2 t hm)).2.1
          have e2 : (l.map simT).map (evalT env) = l.map (evalT env) := by
            rw [List.map_map]
            exact List.map_congr_left fun t hm => ih t hm (ht.facts.2.2.2.2.2.2.2 t hm) (v2 t hm) (a2 t hm)
          rw [e1, e2]
        · intro t hm
          obtain ⟨t', ht', rfl⟩ := List.mem_map.1 hm
          exact simT_all (p := fun op w f i => (op = 33 → 0 ≤ env.getD i.toNat 0 ∧ env.getD i.toNat 0 < pw w) ∧ 0 ≤ i) (fun _ _ h => ⟨fun h => by omega, h⟩) t' (ht.facts.2.2.2.2.2.2.2 t' ht') (v2 t' ht') (a2 t' ht')
end Go.Proofs.Ythopdfikikdcbaa
/- Simplified trees have no more parts; what the builder's own step does. Plain. -/
namespace Go.Proofs.Ythopdfikikdcbaa
open Go.RowKit Wd
set_option linter.unusedVariables false
set_option linter.unusedSimpArgs false
open Classical
/-- A part of a tree. -/
inductive Tr.Sub : Tr → Tr → Prop where
  | refl (t : Tr) : Tr.Sub t t
  | kid {s t : Tr} {op w f : Int} {l : List Tr} {i : Int} : t ∈ l → s.Sub t → Tr.Sub s (.mk op w f l i)
theorem Sub_cst {s : Tr} {w n : Int} (h : s.Sub (cst w n)) : s = cst w n := by
  unfold cst at h ⊢
  cases h with
  | refl => rfl
  | kid h _ => cases h
theorem sim_sub {op w f i : Int} {l : List Tr} (h : Pre op w f i l) : ∀ s, s.Sub (simG op w f l i) → s = simG op w f l i ∨ ∃ t ∈ l, s.Sub t := by
  refine simG_ways op w f l i (fun r => ∀ s, s.Sub r → s = r ∨ ∃ t ∈ l, s.Sub t) (fun hne hc s hs => .inl (Sub_cst hs)) (fun h15 h0 s hs => .inr ?_) (fun h15 he s hs => .inr ?_) (fun h14 he s hs => .inl (Sub_cst hs)) (fun t o1 o2 ht => ?_) (fun s hs => ?_)
  · have hl3 := h.len3 h15
    rcases (h.pick h15 h0).2 with e | e
    · rw [e] at hs; exact ⟨_, (h.kid (by omega)).1, hs⟩
    · rw [e] at hs; exact ⟨_, (h.kid (by omega)).1, hs⟩
  · have hl3 := h.len3 h15
    exact ⟨_, (h.kid (by omega)).1, hs⟩
  · have hl2 := h.len2 o1 (by omega)
    have P : ∀ s, s.Sub (l.getD 0 default) → s = l.getD 0 default ∨ ∃ t ∈ l, s.Sub t := fun s hs => .inr ⟨_, (h.kid (by omega)).1, hs⟩
    have Q : ∀ s, s.Sub (l.getD 1 default) → s = l.getD 1 default ∨ ∃ t ∈ l, s.Sub t := fun s hs => .inr ⟨_, (h.kid (by omega)).1, hs⟩
    exact idG_ways ht (fun r => ∀ s, s.Sub r → s = r ∨ ∃ t ∈ l, s.Sub t) (fun _ _ _ => Q) (fun _ _ _ => P) (fun _ _ _ _ => P) (fun _ _ _ _ => Q) (fun _ _ _ _ => Q) (fun _ _ _ _ => P) (fun _ _ _ => P) (fun _ _ _ => Q) (fun _ _ _ => Q) (fun _ _ _ => P) (fun _ _ => P) (fun _ _ s hs => .inl (Sub_cst hs))
  · cases hs with
    | refl => exact .inl rfl
    | kid h1 h2 => exact .inr ⟨_, h1, h2⟩
/-- Each part of a simplified tree is a simplified part. -/
theorem simT_sub (t : Tr) : t.Ok → (t.All fun _ _ _ i => 0 ≤ i) → ∀ s, s.Sub (simT t) → ∃ t', t'.Sub t ∧ s = simT t' := by
  induction t using Tr.ind with
  | _ op w f l i ih =>
    intro ht hn s hs
    have hpre := sim_pre ht hn
    have e := simT_mk op w f l i
    rw [e] at hs
    rcases sim_sub hpre s hs with h | ⟨t1, h1, h2⟩
    · exact ⟨_, .refl _, by rw [e]; exact h⟩
    · obtain ⟨t0, h0, rfl⟩ := List.mem_map.1 h1
      cases hn with
      | mk v1 v2 =>
        obtain ⟨t', h3, h4⟩ := ih t0 h0 (ht.facts.2.2.2.2.2.2.2 t0 h0) (v2 t0 h0) s h2
        exact ⟨t', .kid h0 h3, h4⟩
/-- What is told of a tree: its parts. -/
theorem ins_sub (t : Tr) : ∀ o, Good o → ∀ k, k < (insT t o).1.length → k < o.length ∨ (tree (insT t o).1 k).Sub t := by
  induction t using Tr.ind with
  | _ op w f l i ih =>
    intro o ho k hk
    have key : ∀ (l : List Tr), (∀ t ∈ l, ∀ o, Good o → ∀ k, k < (insT t o).1.length → k < o.length ∨ (tree (insT t o).1 k).Sub t) → ∀ o, Good o → ∀ k, k < (insL l o).1.length → k < o.length ∨ ∃ t ∈ l, (tree (insL l o).1 k).Sub t := by
      intro l
      induction l with
      | nil => intro _ o _ k hk; rw [insL_nil] at hk; exact .inl hk
      | cons t l ih2 =>
        intro h o ho k hk
        rw [insL_cons] at hk ⊢
        have hp := put1 t o ho
        have hl := putL l _ hp.good
        obtain ⟨m, hm⟩ := hl.ext
        rcases ih2 (fun t ht => h t (List.mem_cons_of_mem _ ht)) _ hp.good k hk with h1 | ⟨t', h1, h2⟩
        · rcases h t (List.mem_cons_self ..) o ho k h1 with h2 | h2
          · exact .inl h2
          · refine .inr ⟨t, List.mem_cons_self .., ?_⟩
            show (tree (insL l (insT t o).1).1 k).Sub t
            rw [hm, tree_pre hp.good.down _ h1]; exact h2
        · exact .inr ⟨t', List.mem_cons_of_mem _ h1, h2⟩
    have hp := put1 (.mk op w f l i) o ho
    have hl := putL l o ho
    have htr := hp.tr
    have hlt := hp.lt
    rw [insT_mk] at hk htr hlt ⊢
    obtain ⟨m, hm⟩ := @addN_ext (insL l o).1 ⟨op, w, f, (insL l o).2, i⟩
    by_cases hlt2 : k < (insL l o).1.length
    · rcases key l ih o ho k hlt2 with h1 | ⟨t', h1, h2⟩
      · exact .inl h1
      · refine .inr ?_
        rw [hm, tree_pre hl.good.down _ hlt2]
        exact .kid h1 h2
    · have hnm : (⟨op, w, f, (insL l o).2, i⟩ : Nd) ∉ (insL l o).1 := fun hmem => by
        have e : (addN (insL l o).1 ⟨op, w, f, (insL l o).2, i⟩).1 = (insL l o).1 := by unfold addN; rw [if_pos hmem]
        rw [e] at hk; exact hlt2 hk
      have e : addN (insL l o).1 ⟨op, w, f, (insL l o).2, i⟩ = ((insL l o).1 ++ [⟨op, w, f, (insL l o).2, i⟩], (insL l o).1.length) := by unfold addN; rw [if_neg hnm]
      rw [e] at hk htr ⊢
      simp only [List.length_append, List.length_singleton] at hk
      obtain rfl : k = (insL l o).1.length := by omega
      refine .inr ?_
      show (tree ((insL l o).1 ++ [_]) (insL l o).1.length).Sub _
      rw [htr]
      exact .refl _
theorem sub_told {o : List Nd} (hd : Down o) {s t : Tr} (h : s.Sub t) : ∀ k, k < o.length → tree o k = t → ∃ j, j < o.length ∧ tree o j = s := by
  induction h with
  | refl => intro k hk e; exact ⟨k, hk, e⟩
  | kid hm _ ih =>
    intro k hk e
    rw [tree_eq hd hk] at e
    injection e with e1 e2 e3 e4 e5
    rw [← e4] at hm
    obtain ⟨a, ha, e6⟩ := List.mem_map.1 hm
    have := hd k hk a ha
    exact ih a.toNat (by omega) e6
theorem tree_inj {o : List Nd} (h : Good o) {j k : Nat} (hj : j < o.length) (hk : k < o.length) (e : tree o j = tree o k) : j = k := by
  have h1 := ins_there h j hj
  have h2 := ins_there h k hk
  rw [e, h2] at h1
  exact (congrArg Prod.snd h1).symm
/-- No more nodes. -/
theorem sim_len (t : Tr) (ht : t.Ok) (hn : t.All fun _ _ _ i => 0 ≤ i) : (insT (simT t) []).1.length ≤ (insT t []).1.length := by
  have hp := put1 t [] Good.nil
  have hq := put1 (simT t) [] Good.nil
  have hex : ∀ k, k < (insT (simT t) []).1.length → ∃ j, j < (insT t []).1.length ∧ simT (tree (insT t []).1 j) = tree (insT (simT t) []).1 k := by
    intro k hk
    rcases ins_sub (simT t) [] Good.nil k hk with h | h
    · simp at h
    · obtain ⟨t', h1, h2⟩ := simT_sub t ht hn _ h
      obtain ⟨j, hj, e⟩ := sub_told hp.good.down h1 _ hp.lt hp.tr
      exact ⟨j, hj, by rw [e, h2]⟩
  have hcho : ∃ g : Nat → Nat, ∀ k, k < (insT (simT t) []).1.length → g k < (insT t []).1.length ∧ simT (tree (insT t []).1 (g k)) = tree (insT (simT t) []).1 k := by
    refine ⟨fun k => if h : k < (insT (simT t) []).1.length then Classical.choose (hex k h) else 0, fun k hk => ?_⟩
    simp only [dif_pos hk]
    exact Classical.choose_spec (hex k hk)
  obtain ⟨g, hg⟩ := hcho
  have hnd : ((List.range (insT (simT t) []).1.length).map g).Nodup := by
    rw [List.nodup_iff_pairwise_ne, List.pairwise_map]
    refine List.Pairwise.imp_of_mem ?_ (List.nodup_iff_pairwise_ne.1 List.nodup_range)
    intro a b ha hb hne e
    have h1 := hg a (List.mem_range.1 ha)
    have h2 := hg b (List.mem_range.1 hb)
    rw [e, h2.2] at h1
    exact hne (tree_inj hq.good (List.mem_range.1 ha) (List.mem_range.1 hb) h1.2.symm)
  have hsub : ((List.range (insT (simT t) []).1.length).map g) ⊆ List.range (insT t []).1.length := by
    intro x hx
    obtain ⟨k, hk, rfl⟩ := List.mem_map.1 hx
    exact List.mem_range.2 (hg k (List.mem_range.1 hk)).1
  have := hnd.length_le_of_subset hsub
  simpa using this

/-! ### the builder's step -/
/-- A node is added as its simplified tree. -/
noncomputable def stepS (o : List Nd) (y : Nd) : List Nd × Int :=
  ((insT (simG y.op y.width y.flags (y.args.map fun a => tree o a.toNat) y.imm) o).1, ((insT (simG y.op y.width y.flags (y.args.map fun a => tree o a.toNat) y.imm) o).2 : Int))
theorem insL_there {o : List Nd} (h : Good o) : ∀ (ks : List Int), (∀ a ∈ ks, 0 ≤ a ∧ a < (o.length : Int)) → insL (ks.map fun a => tree o a.toNat) o = (o, ks)
  | [], _ => by rw [List.map_nil, insL_nil]
  | a :: ks, hr => by
    have ha := hr a (List.mem_cons_self ..)
    rw [List.map_cons, insL_cons, ins_there h a.toNat (by omega)]
    simp only
    rw [insL_there h ks (fun b hb => hr b (List.mem_cons_of_mem _ hb))]
    simp only [Prod.mk.injEq, List.cons.injEq, and_true, true_and]
    omega
/-- A tree whose children have been told is added as one node. -/
theorem insT_add {o : List Nd} (h : Good o) {op w f i : Int} {ks : List Int} (hr : ∀ a ∈ ks, 0 ≤ a ∧ a < (o.length : Int)) : insT (.mk op w f (ks.map fun a => tree o a.toNat) i) o = addN o ⟨op, w, f, ks, i⟩ := by
  rw [insT_mk, insL_there h ks hr]
theorem insT_cst {o : List Nd} (w n : Int) : insT (cst w n) o = addN o ⟨0, w, 0, [], n⟩ := by
  unfold cst; rw [insT_mk, insL_nil]
/-- What stepS gives is the tree, and at most one node more. -/
theorem stepS_facts {o : List Nd} (ho : Good o) {y : Nd} (hy : ∀ a ∈ y.args, 0 ≤ a ∧ a < (o.length : Int)) :
    Good (stepS o y).1 ∧ (∃ l, (stepS o y).1 = o ++ l) ∧ 0 ≤ (stepS o y).2 ∧ (stepS o y).2 < ((stepS o y).1.length : Int) ∧
    tree (stepS o y).1 (stepS o y).2.toNat = simG y.op y.width y.flags (y.args.map fun a => tree o a.toNat) y.imm ∧ (Pre y.op y.width y.flags y.imm (y.args.map fun a => tree o a.toNat) → (stepS o y).1.length ≤ o.length + 1) := by
  have hp := put1 (simG y.op y.width y.flags (y.args.map fun a => tree o a.toNat) y.imm) o ho
  refine ⟨hp.good, hp.ext, by show (0 : Int) ≤ ((insT _ o).2 : Int); omega, Int.ofNat_lt.2 hp.lt, by show tree _ (((insT _ o).2 : Int)).toNat = _; rw [Int.toNat_natCast]; exact hp.tr, fun hpre => ?_⟩
  show (insT (simG y.op y.width y.flags (y.args.map fun a => tree o a.toNat) y.imm) o).1.length ≤ _
  have hkid : ∀ j, j < (y.args.map fun a => tree o a.toNat).length → (insT ((y.args.map fun a => tree o a.toNat).getD j default) o).1.length ≤ o.length + 1 := by
    intro j hj
    rw [List.length_map] at hj
    have hm := hy _ (mem_getD (l := y.args) hj)
    change 0 ≤ y.args.getD j 0 ∧ y.args.getD j 0 < (o.length : Int) at hm
    have e : (y.args.map fun a => tree o a.toNat).getD j default = tree o (y.args.getD j 0).toNat := by
      rw [List.getD_eq_getElem?_getD, List.getElem?_map, List.getElem?_eq_getElem hj, List.getD_eq_getElem?_getD, List.getElem?_eq_getElem hj]; rfl
    rw [e, ins_there ho _ (by omega)]
    show o.length ≤ _
    omega
  refine simG_ways y.op y.width y.flags _ y.imm (fun t => (insT t o).1.length ≤ o.length + 1) (fun _ _ => ?_) (fun h15 h0 => ?_) (fun h15 he => ?_) (fun _ _ => ?_) (fun t o1 o2 ht => ?_) ?_
  · rw [insT_cst]; exact addN_grow _ _
  · have hl3 := hpre.len3 h15
    rcases (hpre.pick h15 h0).2 with e | e
    · rw [e]; exact hkid 1 (by omega)
    · rw [e]; exact hkid 2 (by omega)
  · have hl3 := hpre.len3 h15
    exact hkid 1 (by omega)
  · rw [insT_cst]; exact addN_grow _ _
  · have hl2 := hpre.len2 o1 (by omega)
    have P := hkid 0 (by omega)
    have Q := hkid 1 (by omega)
    exact idG_ways ht (fun t => (insT t o).1.length ≤ o.length + 1) (fun _ _ _ => Q) (fun _ _ _ => P) (fun _ _ _ _ => P) (fun _ _ _ _ => Q) (fun _ _ _ _ => Q) (fun _ _ _ _ => P) (fun _ _ _ => P) (fun _ _ _ => Q) (fun _ _ _ => Q) (fun _ _ _ => P) (fun _ _ => P) (fun _ _ => by rw [insT_cst]; exact addN_grow _ _)
  · rw [insT_add ho hy]; exact addN_grow _ _
/-- What is kept on the way. -/
structure JS (ts : List Nd) (o : List Nd) (nos : List Int) : Prop where
  len : nos.length = ts.length
  rng : ∀ k, 0 ≤ gno nos k → gno nos k < o.length
  sz : o.length ≤ cnt nos
  tr : ∀ k, 0 ≤ gno nos k → tree o (gno nos k).toNat = simT (tree ts k)
  good : Good o
/-- What a valid term's node is over its simplified children. -/
theorem JS.pre {ts o : List Nd} {nos : List Int} (h : JS ts o nos) (hv : valE ts = 0) (hI : ∀ x ∈ ts, 0 ≤ x.imm ∧ x.imm ≤ 4294967295) {k : Nat} (hk : k < ts.length) (ha : ∀ a ∈ (nd ts k).args, 0 ≤ gno nos a.toNat) :
    ((gnd ts k nos).args.map fun a => tree o a.toNat) = ((nd ts k).args.map fun a => tree ts a.toNat).map simT ∧ Pre (gnd ts k nos).op (gnd ts k nos).width (gnd ts k nos).flags (gnd ts k nos).imm ((gnd ts k nos).args.map fun a => tree o a.toNat) ∧
    simG (gnd ts k nos).op (gnd ts k nos).width (gnd ts k nos).flags ((gnd ts k nos).args.map fun a => tree o a.toNat) (gnd ts k nos).imm = simT (tree ts k) := by
  have hd := valid_down hv
  obtain ⟨_, _, hS, hT, _⟩ := valid_facts hv
  have e : ((gnd ts k nos).args.map fun a => tree o a.toNat) = ((nd ts k).args.map fun a => tree ts a.toNat).map simT := by
    show (((nd ts k).args.map fun a => gno nos a.toNat).map fun a => tree o a.toNat) = _
    rw [List.map_map, List.map_map]
    exact List.map_congr_left fun a hm => h.tr _ (ha a hm)
  have hok := tree_ok hd hS hT k hk
  have hn : (tree ts k).All fun _ _ _ i => 0 ≤ i := tree_all hd (fun x hx => (hI x hx).1) k hk
  rw [tree_eq hd hk] at hok hn
  rw [e]
  refine ⟨rfl, sim_pre hok hn, ?_⟩
  rw [tree_eq hd hk, simT_mk]
  rfl
theorem gjS {ts : List Nd} (hv : valE ts = 0) (hI : ∀ x ∈ ts, 0 ≤ x.imm ∧ x.imm ≤ 4294967295) : GJ stepS ts (JS ts) :=
  ⟨fun h => h.len, fun {s nos k} h hk hun ha => by
    have hkn : k < nos.length := by rw [h.len]; exact hk
    obtain ⟨_, hpre, he⟩ := h.pre hv hI hk ha
    have hy : ∀ a ∈ (gnd ts k nos).args, 0 ≤ a ∧ a < (s.length : Int) := fun a ha' => by
      obtain ⟨b, hb, rfl⟩ := List.mem_map.1 (show a ∈ (nd ts k).args.map fun a => gno nos a.toNat from ha')
      exact ⟨ha b hb, h.rng _ (ha b hb)⟩
    obtain ⟨f1, ⟨l, f2⟩, f3, f4, f5, f6⟩ := stepS_facts h.good hy
    have f7 := f6 hpre
    rw [he] at f5
    refine ⟨⟨by rw [List.length_set]; exact h.len, fun j hj => ?_, ?_, fun j hj => ?_, f1⟩, f3⟩
    · rcases told_set hkn hj with rfl | ⟨e1, e2, e3⟩
      · rw [gno_set_self hkn]; exact f4
      · rw [e3, f2]
        have := h.rng j e2
        rw [List.length_append]; omega
    · rw [cnt_le_set hkn hun f3]
      have := h.sz
      omega
    · rcases told_set hkn hj with rfl | ⟨e1, e2, e3⟩
      · rw [gno_set_self hkn]; exact f5
      · rw [e3, f2]
        have := h.rng j e2
        rw [tree_pre h.good.down _ (by omega)]
        exact h.tr j e2⟩
theorem js_start (ts : List Nd) : JS ts [] (List.replicate ts.length (-1)) :=
  ⟨by simp, fun k hk => by rw [gno_repl] at hk; omega, by simp, fun k hk => by rw [gno_repl] at hk; omega, Good.nil⟩
/-- The simplified term. -/
noncomputable def outS (ts : List Nd) : List Nd := (insT (simT (tree ts (ts.length - 1))) []).1
theorem sim_share {ts : List Nd} (hv : valE ts = 0) (hI : ∀ x ∈ ts, 0 ≤ x.imm ∧ x.imm ≤ 4294967295) {c : List Nd × List Int} (hc : gvis stepS ts (ts.length - 1 + 1) (ts.length - 1) ([], List.replicate ts.length (-1)) = c) :
    Down c.1 ∧ 0 ≤ gno c.2 (ts.length - 1) ∧ (gno c.2 (ts.length - 1)).toNat < c.1.length ∧ shr c.1 (gno c.2 (ts.length - 1)).toNat = outS ts ∧ c.1.length ≤ ts.length := by
  have h1 := (valid_facts hv).1
  obtain ⟨hw, ht⟩ := gvis_ok (valid_down hv) (gjS hv hI) (ts.length - 1 + 1) (ts.length - 1) ([], List.replicate ts.length (-1)) (by omega) (by omega) (js_start ts)
  rw [hc] at hw ht
  have hj := hw.j
  have hr := hj.rng _ ht
  refine ⟨hj.good.down, ht, by omega, ?_, ?_⟩
  · rw [shr_ins hj.good.down (by omega), hj.tr _ ht]; rfl
  · have h2 := hj.sz
    have h3 := cnt_le c.2
    have h4 := hj.len
    omega
/-- What TermSimplifies states. -/
theorem outS_facts {ts : List Nd} (hv : valE ts = 0) (hI : ∀ x ∈ ts, 0 ≤ x.imm ∧ x.imm ≤ 4294967295) :
    valE (outS ts) = 0 ∧ (outS ts).length ≤ (shr ts (ts.length - 1)).length ∧ (nd (outS ts) ((outS ts).length - 1)).width = (nd (shr ts (ts.length - 1)) ((shr ts (ts.length - 1)).length - 1)).width ∧ (∀ x ∈ outS ts, 0 ≤ x.imm ∧ x.imm ≤ 4294967295) ∧
    ∀ env, (∀ x ∈ env, 0 ≤ x ∧ x ≤ 4294967295) → vaE ts env = 0 → vaE (outS ts) env = 0 → evV ts env = evV (outS ts) env := by
  obtain ⟨t1, t2, hS, hT, wl, hwl⟩ := valid_facts hv
  have hd := valid_down hv
  have hok := tree_ok hd hS hT (ts.length - 1) (by omega)
  have hn : (tree ts (ts.length - 1)).All fun _ _ _ i => 0 ≤ i := tree_all hd (fun x hx => (hI x hx).1) _ (by omega)
  obtain ⟨m1, m2, m3⟩ := sim_main _ hok hn
  have hp := put1 (simT (tree ts (ts.length - 1))) [] Good.nil
  have hall := shr_allok m1
  obtain ⟨s1, s2, s3, s4, s5⟩ := sim_share hv hI rfl
  have htree : tree (outS ts) ((outS ts).length - 1) = simT (tree ts (ts.length - 1)) := by
    have h6 := (gvis_ok hd (gjS hv hI) (ts.length - 1 + 1) (ts.length - 1) ([], List.replicate ts.length (-1)) (by omega) (by omega) (js_start ts))
    rw [← s4, shr_tree s1 s3]
    exact h6.1.j.tr _ h6.2
  have hlen1 : 1 ≤ (outS ts).length := by have := hp.lt; show 1 ≤ (insT _ []).1.length; omega
  have hshr := shr_ins hd (show ts.length - 1 < ts.length by omega)
  have hle : (outS ts).length ≤ (shr ts (ts.length - 1)).length := by rw [hshr]; exact sim_len _ hok hn
  have hle2 := shr_len hd (show ts.length - 1 < ts.length by omega)
  have himm : ∀ x ∈ outS ts, 0 ≤ x.imm ∧ x.imm ≤ 4294967295 := by
    intro x hx
    have h0 := insT_all (p := fun _ _ _ i => 0 ≤ i) _ [] m3 (fun x hx => by cases hx) x hx
    obtain ⟨i, hi, rfl⟩ := List.getElem_of_mem hx
    have hsh := shaped_facts (hall.shaped hp.good.down hi)
    have hix : nd (insT (simT (tree ts (ts.length - 1))) []).1 i = (outS ts)[i] := by
      show (outS ts).getD i default = _
      rw [List.getD_eq_getElem?_getD, List.getElem?_eq_getElem hi]; rfl
    rw [hix] at hsh
    refine ⟨h0, ?_⟩
    have hq := hsh.2.2.2.2.1
    have hw := hsh.2.2.1
    unfold immOk at hq
    by_cases o0 : (outS ts)[i].op = 0
    · rw [if_pos o0] at hq
      simp only [Bool.and_eq_true, fit, decide_eq_true_eq] at hq
      exact word_le hw.2 hq.2
    · rw [if_neg o0] at hq
      by_cases o33 : (outS ts)[i].op = 33
      · rw [if_pos o33] at hq; have := of_decide_eq_true hq; omega
      · rw [if_neg o33] at hq
        by_cases o14 : (outS ts)[i].op = 14
        · rw [if_pos o14] at hq; have := of_decide_eq_true hq; omega
        · rw [if_neg o14] at hq
          have : (outS ts)[i].imm = 0 := by simpa using hq
          omega
  have hvar := insT_all (p := fun op w f i => op = 33 → (widL ts).getD i.toNat 0 = w) (simT (tree ts (ts.length - 1))) [] (simT_all (fun _ _ _ h => by omega) _ hok hn (tree_all hd (fun x hx h33 => var_w hv hI x hx h33) _ (by omega))) (fun x hx => by cases hx)
  have hS2 : okS (outS ts) = true := hall.okS hp.good.down
  have hT2 : okT (outS ts) = true := hall.okT hp.good.down
  have hval : valE (outS ts) = 0 := by
    refine valE_0 (by omega) hS2 hT2 (wmap_calm (fun x hx => (himm x hx).1) (fun i hi => okS_at hS2 hi) ?_)
    intro k hk i hi
    rw [Bool.eq_false_iff]
    intro hc
    obtain ⟨c1, c2, c3, c4⟩ := (clash_iff _ _).1 hc
    have h1 := hvar _ (mem_getD (l := outS ts) (show i < _ by omega)) c1
    have h2 := hvar _ (mem_getD (l := outS ts) hk) c2
    apply c4
    rw [← h1, ← h2, c3]
  refine ⟨hval, hle, ?_, himm, ?_⟩
  · have hr := shr_root hd (show ts.length - 1 < ts.length by omega)
    have hgd : Down (outS ts) := hp.good.down
    rw [← tree_w hgd (show (outS ts).length - 1 < (outS ts).length by omega), ← tree_w (shr_down hd (by omega)) (by omega), shr_tree hd (by omega)]
    rw [htree, m2]
  · intro env hE he1 he2
    rw [evV_tree he1 hI hE, evV_tree he2 himm hE, htree]
    have hen := envOk_of hE (vaE_zero he1).2
    refine (simT_eval _ hok hn (tree_all hd (fun x hx => ⟨fun h33 => ?_, (hI x hx).1⟩) _ (by omega))).symm
    have hvw := var_w hv hI x hx h33
    obtain ⟨i, hi, rfl⟩ := List.getElem_of_mem hx
    have hsh := shaped_facts (okS_at hS hi)
    rw [List.getD_eq_getElem?_getD, List.getElem?_eq_getElem hi] at hsh
    have h4 := hsh.2.2.2.2.2.1 h33
    have h5 := hen.2 (ts[i]).imm.toNat (by have := (hI _ hx).1; change (ts[i]).imm < 4 at h4; omega)
    rw [hvw] at h5
    have hw := hsh.2.2.1
    change 1 ≤ (ts[i]).width ∧ _ at hw
    exact ⟨h5.1, h5.2.2 (by omega)⟩
end Go.Proofs.Ythopdfikikdcbaa
/- Walk of Over: the Args of a copy counted from a number on. -/
namespace Go.Proofs.Ythopdfikikdcbaa
open Go.RowKit Go.Maps Wd
set_option linter.unusedVariables false
set_option linter.unusedSimpArgs false
/-- The first i Args counted from f on. -/
def shA (l : List Int) (f i : Nat) : List Int := (l.take i).map (· + (f : Int)) ++ l.drop i
theorem shA_len (l : List Int) (f i : Nat) : (shA l f i).length = l.length := by
  unfold shA
  rw [List.length_append, List.length_map, List.length_take, List.length_drop]; omega
theorem shA_zero (l : List Int) (f : Nat) : shA l f 0 = l := by simp [shA]
theorem shA_all (l : List Int) (f : Nat) : shA l f l.length = l.map (· + (f : Int)) := by simp [shA]
theorem shA_get {l : List Int} {f i : Nat} (h : i < l.length) : (shA l f i).getD i 0 = l.getD i 0 := by
  unfold shA
  rw [getD_app_r (by simp; omega)]
  rw [List.length_map, List.length_take, Nat.min_eq_left (by omega), Nat.sub_self, List.getD_eq_getElem?_getD, List.getElem?_drop, List.getD_eq_getElem?_getD, Nat.add_zero]
theorem shA_next {l : List Int} {f i : Nat} (h : i < l.length) : (shA l f i).set i (l.getD i 0 + (f : Int)) = shA l f (i + 1) := by
  unfold shA
  rw [List.set_append_right _ _ (by simp; omega), List.length_map, List.length_take, Nat.min_eq_left (by omega), Nat.sub_self, List.drop_eq_getElem_cons h, List.set_cons_zero, List.take_succ_eq_append_getElem h, List.map_append, List.append_assoc,
    List.getD_eq_getElem?_getD, List.getElem?_eq_getElem h]
  rfl
def shN (x : Nd) (f i : Nat) : Nd := ⟨x.op, x.width, x.flags, shA x.args f i, x.imm⟩
/-- The nodes before k are done, of the node k the first i Args. -/
def cur (ts : List Nd) (f k i : Nat) : List Nd := (List.range ts.length).map fun m => shN (nd ts m) f (if m < k then (nd ts m).args.length else if m = k then i else 0)
theorem cur_len (ts : List Nd) (f k i : Nat) : (cur ts f k i).length = ts.length := by simp [cur]
theorem cur_get {ts : List Nd} {f k i m : Nat} (h : m < ts.length) : (cur ts f k i).getD m default = shN (nd ts m) f (if m < k then (nd ts m).args.length else if m = k then i else 0) := by
  unfold cur
  rw [List.getD_eq_getElem?_getD, List.getElem?_map, List.getElem?_range h]; rfl
theorem cur_at {ts : List Nd} {f k i : Nat} (h : k < ts.length) : (cur ts f k i).getD k default = shN (nd ts k) f i := by
  rw [cur_get h, if_neg (by omega), if_pos rfl]
theorem ext_nd {a b : List Nd} (h : a.length = b.length) (hg : ∀ i, i < a.length → a.getD i default = b.getD i default) : a = b := by
  apply List.ext_getElem h
  intro i h1 h2
  have := hg i h1
  rw [List.getD_eq_getElem?_getD, List.getD_eq_getElem?_getD, List.getElem?_eq_getElem h1, List.getElem?_eq_getElem h2] at this
  exact this
theorem cur_start (ts : List Nd) (f : Nat) : cur ts f 0 0 = ts := by
  refine ext_nd (cur_len _ _ _ _) fun i hi => ?_
  rw [cur_len] at hi
  rw [cur_get hi]
  have e : (if i < 0 then (nd ts i).args.length else if i = 0 then 0 else 0) = 0 := by rw [if_neg (by omega)]; split <;> rfl
  rw [e]
  unfold shN
  rw [shA_zero]; rfl
theorem cur_row {ts : List Nd} {f k : Nat} (h : k < ts.length) : cur ts f k (nd ts k).args.length = cur ts f (k + 1) 0 := by
  refine ext_nd (by rw [cur_len, cur_len]) fun i hi => ?_
  rw [cur_len] at hi
  rw [cur_get hi, cur_get hi]
  congr 1
  by_cases h1 : i < k
  · rw [if_pos h1, if_pos (by omega)]
  · by_cases h2 : i = k
    · subst h2; rw [if_neg h1, if_pos rfl, if_pos (by omega)]
    · rw [if_neg h1, if_neg h2, if_neg (by omega)]; split <;> rfl
theorem cur_next {ts : List Nd} {f k i : Nat} (h : k < ts.length) (hi : i < (nd ts k).args.length) :
    (cur ts f k i).set k ⟨(shN (nd ts k) f i).op, (shN (nd ts k) f i).width, (shN (nd ts k) f i).flags, (shN (nd ts k) f i).args.set i ((nd ts k).args.getD i 0 + (f : Int)), (shN (nd ts k) f i).imm⟩ = cur ts f k (i + 1) := by
  refine ext_nd (by rw [List.length_set, cur_len, cur_len]) fun m hm => ?_
  rw [List.length_set, cur_len] at hm
  by_cases e : k = m
  · subst e
    rw [List.getD_eq_getElem?_getD (l := (cur ts f k i).set k _), List.getElem?_set_self (by rw [cur_len]; exact h), cur_at h]
    unfold shN
    simp only
    rw [shA_next hi]; rfl
  · rw [List.getD_eq_getElem?_getD (l := (cur ts f k i).set k _), List.getElem?_set_ne e, ← List.getD_eq_getElem?_getD, cur_get hm, cur_get hm]
    congr 1
    by_cases h1 : m < k
    · rw [if_pos h1, if_pos h1]
    · rw [if_neg h1, if_neg h1, if_neg (fun h => e h.symm), if_neg (fun h => e h.symm)]
theorem cur_end (ts : List Nd) (f : Nat) : cur ts f ts.length 0 = ovr ts f := by
  refine ext_nd (by rw [cur_len, ovr_len]) fun i hi => ?_
  rw [cur_len] at hi
  rw [cur_get hi, if_pos hi, ovr_nd hi]
  unfold shN
  rw [shA_all]
set_option maxRecDepth 100000 in
set_option maxHeartbeats 2000000 in
theorem rOver (ts : List Nd) (tv : Value) (f : Nat) (w : World) (ht : Nds w tv ts) (hl : ts.length ≤ 1000) (hn : ∀ k, k < ts.length → (nd ts k).args.length ≤ 1000 ∧ ∀ a ∈ (nd ts k).args, 0 ≤ a ∧ a ≤ 1000) (hf : f ≤ 100000) :
    Calls Try.prog 69 #[tv, .int .i64 (f : Int)] w fun e w' => ∃ v R avs, e = .returned v ∧ OSt w.heap.size (ovr ts f) R w' v avs ∧ Below w.heap.size w w' := by
  have HT := Lib.hid ht
  have HN := Lib.hid hn
  have HC := Lib.hid (rCopy ts tv w ht hl (fun x hx => by
    obtain ⟨i, hi, rfl⟩ := List.getElem_of_mem hx
    have := (hn i hi).1
    unfold nd at this
    rw [List.getD_eq_getElem?_getD, List.getElem?_eq_getElem hi] at this
    exact this))
  obtain ⟨ta, tc, rfl, ht1, ht2⟩ := ht.shape
  clear ht hn
  go_enter Try.func69, Try.ntmps69
  go_wp2_with fail
  refine HC.out.mono ?_
  rintro e w1 ⟨v, R, avs, rfl, ho, hb, hap⟩
  have HO := Lib.hid ho
  have HB := Lib.hid hb
  have HAP := Lib.hid hap
  obtain ⟨na, nc, rfl⟩ := own_shape ho.row
  clear ho hb hap
  go_wp2_with fail
  go_loopw [6] (fun iv wx => ∃ k : Nat, iv = .int .i64 k ∧ k ≤ ts.length ∧ OSt w.heap.size (cur ts f k 0) R wx (.slice na ts.length nc) avs ∧ Below w.heap.size w wx) (fun iv _ => ts.length - (intOf iv).toNat)
  case atStart => exact ⟨0, rfl, Nat.zero_le _, by rw [cur_start]; exact HO.out, HB.out⟩
  case round =>
    obtain ⟨k, rfl, hk, ho, hb⟩ := hrel
    by_cases hlt : k < ts.length
    · have HOO := Lib.hid ho
      have HBB := Lib.hid hb
      obtain ⟨L, HL⟩ : ∃ L, Hid (L = (nd ts k).args.length) := ⟨_, rfl⟩
      have hL : L ≤ 1000 := by rw [HL.out]; exact (HN.out k hlt).1
      clear ho hb
      go_wp2_with fail
      go_loopw [7] (fun iv wx => ∃ i : Nat, iv = .int .i64 i ∧ i ≤ L ∧ OSt w.heap.size (cur ts f k i) R wx (.slice na ts.length nc) avs ∧ Below w.heap.size w wx) (fun iv _ => L - (intOf iv).toNat)
      case atStart => exact ⟨0, rfl, Nat.zero_le _, HOO.out, HBB.out⟩
      case round =>
        obtain ⟨i, rfl, hi, ho, hb⟩ := hrel
        obtain ⟨g, cap, ev, hg1, hg2, hg3, hcell⟩ := ho.row_get (by rw [cur_len]; omega)
        rw [cur_len] at ev
        cases ev
        have d3 := hcell (k * 5 + 3) (avs.getD k undef) (by rw [rowsC_get _ _ ho.len k 3 (by rw [cur_len]; exact hlt) (by omega)]; rfl)
        have hA := (ho.args k (by rw [cur_len]; exact hlt))
        rw [cur_at hlt] at hA
        have HOO2 := Lib.hid ho
        have HBB2 := Lib.hid hb
        have hAl : (shN (nd ts k) f i).args.length = L := by rw [HL.out]; exact shA_len _ _ _
        obtain ⟨aa, ac, hav, ha1, ha2⟩ := hA.1.ints.shape
        rw [hAl] at hav
        have HAV := Lib.hid hav
        rw [hav] at d3
        clear ho hb hcell hav
        by_cases hil : i < L
        · have hx := hA.1.ints
          rw [HAV.out] at hx
          obtain ⟨ab, ao, rfl, hab, hcs⟩ := hx.row (by rw [hAl]; omega)
          have d4 := hcs i (by rw [hAl]; exact hil)
          have hfr := hA.1.free
          have d5 := hfr ab ao L ac HAV.out i (by rw [hAl]; exact hil)
          have hget : (shN (nd ts k) f i).args.getD i 0 = (nd ts k).args.getD i 0 := shA_get (by rw [← HL.out]; exact hil)
          rw [hget] at d4
          have ham := (HN.out k hlt).2 _ (show (nd ts k).args.getD i 0 ∈ _ from mem_getD (by rw [← HL.out]; exact hil))
          have HNX := Lib.hid (cur_next (f := f) hlt (i := i) (by rw [← HL.out]; exact hil))
          have HIL : Hid (i < ((cur ts f k i).getD k default).args.length) := by
            show _ < _
            rw [cur_at hlt]
            show i < (shA _ _ _).length
            rw [shA_len, ← HL.out]; exact hil
          clear hcs hfr hget hx hA hAl
          generalize (nd ts k).args.getD i 0 = y at *
          go_wp2_with fail
          go_roundw
          case rel =>
            refine ⟨i + 1, by go_num, by omega, ?_, below_at HBB2.out (by
              have := HOO2.out.Rlt ab ((HOO2.out.args k (by rw [cur_len]; exact hlt)).2 ab (by rw [HAV.out]; rfl))
              exact this.1) _ _⟩
            have h9 := HOO2.out.setArg HAP.out (by rw [cur_len]; exact hlt) HIL.out (y + (f : Int)) HAV.out
            rw [cur_at hlt, HNX.out] at h9
            exact h9
          case measure => simp [intOf] <;> omega
        · obtain rfl : i = L := by omega
          clear hA hAl
          go_wp2_with fail
          go_roundw
          case rel => exact ⟨k + 1, by go_num, by omega, by rw [← cur_row hlt, ← HL.out]; exact HOO2.out, HBB2.out⟩
          case measure => simp [intOf] <;> omega
    · obtain rfl : k = ts.length := by omega
      have HOO := Lib.hid ho
      have HBB := Lib.hid hb
      clear ho hb
      go_wp2_with fail
      go_ret
      exact ⟨_, R, avs, rfl, by rw [← cur_end]; exact HOO.out, HBB.out⟩
end Go.Proofs.Ythopdfikikdcbaa
/- Lists of terms in memory; memory in Join of the answer. -/
namespace Go.Proofs.Ythopdfikikdcbaa
open Go.RowKit Go.Maps Wd
set_option linter.unusedVariables false
set_option linter.unusedSimpArgs false
/-- The slice v of w holds the lists of nodes pts. -/
def Ndss (w : World) (v : Value) (pts : List (List Nd)) : Prop := Slc w v pts.length 1 fun i b o => ∃ u, w.cell? ⟨b, o, none⟩ = some u ∧ Nds w u (pts.getD i [])
theorem Ndss.stays {w w' : World} {v : Value} {pts : List (List Nd)} (h : Ndss w v pts) (hb : Below w.heap.size w w') : Ndss w' v pts :=
  Slc.stays h hb fun _ _ _ hlt ⟨u, h1, h2⟩ => ⟨u, below_cell hb hlt h1, h2.stays hb⟩
theorem Ndss.shape {w : World} {v : Value} {pts : List (List Nd)} (h : Ndss w v pts) : ∃ a c, v = .slice a pts.length c ∧ pts.length ≤ c ∧ pts.length ≤ 140737488351232 := by
  obtain ⟨a, c, rfl, h1, h2, _⟩ := h
  exact ⟨a, c, rfl, h1, h2.1⟩
theorem Ndss.at {w wr : World} {v : Value} {pts : List (List Nd)} (h : Ndss w v pts) (hb : Below w.heap.size w wr) {k : Nat} (hk : k < pts.length) :
    ∃ b q c u, v = .slice (some ⟨b, q, none⟩) pts.length c ∧ b < w.heap.size ∧ wr.cell? ⟨b, q + k, none⟩ = some u ∧ Nds w u (pts.getD k []) := by
  obtain ⟨a, c, rfl, h1, h2, h3, h4⟩ := h
  obtain ⟨b, q, rfl, h5, u, h6, h7⟩ := h4 k hk
  rw [Nat.mul_one] at h6
  exact ⟨b, q, c, u, rfl, h5, below_cell hb h5 h6, h7⟩
theorem rowsC_one {base : Nat} {o : List Nd} {R : Nat → Prop} {w : World} {nv : Value} {avs : List Value} (h : OSt base o R w nv avs) : ∀ u ∈ rowsC o avs, u.oneCell' = true := by
  have key : ∀ (o : List Nd) (avs : List Value), (∀ a ∈ avs, a.oneCell' = true) → ∀ u ∈ rowsC o avs, u.oneCell' = true := by
    intro o
    induction o with
    | nil => intro avs _ u hu; cases avs <;> simp [rowsC] at hu
    | cons x o ih =>
      intro avs ha u hu
      cases avs with
      | nil => simp [rowsC] at hu
      | cons a avs =>
        rcases List.mem_append.1 (show u ∈ rowC x a ++ rowsC o avs from hu) with hu | hu
        · have := ha a (List.mem_cons_self ..)
          simp only [rowC, List.mem_cons, List.not_mem_nil, or_false] at hu
          rcases hu with rfl | rfl | rfl | rfl | rfl
          · rfl
          · rfl
          · rfl
          · exact this
          · rfl
        · exact ih avs (fun a h => ha a (List.mem_cons_of_mem _ h)) u hu
  refine key o avs fun a ha => ?_
  obtain ⟨i, hi, rfl⟩ := List.getElem_of_mem ha
  obtain ⟨aa, ac, e, _⟩ := (h.args i (by rw [← h.len]; exact hi)).1.ints.shape
  rw [List.getD_eq_getElem?_getD, List.getElem?_eq_getElem hi] at e
  have e' : avs[i] = .slice aa (o.getD i default).args.length ac := e
  rw [e']; rfl
structure JnR (W1 : World) (rb : Nat) (op width imm : Int) (c : List Nd × List Int) (R : Nat → Prop) (avs : List Value) (nv rv : Value) (wx : World) : Prop where
  out : OSt (rb + 1) c.1 R wx nv avs
  vR : ∀ b, rv.ownBlock = some b → ¬ R b
  y : YAt wx rb op width 0 imm rv
  row : RowI wx (rb + 1) 3 .i64 rv c.2
  ns : ∀ b, rv.ownBlock = some b → nv.ownBlock ≠ some b
  chg : Chg (fun b => b = rb) W1 wx
  sz : W1.heap.size = rb + 1
theorem JnR.part {W1 wx w' w2 : World} {rb : Nat} {op width imm : Int} {c : List Nd × List Int} {R R' : Nat → Prop} {avs avs' : List Value} {nv rv v' nv2 : Value} {o' : List Nd} (h : JnR W1 rb op width imm c R avs nv rv wx)
    (hO : OSt wx.heap.size o' R' w' v' avs') (hb : Below wx.heap.size wx w') (hg : Chg (fun b => nv.ownBlock = some b) w' w2)
    (hown : w2.ownsRow (rb + 1) 47 5 nv2 (c.1.length + o'.length) (rowsC c.1 avs ++ rowsC o' avs')) (hv : nv2.ownBlock = nv.ownBlock ∨ ∃ g, nv2.ownBlock = some g ∧ w'.heap.size ≤ g) :
    JnR W1 rb op width imm (c.1 ++ o', c.2) (fun b => R b ∨ R' b) (avs ++ avs') nv2 rv w2 := by
  have hs1 := h.chg.size
  have hsz := h.sz
  have hbs := hb.size
  have hnl := own_lt h.out.row
  have hvl := own_lt h.row
  have hall : Chg (fun b => nv.ownBlock = some b) wx w2 := (Chg.of_below hb).trans hg (fun _ _ h => h)
  have hrb : ¬ nv.ownBlock = some rb := fun e => by have := own_ge h.out.row _ e; omega
  exact {
    out := OSt.app (h.out.below hb) hO (by omega) (fun b e hR => by have := hnl b e; have := (hO.Rlt b hR).1; omega) hg hown hv
    vR := fun b hb hR => by
      rcases hR with hR | hR
      · exact h.vR b hb hR
      · have := hvl b hb; have := (hO.Rlt b hR).1; omega
    y := h.y.chg hall hrb
    row := h.row.chg hall (fun b hb e => h.ns b hb e)
    ns := fun b hb e => by
      rcases hv with e2 | ⟨g, e2, hg2⟩
      · exact h.ns b hb (by rw [← e2]; exact e)
      · rw [e2] at e; cases e
        have := hvl _ hb; omega
    chg := h.chg.trans hall (fun k hk e => by have := own_ge h.out.row k e; omega)
    sz := h.sz }
theorem JnR.arg {W1 wx w3 : World} {rb : Nat} {op width imm z : Int} {c : List Nd × List Int} {R : Nat → Prop} {avs : List Value} {nv rv rv' : Value} (h : JnR W1 rb op width imm c R avs nv rv wx)
    (hg : Chg (fun b => rv.ownBlock = some b) wx w3) (hown : w3.ownsRow (rb + 1) 3 1 rv' (c.2.length + 1) (c.2.map (Value.int .i64) ++ [.int .i64 z])) (hv : rv'.ownBlock = rv.ownBlock ∨ ∃ g, rv'.ownBlock = some g ∧ wx.heap.size ≤ g) :
    JnR W1 rb op width imm (c.1, c.2 ++ [z]) R avs nv rv' (w3.setCell ⟨rb, 3, none⟩ rv') := by
  have hs1 := h.chg.size
  have hsz := h.sz
  have hnl := own_lt h.out.row
  have hvB : ¬ rv.ownBlock = some rb := fun e => by have := own_ge h.row rb e; omega
  have hset : Chg (fun b => b = rb) w3 (w3.setCell ⟨rb, 3, none⟩ rv') := (Chg.refl (fun b => b = rb) w3).setCell (b := rb) rfl rv'
  have hrow1 : RowI w3 (rb + 1) 3 .i64 rv' (c.2 ++ [z]) := RowI.app1 hown rfl rfl
  have hall : Chg (fun b => rv.ownBlock = some b ∨ b = rb) wx (w3.setCell ⟨rb, 3, none⟩ rv') := (hg.mono (fun _ _ h => .inl h)).trans hset (fun _ _ h => .inr h)
  have hRb : ∀ b, R b → ¬ (rv.ownBlock = some b ∨ b = rb) := fun b hR e => by
    rcases e with e | e
    · exact h.vR b e hR
    · have := (h.out.Rlt b hR).1; omega
  have hnb : ∀ b, nv.ownBlock = some b → ¬ (rv.ownBlock = some b ∨ b = rb) := fun b hb e => by
    rcases e with e | e
    · exact h.ns b e hb
    · have := own_ge h.out.row b hb; omega
  exact {
    out := h.out.chg hall hnb hRb
    vR := fun b hb hR => by
      rcases hv with e | ⟨g, e, hg2⟩
      · exact h.vR b (by rw [← e]; exact hb) hR
      · rw [e] at hb; cases hb
        have := (h.out.Rlt _ hR).2; omega
    y := (h.y.chg hg hvB).set rv'
    row := hrow1.chg hset (fun b hb e => by have := own_ge hrow1 b hb; omega)
    ns := fun b hb e' => by
      rcases hv with e | ⟨g, e, hg2⟩
      · exact h.ns b (by rw [← e]; exact hb) e'
      · rw [e] at hb; cases hb
        have := hnl _ e'; omega
    chg := h.chg.trans hall (fun k hk e => by
      rcases e with e | e
      · have := own_ge h.row k e; omega
      · exact e)
    sz := h.sz }
theorem YAt.bel {W1 wx : World} {w : World} {rb : Nat} (hb : Below w.heap.size w W1) (hr : w.heap.size ≤ rb) (hc : Chg (fun b => b = rb) W1 wx) : Below w.heap.size w wx :=
  hb.trans (hc.below hb.size fun k hk => by omega)
end Go.Proofs.Ythopdfikikdcbaa
/- Memory in Join of the program. -/
namespace Go.Proofs.Ythopdfikikdcbaa
open Go.RowKit Go.Maps Wd
set_option linter.unusedVariables false
set_option linter.unusedSimpArgs false
structure JnP (w0 : World) (bb rb : Nat) (op width imm : Int) (o : List Nd) (l : List Int) (T : Nat → Prop) (rv : Value) (wx : World) : Prop where
  bld : Bld bb o T wx
  y : YAt wx rb op width 0 imm rv
  row : RowI wx (rb + 1) 3 .i64 rv l
  Trb : ¬ T rb
  Tv : ∀ b, rv.ownBlock = some b → ¬ T b
  TB : ∀ b, T b → w0.heap.size ≤ b
  rB : w0.heap.size ≤ rb
  bel : Below w0.heap.size w0 wx
theorem seen_made {wx W : World} {n : Nat} (hn : n ≤ 1000000) (hW : Below (wx.alloc (.map #[] 0)).heap.size (wx.alloc (.map #[] 0)) W) : SeenIs W wx.heap.size (List.replicate n (-1)) :=
  (SeenIs.made hn).chg (T := fun _ => False) (Chg.of_below hW) (fun h => h)
theorem JnP.from {w0 wx W w' : World} {bb rb : Nat} {op width imm : Int} {o : List Nd} {l : List Int} {T : Nat → Prop} {rv : Value} {c : List Nd × List Int} (h : JnP w0 bb rb op width imm o l T rv wx)
    (hW : Below (wx.alloc (.map #[] 0)).heap.size (wx.alloc (.map #[] 0)) W) (hp : FrP (Bld bb) wx.heap.size T W c w') : ∃ T', JnP w0 bb rb op width imm c.1 l T' rv w' := by
  obtain ⟨T', h1, h2, h3, h4⟩ := hp
  have hb1 : Below wx.heap.size wx W := ((Below.refl _ _).alloc (Nat.le_refl _) _).trans (hW.mono (by simp))
  have hs := hb1.size
  have hlt := h.bld.lt
  have hrl : rb < wx.heap.size := cell_lt h.y.c0
  have hvl := own_lt h.row
  have hall : Chg (fun b => T b ∨ b = wx.heap.size) wx w' := (Chg.of_below hb1).trans h4 (fun _ _ h => h)
  have hws := h.bel.size
  refine ⟨T', {
    bld := h1
    y := h.y.chg hall (fun e => by rcases e with e | e; exact h.Trb e; omega)
    row := h.row.chg hall (fun b hb e => by rcases e with e | e; exact h.Tv b hb e; have := hvl b hb; omega)
    Trb := fun e => by rcases h3 rb e with e | e; exact h.Trb e; omega
    Tv := fun b hb e => by
      rcases h3 b e with e | e
      · exact h.Tv b hb e
      · have := hvl b hb; omega
    TB := fun b e => by rcases h3 b e with e | e; exact h.TB b e; omega
    rB := h.rB
    bel := h.bel.trans (hall.below hws fun k hk => by rcases hk with hk | hk; exact h.TB k hk; omega) }⟩
theorem JnP.arg {w0 wx w3 : World} {bb rb : Nat} {op width imm z : Int} {o : List Nd} {l : List Int} {T : Nat → Prop} {rv rv' : Value} (h : JnP w0 bb rb op width imm o l T rv wx)
    (hg : Chg (fun b => rv.ownBlock = some b) wx w3) (hown : w3.ownsRow (rb + 1) 3 1 rv' (l.length + 1) (l.map (Value.int .i64) ++ [.int .i64 z])) (hv : rv'.ownBlock = rv.ownBlock ∨ ∃ g, rv'.ownBlock = some g ∧ wx.heap.size ≤ g) :
    JnP w0 bb rb op width imm o (l ++ [z]) T rv' (w3.setCell ⟨rb, 3, none⟩ rv') := by
  have hvB : ¬ rv.ownBlock = some rb := fun e => by have := own_ge h.row rb e; omega
  have hlt := h.bld.lt
  have hset : Chg (fun b => b = rb) w3 (w3.setCell ⟨rb, 3, none⟩ rv') := (Chg.refl (fun b => b = rb) w3).setCell (b := rb) rfl rv'
  have hrow1 : RowI w3 (rb + 1) 3 .i64 rv' (l ++ [z]) := RowI.app1 hown rfl rfl
  have hall : Chg (fun b => rv.ownBlock = some b ∨ b = rb) wx (w3.setCell ⟨rb, 3, none⟩ rv') := (hg.mono (fun _ _ h => .inl h)).trans hset (fun _ _ h => .inr h)
  have hws := h.bel.size
  exact {
    bld := h.bld.same (hall.same fun k hk => ⟨hlt k hk, fun e => by rcases e with e | e; exact h.Tv k e hk; subst e; exact h.Trb hk⟩)
    y := (h.y.chg hg hvB).set rv'
    row := hrow1.chg hset (fun b hb e => by have := own_ge hrow1 b hb; omega)
    Trb := h.Trb
    Tv := fun b hb e' => by
      rcases hv with e | ⟨g, e, hg2⟩
      · exact h.Tv b (by rw [← e]; exact hb) e'
      · rw [e] at hb; cases hb
        have := hlt _ e'; omega
    TB := h.TB
    rB := h.rB
    bel := h.bel.trans (hall.below hws fun k hk => by
      rcases hk with hk | hk
      · have := own_ge h.row k hk; have := h.rB; omega
      · have := h.rB; omega) }
theorem ndV_of_K {o : List Nd} (h : ∀ x ∈ o, NdK x) : ∀ k, k < o.length → NdV (nd o k) := fun k hk => by
  have := h _ (show nd o k ∈ o from mem_getD hk)
  exact { op := this.op, width := this.width, flags := this.flags, len := this.len, imm := this.imm }
/-- A builder of the call's own with a map of its own. -/
theorem bld_made {w W : World} (hb : Below (w.alloc (.cells #[.slice none 0 0, .map none] 106)).heap.size (w.alloc (.cells #[.slice none 0 0, .map none] 106)) W) : Bld w.heap.size [] (fun b => b = w.heap.size) W := by
  refine ⟨fun b => b = w.heap.size, fun _ => False, .slice none 0 0, .map none, [], fun b => by simp, ?_⟩
  have hs := hb.size
  simp at hs
  exact {
    b0 := below_cell hb (by simp) (by simp [go_sem])
    b1 := below_cell hb (by simp) (by simp [go_sem])
    f0 := by rw [hb.frozen (p := ⟨w.heap.size, 0, none⟩) (by simp)]; simp [go_sem]
    f1 := by rw [hb.frozen (p := ⟨w.heap.size, 1, none⟩) (by simp)]; simp [go_sem]
    Wb := rfl
    Wlt := fun b h => by subst h; omega
    Rlt := fun b h => h.elim
    WR := fun b _ h => h
    row := World.ownsRow_nil _ _ _ _
    rowW := fun b h => by cases h
    len := rfl
    args := fun i hi => absurd hi (by simp)
    kn := fun x hx => by cases hx
    map := .inl ⟨rfl, rfl⟩ }
end Go.Proofs.Ythopdfikikdcbaa
/- Walks of the builder's number, and of the closure that adds a constant. -/
namespace Go.Proofs.Ythopdfikikdcbaa
open Go.RowKit Go.Maps Wd
set_option linter.unusedVariables false
set_option linter.unusedSimpArgs false
set_option maxRecDepth 100000 in
set_option maxHeartbeats 1000000 in
theorem number_any (bb : Nat) (o : List Nd) (T : Nat → Prop) (w : World) (k : Nat) (h : Bld bb o T w) (hk : k < o.length) (hl : o.length ≤ 100000) :
    Calls Try.prog 99 #[.pointer (some ⟨bb, 0, none⟩), .int .i64 (k : Int)] w fun e w' => e = .returned (.tuple #[.int .u32 (nd o k).imm, .bool ((nd o k).op == 0)]) ∧ Below w.heap.size w w' := by
  obtain ⟨W, R, nv, fv, avs, hT, hb⟩ := h
  have b0 := hb.b0
  have hbl := hb.Wlt bb hb.Wb
  obtain ⟨b, q, c', av, e', _, hbq, hav, c0, c1, c2, c3, c4⟩ := (hb.nds hl).at2 (Below.refl _ _) hk
  obtain ⟨na, nc, rfl⟩ := own_shape hb.row
  cases e'
  show Calls _ _ _ _ fun e w' => e = .returned (.tuple #[.int .u32 (o.getD k default).imm, .bool ((o.getD k default).op == 0)]) ∧ _
  generalize o.getD k default = x at *
  obtain ⟨op, width, flags, args, imm⟩ := x
  obtain ⟨aa, ac, rfl, ha1, ha2⟩ := hav.shape
  simp only at c0 c1 c2 c3 c4 ha1 ha2 ⊢
  have hk2 : (k : Int) < o.length := by omega
  have HBX : Hid (Below w.heap.size w (w.alloc (.cells #[.int .i64 op, .int .i64 width, .int .i64 flags, .slice aa args.length ac, .int .u32 imm] 47))) := (Below.refl _ _).alloc (Nat.le_refl _) _
  clear hb hT hav
  go_enter Try.func99, Try.ntmps99
  go_wp2_with fail
  go_quiet (fail)
  go_wp2_with fail
  go_ret2
  exact ⟨rfl, below_drewN HBX.out nq⟩
set_option maxRecDepth 100000 in
set_option maxHeartbeats 1000000 in
theorem const_any (bb b2 b3 : Nat) (o : List Nd) (T : Nat → Prop) (w : World) (wd n : Int) (h : Bld bb o T w) (h2 : w.cell? ⟨b2, 0, none⟩ = some (.pointer (some ⟨bb, 0, none⟩))) (h3 : w.cell? ⟨b3, 1, none⟩ = some (.int .i64 wd)) (hw : Sml wd) (hn : 0 ≤ n ∧ n ≤ 4294967295) (hl : o.length ≤ 100000) :
    Calls Try.prog 98 #[.int .u32 n, .pointer (some ⟨b2, 0, none⟩), .pointer (some ⟨b3, 0, none⟩)] w fun e w' => e = .returned (.int .i64 ((addN o ⟨0, wd, 0, [], n⟩).2 : Int)) ∧
      ∃ T', Bld bb (addN o ⟨0, wd, 0, [], n⟩).1 T' w' ∧ (∀ b, T' b → T b ∨ w.heap.size ≤ b) ∧ Chg T w w' := by
  have HA : Hid (Calls Try.prog 67 #[.pointer (some ⟨bb, 0, none⟩), .agg #[.int .i64 0, .int .i64 wd, .int .i64 0, .slice none 0 0, .int .u32 n]] w fun e w' => e = .returned (.int .i64 (stepA o ⟨0, wd, 0, [], n⟩).2) ∧
      ∃ T', Bld bb (stepA o ⟨0, wd, 0, [], n⟩).1 T' w' ∧ (∀ b, T' b → T b ∨ w.heap.size ≤ b ∨ (Value.slice none 0 0).ownBlock = some b) ∧ Chg T w w') :=
    add_any bb o T ⟨0, wd, 0, [], n⟩ (.slice none 0 0) w h ⟨⟨by show (_ : Int) ≤ 0; omega, by show (0 : Int) ≤ _; omega⟩, hw, rfl, by simp, (fun a ha => by cases ha), hn⟩ (IntsF.nil w) (fun b hb => by cases hb) hl
  have hl2 := cell_lt h2
  have hl3 := cell_lt h3
  clear h hw
  go_enter Try.func98, Try.ntmps98
  go_wp2_with fail
  refine HA.out.mono ?_
  rintro e w' ⟨rfl, hp⟩
  have HP := Lib.hid hp
  clear hp
  go_wp2_with fail
  go_ret
  obtain ⟨T', p1, p2, p3⟩ := HP.out
  exact ⟨rfl, T', p1, (fun b hb => by
    rcases p2 b hb with h | h | h
    · exact .inl h
    · exact .inr h
    · cases h), p3⟩
/-- What identity answers. -/
def IdPost (bb : Nat) (o : List Nd) (T : Nat → Prop) (w : World) (op wd : Int) (p q : Nat) (e : Ending) (w' : World) : Prop :=
  (idG op wd (tree o p) (tree o q) = none ∧ e = .returned (.tuple #[.int .i64 0, .bool false]) ∧ Below w.heap.size w w') ∨
  ∃ t, idG op wd (tree o p) (tree o q) = some t ∧ e = .returned (.tuple #[.int .i64 ((insT t o).2 : Int), .bool true]) ∧ ∃ T', Bld bb (insT t o).1 T' w' ∧ (∀ b, T' b → T b ∨ w.heap.size ≤ b) ∧ Chg T w w'
theorem idp_none {bb : Nat} {o : List Nd} {T : Nat → Prop} {w w' : World} {op wd : Int} {p q : Nat} (h : idG op wd (tree o p) (tree o q) = none) (hb : Below w.heap.size w w') : IdPost bb o T w op wd p q (.returned (.tuple #[.int .i64 0, .bool false])) w' := .inl ⟨h, rfl, hb⟩
theorem idp_p {bb : Nat} {o : List Nd} {T : Nat → Prop} {w w' : World} {op wd : Int} {p q r : Nat} (hB : Bld bb o T w) (ho : Good o) (hr : r < o.length) (h : idG op wd (tree o p) (tree o q) = some (tree o r)) (hb : Below w.heap.size w w') : IdPost bb o T w op wd p q (.returned (.tuple #[.int .i64 (r : Int), .bool true])) w' := by
  refine .inr ⟨_, h, ?_, T, ?_, fun b h => .inl h, Chg.of_below hb⟩
  · rw [ins_there ho r hr]
  · rw [ins_there ho r hr]; exact hB.next hb
theorem idp_c {bb : Nat} {o : List Nd} {T : Nat → Prop} {w w1 w' : World} {op wd : Int} {p q : Nat} (h : idG op wd (tree o p) (tree o q) = some (cst wd 0)) (hb : Below w.heap.size w w1) (hp : ∃ T', Bld bb (addN o ⟨0, wd, 0, [], 0⟩).1 T' w' ∧ (∀ b, T' b → T b ∨ w1.heap.size ≤ b) ∧ Chg T w1 w') :
    IdPost bb o T w op wd p q (.returned (.tuple #[.int .i64 ((addN o ⟨0, wd, 0, [], 0⟩).2 : Int), .bool true])) w' := by
  obtain ⟨T', p1, p2, p3⟩ := hp
  have hs := hb.size
  refine .inr ⟨_, h, by rw [insT_cst], T', by rw [insT_cst]; exact p1, fun b hb => ?_, (Chg.of_below hb).trans p3 (fun _ _ h => h)⟩
  rcases p2 b hb with h | h
  · exact .inl h
  · exact .inr (by omega)
end Go.Proofs.Ythopdfikikdcbaa
