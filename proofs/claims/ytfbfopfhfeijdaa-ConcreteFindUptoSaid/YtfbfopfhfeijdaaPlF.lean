/- Plain laws: a copied rule is the rule, and a rule is the same as itself. -/
import Derived.Test.YtfbfopfhfeijdaaPlE
import Derived.Test.YtfbfopfhfeijdaaPrF41
import Derived.Test.YtfbfopfhfeijdaaPrF24
namespace Go.Proofs.Ytfbfopfhfeijdaa.Pr
open Go.RowKit Go.Proofs.YtfbfopfhfeijdaaW.PrintWords Go.Proofs.YtfbfopfhfeijdaaW.PrintLast Go.Proofs.YtfbfopfhfeijdaaW.PrintMore
set_option linter.unusedVariables false
set_option linter.unusedSimpArgs false
/-- A rule all of whose lists are short. -/
def TinyR (r : S33) : Prop :=
  (r.f1.length ≤ 1048576 ∧ ∀ w ∈ r.f1, w.length ≤ 1048576) ∧ r.f2.length ≤ 1048576 ∧ r.f3.length ≤ 1048576 ∧ ∀ x ∈ r.f3, x.f1.length ≤ 1048576 ∧ ∀ p ∈ x.f1, p.f4.length ≤ 1048576
theorem clone_ev (xs : List S37) (h : xs.length ≤ 1048576) : api_Feature_55.f xs = some xs := by
  unfold api_Feature_55.f; rw [if_pos (by omega)]
theorem clip_ev (xs : List S37) : api_Feature_54.f xs = some xs := rfl
theorem take_next {α : Type} {xs : List α} {i : Nat} (h : i < xs.length) : xs.take i ++ [xs[i]] = xs.take (i + 1) := by rw [List.take_succ_eq_append_getElem h]
theorem copied_ev (r : S33) (h : TinyR r) : Ev (fun k => concrete_copiedRule.f k r.f0 r.f1 r.f2 r.f3) (r.f0, r.f1, r.f2, r.f3) := by
  obtain ⟨a, l1, l2, l3⟩ := r
  obtain ⟨⟨h1, h1'⟩, h2, h3, h3'⟩ := h
  dsimp only at h1 h1' h2 h3 h3' ⊢
  have e1 : ∀ d (i : Nat), l3.length - i = d → i ≤ l3.length → Ev (fun k => concrete_copiedRule.l1 k l3 (l3.length : Int) i a l1 l2 (l3.take i)) (a, l1, l2, l3) := by
    intro d
    induction d with
    | zero =>
      intro i hd hi
      refine Ev.step (f := fun _ => some (a, l1, l2, l3)) (fun k => ?_) (Ev.now _)
      simp only [concrete_copiedRule.l1]; rw [if_neg (by omega), List.take_of_length_le (by omega)]
    | succ d ih =>
      intro i hd hle
      have hi : i < l3.length := by omega
      obtain ⟨hp, hp'⟩ := h3' _ (List.getElem_mem hi)
      have k2 : ∀ e (j : Nat), l3[i].f1.length - j = e → j ≤ l3[i].f1.length → Ev (fun k => concrete_copiedRule.l2 k l3 (l3.length : Int) i l3[i].f1 (l3[i].f1.length : Int) j a l1 l2 (l3.take i) l3[i].f0 (l3[i].f1.take j)) (a, l1, l2, l3) := by
        intro e
        induction e with
        | zero =>
          intro j he hj
          refine Ev.step (fun k => ?_) (ih (i + 1) (by omega) (by omega))
          simp only [concrete_copiedRule.l2]
          rw [if_neg (by omega), if_pos (by rw [List.length_take]; omega), wrap_next hi (by omega), List.take_of_length_le (i := j) (by omega)]
          show concrete_copiedRule.l1 k l3 (l3.length : Int) ((i + 1 : Nat) : Int) a l1 l2 (l3.take i ++ [l3[i]]) = _
          rw [take_next hi]
        | succ e ihe =>
          intro j he hjl
          have hj : j < l3[i].f1.length := by omega
          refine Ev.step (fun k => ?_) (ihe (j + 1) (by omega) (by omega))
          simp only [concrete_copiedRule.l2, rd_piece hj]
          rw [if_pos (by omega), if_pos (by omega), if_pos (by omega), clone_ev _ (hp' _ (List.getElem_mem hj))]
          simp only [Option.bind_some, clip_ev]
          rw [if_pos (by rw [List.length_take]; omega), wrap_next hj (by omega)]
          show concrete_copiedRule.l2 k l3 (l3.length : Int) i l3[i].f1 (l3[i].f1.length : Int) ((j + 1 : Nat) : Int) a l1 l2 (l3.take i) l3[i].f0 (l3[i].f1.take j ++ [l3[i].f1[j]]) = _
          rw [take_next hj]
      refine Ev.step (fun k => ?_) (k2 _ 0 rfl (Nat.zero_le _))
      simp only [concrete_copiedRule.l1, rd_field hi]
      rw [if_pos (by omega), if_pos (by omega), if_pos (by omega), List.take_zero]; rfl
  have e0 : ∀ d (i : Nat), l1.length - i = d → i ≤ l1.length → Ev (fun k => concrete_copiedRule.l0 k l1 (l1.length : Int) i a l1 l2 l3 a (l1.take i) l2) (a, l1, l2, l3) := by
    intro d
    induction d with
    | zero =>
      intro i hd hi
      refine Ev.step (fun k => ?_) (e1 _ 0 rfl (Nat.zero_le _))
      simp only [concrete_copiedRule.l0]; rw [if_neg (by omega), List.take_of_length_le (i := i) (by omega), List.take_zero]; rfl
    | succ d ih =>
      intro i hd hle
      have hi : i < l1.length := by omega
      refine Ev.step (fun k => ?_) (ih (i + 1) (by omega) (by omega))
      simp only [concrete_copiedRule.l0, rd_rec hi]
      rw [if_pos (by omega), if_pos (by omega), if_pos (by omega), clone_ev _ (h1' _ (List.getElem_mem hi))]
      simp only [Option.bind_some, clip_ev]
      rw [if_pos (by rw [List.length_take]; omega), wrap_next hi (by omega), take_next hi]
  unfold concrete_copiedRule.f
  simp only [clone_ev l2 h2, clip_ev, Option.bind_some]
  have := e0 _ 0 rfl (Nat.zero_le _)
  rw [List.take_zero] at this
  exact this

theorem same_refl (xs : List S37) (hx : xs.length ≤ 9223372036854775807) : Ev (fun k => pentaglotref02_Same.f k xs xs) true := by
  have key : ∀ d (i : Nat), xs.length - i = d → Ev (fun k => pentaglotref02_Same.l0 k xs xs i) true := by
    intro d
    induction d with
    | zero =>
      intro i hd
      refine Ev.step (f := fun _ => some true) (fun k => ?_) (Ev.now _)
      simp only [pentaglotref02_Same.l0]; rw [if_neg (by omega)]
    | succ d ih =>
      intro i hd
      have hi : i < xs.length := by omega
      refine Ev.step (fun k => ?_) (ih (i + 1) (by omega))
      simp only [pentaglotref02_Same.l0]
      rw [if_pos (by omega), if_pos (by omega), if_pos (by omega), if_neg (by simp), wrap_next hi hx]
  unfold pentaglotref02_Same.f
  simp only [if_true]
  exact key _ 0 rfl
theorem sameAll_refl (xs : List (List S37)) (hx : Small xs) : Ev (fun k => pentaglotref02_SameAll.f k xs xs) true := by
  have key : ∀ d (i : Nat), xs.length - i = d → Ev (fun k => pentaglotref02_SameAll.l0 k xs xs i) true := by
    intro d
    induction d with
    | zero =>
      intro i hd
      refine Ev.step (f := fun _ => some true) (fun k => ?_) (Ev.now _)
      simp only [pentaglotref02_SameAll.l0]; rw [if_neg (by omega)]
    | succ d ih =>
      intro i hd
      have hi : i < xs.length := by omega
      refine Ev.step (f := fun k => (pentaglotref02_Same.f k xs[i] xs[i]).bind fun t => if t = true then pentaglotref02_SameAll.l0 k xs xs ((i + 1 : Nat) : Int) else some false) (fun k => ?_) (Ev.bind (same_refl _ (hx.2 _ (List.getElem_mem hi))) (by simp only [if_true]; exact ih (i + 1) (by omega)))
      simp only [pentaglotref02_SameAll.l0, rd_rec hi]
      rw [if_pos (by omega), if_pos (by omega), if_pos (by omega), wrap_next hi hx.1]
  unfold pentaglotref02_SameAll.f
  simp only [if_true]
  exact key _ 0 rfl
theorem samePiece_refl (p : S94) (hp : p.f4.length ≤ 9223372036854775807) : Ev (fun k => pentaglotref33_SamePiece.f k p.f0 p.f1 p.f2 p.f3 p.f4 p.f0 p.f1 p.f2 p.f3 p.f4) true := by
  unfold pentaglotref33_SamePiece.f
  simp only [if_true]
  exact Ev.bind (same_refl _ hp) (Ev.now _)
theorem sameRule_refl (r : S33) (h : TinyR r) : Ev (fun k => pentaglotref33_SameRule.f k r.f0 r.f1 r.f2 r.f3 r.f0 r.f1 r.f2 r.f3) true := by
  obtain ⟨a, l1, l2, l3⟩ := r
  obtain ⟨⟨h1, h1'⟩, h2, h3, h3'⟩ := h
  dsimp only at h1 h1' h2 h3 h3' ⊢
  have e0 : ∀ d (i : Nat), l3.length - i = d → Ev (fun k => pentaglotref33_SameRule.l0 k (l3.length : Int) i a l1 l2 l3 a l1 l2 l3) true := by
    intro d
    induction d with
    | zero =>
      intro i hd
      refine Ev.step (f := fun _ => some true) (fun k => ?_) (Ev.now _)
      simp only [pentaglotref33_SameRule.l0]; rw [if_neg (by omega)]
    | succ d ih =>
      intro i hd
      have hi : i < l3.length := by omega
      obtain ⟨hp, hp'⟩ := h3' _ (List.getElem_mem hi)
      have k1 : ∀ e (j : Nat), l3[i].f1.length - j = e → Ev (fun k => pentaglotref33_SameRule.l1 k (l3.length : Int) i (l3[i].f1.length : Int) j a l1 l2 l3 a l1 l2 l3 l3[i].f0 l3[i].f1 l3[i].f0 l3[i].f1) true := by
        intro e
        induction e with
        | zero =>
          intro j he
          refine Ev.step (fun k => ?_) (ih (i + 1) (by omega))
          simp only [pentaglotref33_SameRule.l1]; rw [if_neg (by omega), wrap_next hi (by omega)]
        | succ e ihe =>
          intro j he
          have hj : j < l3[i].f1.length := by omega
          have hb := Ev.bind (f := fun k t => if t = true then pentaglotref33_SameRule.l1 k (l3.length : Int) i (l3[i].f1.length : Int) ((j + 1 : Nat) : Int) a l1 l2 l3 a l1 l2 l3 l3[i].f0 l3[i].f1 l3[i].f0 l3[i].f1 else some false) (samePiece_refl l3[i].f1[j] (by have := hp' _ (List.getElem_mem hj); omega)) (by simp only [if_true]; exact ihe (j + 1) (by omega))
          refine Ev.step (fun k => ?_) hb
          simp only [pentaglotref33_SameRule.l1, rd_piece hj]
          rw [if_pos (by omega), if_pos (by omega), if_pos (by omega), if_pos (by omega), wrap_next hj (by omega)]
      refine Ev.step (fun k => ?_) (Ev.step (g := fun k => pentaglotref33_SameRule.j2 k (l3.length : Int) i false a l1 l2 l3 a l1 l2 l3 l3[i].f0 l3[i].f1 l3[i].f0 l3[i].f1) (fun k => by simp only [pentaglotref33_SameRule.j2]; rw [if_neg (by decide)]; rfl) (k1 _ 0 rfl))
      simp only [pentaglotref33_SameRule.l0, rd_field hi]
      rw [if_pos (by omega), if_pos (by omega), if_pos (by omega), if_pos (by omega), if_pos (by trivial), show (((l3[i].f1.length : Int)) != ((l3[i].f1.length : Int))) = false from by simp]
  unfold pentaglotref33_SameRule.f
  simp only [if_true]
  refine Ev.bind (same_refl l2 (by omega)) ?_
  simp only [if_true]
  refine Ev.bind (sameAll_refl l1 ⟨by omega, fun x hx => by have := h1' x hx; omega⟩) ?_
  exact Ev.step (fun k => by simp only [pentaglotref33_SameRule.j0, Bool.not_true]; rw [if_neg (by decide)]; rfl) (e0 _ 0 rfl)
end Go.Proofs.Ytfbfopfhfeijdaa.Pr
