/- ConcreteParams, plainly: all records of a category, by the implementation and by the reference. -/
import Derived.Test.YtfbfopfhfeijdaaMg14
import Derived.Test.YtfbfopfhfeijdaaParT
import Derived.Test.YtfbfopfhfeijdaaMg16
namespace Go.Proofs.Ytfbfopfhfeijdaa.PuConcreteParams
open Go.RowKit Go.Proofs.Ytfbfopfhfeijdaa.Pr Go.Proofs.Ytfbfopfhfeijdaa.Opn Go.Proofs.YtfbfopfhfeijdaaW.PrintWords Go.Proofs.YtfbfopfhfeijdaaW.PrintLast Go.Proofs.YtfbfopfhfeijdaaW.PrintMore
set_option linter.unusedVariables false
set_option linter.unusedSimpArgs false
theorem codeStop (l : List S90) (a : ByteArray) (l2 : List ByteArray) (n : Int) (i : Nat) (hi : i < l.length) (h : wrap64 (n * (l[i].f1.length : Int)) > 64) : Ev (fun k => concrete_Params.l0 k n l (l.length : Int) (i : Int) a l l2) [] := by
  refine Ev.step (f := fun _ => some []) (fun k => ?_) (Ev.now _)
  simp only [concrete_Params.l0, rd_dim hi]
  rw [if_pos (by omega), if_pos (by omega), if_pos (by omega), if_pos h]
section
variable (l : List S90) (hl : Sized l) (a : ByteArray) (l2 : List ByteArray)
include hl
theorem tail_ev : Ev (fun k => allTail k l) (recs l) := by
  unfold allTail recs
  refine Ev.bind (dims_ev l hl) ?_
  by_cases h : dimsP l = true
  · rw [if_pos h]
    exact Ev.congr (fun k => by rw [if_pos h, if_pos (dims_good h)]) (Ev.now _)
  · rw [if_neg h]
    exact Ev.congr (fun k => by rw [if_neg h]) (Ev.now _)
/-- The reference, at the end of its loop. -/
theorem refEnd_ev (n : Int) : Ev (fun k => pentaglotref33_Params.l0 k n l (l.length : Int) (l.length : Int) a l l2) (if n > 64 then [] else recs l) := by
  by_cases hn : n > 64
  · rw [if_pos hn]
    refine Ev.step (f := fun _ => some []) (fun k => ?_) (Ev.now _)
    simp only [pentaglotref33_Params.l0]; rw [if_neg (by omega), if_pos hn]
  · rw [if_neg hn]
    refine Ev.step (f := fun k => (pentaglotref02_Dimensions.f k l).bind fun t => if t = true then (pentaglotref02_All.f k l).bind fun u => some u else some []) (fun k => ?_) ?_
    · simp only [pentaglotref33_Params.l0]; rw [if_neg (by omega), if_neg hn]
    · refine Ev.bind (refDims_ev l hl) ?_
      by_cases h : dimsP l = true
      · exact Ev.congr (f := fun k => (pentaglotref02_All.f k l).bind fun u => some u) (fun k => by rw [if_pos h]) (Ev.bind (refAll_ev l hl) (Ev.now _))
      · have e : recs l = [] := by unfold recs; rw [if_neg h]
        rw [e]
        exact Ev.congr (fun k => by rw [if_neg h]) (Ev.now _)
theorem refStep (n : Int) (i : Nat) (hi : i < l.length) (R : List (List S37)) (h : Ev (fun k => pentaglotref33_Params.l0 k (mn (wrap64 (n * (l[i].f1.length : Int))) 65) l (l.length : Int) ((i + 1 : Nat) : Int) a l l2) R) :
    Ev (fun k => pentaglotref33_Params.l0 k n l (l.length : Int) (i : Int) a l l2) R := by
  refine Ev.step (fun k => ?_) h
  simp only [pentaglotref33_Params.l0, rd_dim hi]
  rw [if_pos (by omega), if_pos (by omega), if_pos (by omega), wrap_next hi hl.1]
theorem codeStep (n : Int) (i : Nat) (hi : i < l.length) (R : List (List S37)) (h : ¬ wrap64 (n * (l[i].f1.length : Int)) > 64) (hc : Ev (fun k => concrete_Params.l0 k (wrap64 (n * (l[i].f1.length : Int))) l (l.length : Int) ((i + 1 : Nat) : Int) a l l2) R) :
    Ev (fun k => concrete_Params.l0 k n l (l.length : Int) (i : Int) a l l2) R := by
  refine Ev.step (fun k => ?_) hc
  simp only [concrete_Params.l0, rd_dim hi]
  rw [if_pos (by omega), if_pos (by omega), if_pos (by omega), if_neg h, wrap_next hi hl.1]
theorem codeEnd (n : Int) : Ev (fun k => concrete_Params.l0 k n l (l.length : Int) (l.length : Int) a l l2) (recs l) := by
  refine Ev.step (fun k => ?_) (tail_ev l hl)
  simp only [concrete_Params.l0]; rw [if_neg (by omega)]
/-- Where the dimensions are wrong, both have none. -/
theorem wrong (hd : recs l = []) : ∀ d i (n : Int), l.length - i = d → i ≤ l.length → Ev (fun k => concrete_Params.l0 k n l (l.length : Int) (i : Int) a l l2) [] ∧ Ev (fun k => pentaglotref33_Params.l0 k n l (l.length : Int) (i : Int) a l l2) [] := by
  intro d
  induction d with
  | zero =>
    intro i n h1 hi
    obtain rfl : i = l.length := by omega
    have h2 := codeEnd l hl a l2 n
    have h3 := refEnd_ev l hl a l2 n
    rw [hd] at h2 h3
    rw [ite_self] at h3
    exact ⟨h2, h3⟩
  | succ d ih =>
    intro i n h1 hi
    have hlt : i < l.length := by omega
    refine ⟨?_, refStep l hl a l2 n i hlt _ (ih (i + 1) _ (by omega) (by omega)).2⟩
    by_cases h : wrap64 (n * (l[i].f1.length : Int)) > 64
    · exact codeStop l a l2 n i hlt h
    · exact codeStep l hl a l2 n i hlt _ h (ih (i + 1) _ (by omega) (by omega)).1
/-- Where they are right: too many stay too many. -/
theorem many (hd : dimsP l = true) : ∀ d i, l.length - i = d → i ≤ l.length → Ev (fun k => pentaglotref33_Params.l0 k 65 l (l.length : Int) (i : Int) a l l2) [] := by
  intro d
  induction d with
  | zero =>
    intro i h1 hi
    obtain rfl : i = l.length := by omega
    simpa using refEnd_ev l hl a l2 65
  | succ d ih =>
    intro i h1 hi
    have hlt : i < l.length := by omega
    have h8 := dims_at hd i hlt
    refine refStep l hl a l2 65 i hlt _ ?_
    have e : mn (wrap64 (65 * (l[i].f1.length : Int))) 65 = 65 := by
      have h9 := h8.1
      have h10 := h8.2.1
      have hw : wrap64 (65 * (l[i].f1.length : Int)) = 65 * (l[i].f1.length : Int) := by unfold wrap64; omega
      rw [hw]
      unfold mn
      split <;> omega
    rw [e]
    exact ih (i + 1) (by omega) (by omega)
theorem right (hd : dimsP l = true) : ∀ d i (n : Int), l.length - i = d → i ≤ l.length → 0 ≤ n → n ≤ 64 → ∃ R, (R = [] ∨ R = recs l) ∧ Ev (fun k => concrete_Params.l0 k n l (l.length : Int) (i : Int) a l l2) R ∧ Ev (fun k => pentaglotref33_Params.l0 k n l (l.length : Int) (i : Int) a l l2) R := by
  intro d
  induction d with
  | zero =>
    intro i n h1 hi h2 h3
    obtain rfl : i = l.length := by omega
    have h4 := refEnd_ev l hl a l2 n
    rw [if_neg (by omega)] at h4
    exact ⟨_, .inr rfl, codeEnd l hl a l2 n, h4⟩
  | succ d ih =>
    intro i n h1 hi h2 h3
    have hlt : i < l.length := by omega
    obtain ⟨h9, h10, _⟩ := dims_at hd i hlt
    obtain ⟨x, hx⟩ : ∃ x : Int, n * (l[i].f1.length : Int) = x := ⟨_, rfl⟩
    have hx0 : 0 ≤ x := by rw [← hx]; exact Int.mul_nonneg h2 (by omega)
    have hx1 : x ≤ 512 := by
      rw [← hx]
      have := Int.mul_le_mul h3 (show (l[i].f1.length : Int) ≤ 8 by omega) (by omega) (by omega : (0 : Int) ≤ 64)
      omega
    have hw : wrap64 (n * (l[i].f1.length : Int)) = x := by rw [hx]; unfold wrap64; omega
    by_cases h : x > 64
    · refine ⟨[], .inl rfl, codeStop l a l2 n i hlt (by rw [hw]; exact h), refStep l hl a l2 n i hlt _ ?_⟩
      rw [hw, show mn x 65 = 65 by unfold mn; split <;> omega]
      exact many l hl a l2 hd d (i + 1) (by omega) (by omega)
    · obtain ⟨R, hR, h5, h6⟩ := ih (i + 1) x (by omega) (by omega) hx0 (by omega)
      refine ⟨R, hR, codeStep l hl a l2 n i hlt _ (by rw [hw]; exact h) (by rw [hw]; exact h5), refStep l hl a l2 n i hlt _ ?_⟩
      rw [hw, show mn x 65 = x by unfold mn; split <;> omega]
      exact h6
theorem both : ∃ R, (R = [] ∨ R = recs l) ∧ Ev (fun k => concrete_Params.f k a l l2) R ∧ Ev (fun k => pentaglotref33_Params.f k a l l2) R := by
  by_cases hd : dimsP l = true
  · exact right l hl a l2 hd _ 0 1 rfl (by omega) (by omega) (by omega)
  · have e : recs l = [] := by unfold recs; rw [if_neg hd]
    have h := wrong l hl a l2 e _ 0 1 rfl (by omega)
    exact ⟨[], .inl rfl, h⟩
end
theorem recs_small (l : List S90) : Small (recs l) := by
  unfold recs
  by_cases h : dimsP l = true
  · rw [if_pos h]
    have hg := dims_good h
    refine ⟨by rw [List.length_map]; have := hg.2.2.1; omega, fun x hx => ?_⟩
    obtain ⟨p, hp, rfl⟩ := List.mem_map.1 hx
    rw [(sortRec_perm p).length_eq]
    have e := congrArg List.length (tup_names l [] p hp)
    simp at e
    have := hg.1
    omega
  · rw [if_neg h]; exact ⟨by simp, fun x hx => by simp at hx⟩
theorem ProvedSaid : Said := by
  intro a l l2 g
  have hl : Sized l := by
    have h1 : l.length ≤ maxLen ∧ ∀ d ∈ l, ms90.good d := g.2.1
    refine ⟨h1.1, fun d hd => ?_⟩
    have h2 : d.f0.size ≤ maxLen ∧ d.f1.length ≤ maxLen ∧ ∀ v ∈ d.f1, v.size ≤ maxLen := h1.2 d hd
    exact h2
  obtain ⟨R, hR, h1, h2⟩ := both l hl a l2
  obtain ⟨b, hb⟩ : ∃ b, Ev (fun k => fewCat k a l l2) b := by
    unfold fewCat
    exact few_ev _ _ _ _ _ _ _ _ _ _ _ _ _ _ _ _ _ _ _ _ _ _ _ _ _ _ _ _ _ _ ⟨⟨by simp, fun c hc => by obtain rfl := List.mem_singleton.1 hc; exact hl.1⟩, by simp, fun r hr => by simp at hr⟩ [] (by simp)
  refine Ev.rounds (g := fun k => pentaglotlaw33_ConcreteParams.f k a l l2) ?_
  unfold pentaglotlaw33_ConcreteParams.f
  refine Ev.bind hb ?_
  cases b with
  | false => exact Ev.congr (fun k => by rw [if_neg (by decide)]) (Ev.now _)
  | true =>
    refine Ev.congr (f := fun k => (concrete_Params.f k a l l2).bind fun x => (pentaglotref33_Params.f k a l l2).bind fun y => pentaglotref02_SameAll.f k x y) (fun k => by rw [if_pos rfl]) ?_
    refine Ev.bind h1 (Ev.bind h2 (sameAll_refl R ?_))
    rcases hR with rfl | rfl
    · exact ⟨by simp, fun x hx => by simp at hx⟩
    · exact recs_small l
end Go.Proofs.Ytfbfopfhfeijdaa.PuConcreteParams
