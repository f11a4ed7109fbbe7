/- ConcreteResult, plainly: a rule's features with their references replaced, by the implementation and by the reference. -/
import Derived.Test.YtfbfopfhfeijdaaStConcreteResult
import Derived.Test.YtfbfopfhfeijdaaPlD
namespace Go.Proofs.Ytfbfopfhfeijdaa.PuConcreteResult
open Go.RowKit Go.Proofs.Ytfbfopfhfeijdaa.Pr Go.Proofs.Ytfbfopfhfeijdaa.Opn Go.Proofs.YtfbfopfhfeijdaaW.PrintWords Go.Proofs.YtfbfopfhfeijdaaW.PrintLast
set_option linter.unusedVariables false
/-- What the list of features stands for, behind what has been written. -/
def sub (l : List (List S37)) : List S37 → List S37 → List S37 × Int
  | [], out => (out, 0)
  | f :: fs, out => if (TT l f.f1).2 = 0 then sub l fs (out ++ [⟨f.f0, (TT l f.f1).1⟩]) else ([], (TT l f.f1).2)
theorem subst_ev (l : List (List S37)) (xs : List S37) (hx : xs.length ≤ 10) (hv : ∀ f ∈ xs, f.f1.size ≤ 60) (hl : (Ms.slice (Ms.slice ms37)).bulk l ≤ 1048576) : Ev (fun k => concrete_substitute.f k xs l) (sub l xs []) := by
  have key : ∀ d (i : Nat) (out : List S37), xs.length - i = d → out.length ≤ i → Ev (fun k => concrete_substitute.l0 k l out xs (xs.length : Int) i) (sub l (xs.drop i) out) := by
    intro d
    induction d with
    | zero =>
      intro i out hd ho
      rw [drop_end (by omega)]
      refine Ev.step (f := fun _ => some (out, 0)) (fun k => ?_) (Ev.now _)
      simp only [concrete_substitute.l0]; rw [if_neg (by omega)]
    | succ d ih =>
      intro i out hd ho
      have hi : i < xs.length := by omega
      rw [drop_at hi]
      have hs := hv _ (List.getElem_mem hi)
      refine Ev.step (f := fun k => (concrete_Template.f k (xs[i].f1) l).bind fun bt112 => (if bt112.2 = 0 then (if out.length < 4398046511104 then (concrete_substitute.l0 k l (out ++ [(⟨xs[i].f0, bt112.1⟩ : S37)]) xs (xs.length : Int) (wrap64 ((i : Int) + 1))) else (none)) else (some (([] : List (S37)), bt112.2)))) (fun k => ?_) ?_
      · simp only [concrete_substitute.l0, rd_feat hi]; rw [if_pos (by omega), if_pos (by omega), if_pos (by omega)]
      · refine Ev.bind (tmpl_ev l _ (by omega) hl) ?_
        by_cases h0 : (TT l xs[i].f1).2 = 0
        · refine Ev.congr (f := fun k => concrete_substitute.l0 k l (out ++ [(⟨xs[i].f0, (TT l xs[i].f1).1⟩ : S37)]) xs (xs.length : Int) ((i + 1 : Nat) : Int)) (fun k => ?_) ?_
          · rw [if_pos h0, if_pos (by omega), wrap_next hi (by omega)]
          · rw [sub, if_pos h0]
            exact ih (i + 1) _ (by omega) (by rw [List.length_append, List.length_singleton]; omega)
        · rw [sub, if_neg h0]
          refine Ev.congr (fun k => ?_) (Ev.now _)
          rw [if_neg h0]
  have h := key _ 0 [] rfl (by simp)
  rw [List.drop_zero] at h
  exact h
theorem refSubst_ev (l : List (List S37)) (hsm : Small l) (xs : List S37) (hx : xs.length ≤ 10) (hv : ∀ f ∈ xs, f.f1.size ≤ 60) (hl : (Ms.slice (Ms.slice ms37)).bulk l ≤ 1048576) : Ev (fun k => pentaglotref33_Substitute.f k xs l) (sub l xs []) := by
  have key : ∀ d (i : Nat) (out : List S37), xs.length - i = d → out.length ≤ i → Ev (fun k => pentaglotref33_Substitute.l0 k l out xs (xs.length : Int) i) (sub l (xs.drop i) out) := by
    intro d
    induction d with
    | zero =>
      intro i out hd ho
      rw [drop_end (by omega)]
      refine Ev.step (f := fun _ => some (out, 0)) (fun k => ?_) (Ev.now _)
      simp only [pentaglotref33_Substitute.l0]; rw [if_neg (by omega)]
    | succ d ih =>
      intro i out hd ho
      have hi : i < xs.length := by omega
      rw [drop_at hi]
      have hs := hv _ (List.getElem_mem hi)
      refine Ev.step (f := fun k => (pentaglotref33_Template.f k (xs[i].f1) l).bind fun bt112 => (if bt112.2 = 0 then (if out.length < 4398046511104 then (pentaglotref33_Substitute.l0 k l (out ++ [(⟨xs[i].f0, bt112.1⟩ : S37)]) xs (xs.length : Int) (wrap64 ((i : Int) + 1))) else (none)) else (some (([] : List (S37)), bt112.2)))) (fun k => ?_) ?_
      · simp only [pentaglotref33_Substitute.l0, rd_feat hi]; rw [if_pos (by omega), if_pos (by omega), if_pos (by omega)]
      · refine Ev.bind (refTmpl_ev l hsm _ (by omega) hl) ?_
        by_cases h0 : (TT l xs[i].f1).2 = 0
        · refine Ev.congr (f := fun k => pentaglotref33_Substitute.l0 k l (out ++ [(⟨xs[i].f0, (TT l xs[i].f1).1⟩ : S37)]) xs (xs.length : Int) ((i + 1 : Nat) : Int)) (fun k => ?_) ?_
          · rw [if_pos h0, if_pos (by omega), wrap_next hi (by omega)]
          · rw [sub, if_pos h0]
            exact ih (i + 1) _ (by omega) (by rw [List.length_append, List.length_singleton]; omega)
        · rw [sub, if_neg h0]
          refine Ev.congr (fun k => ?_) (Ev.now _)
          rw [if_neg h0]
  have h := key _ 0 [] rfl (by simp)
  rw [List.drop_zero] at h
  exact h
theorem sub_len (l : List (List S37)) : ∀ xs out : List S37, (sub l xs out).1.length ≤ out.length + xs.length := by
  intro xs
  induction xs with
  | nil => intro out; simp [sub]
  | cons f fs ih =>
    intro out
    rw [sub]
    split
    · have := ih (out ++ [⟨f.f0, (TT l f.f1).1⟩]); rw [List.length_append, List.length_singleton] at this; rw [List.length_cons]; omega
    · simp
theorem same_ev (xs : List S37) (hx : xs.length ≤ 10) : Ev (fun k => pentaglotref02_Same.f k xs xs) true := by
  have key : ∀ d (i : Nat), xs.length - i = d → Ev (fun k => pentaglotref02_Same.l0 k xs xs i) true := by
    intro d
    induction d with
    | zero =>
      intro i hd
      refine Ev.step (f := fun _ => some true) (fun k => ?_) (Ev.now _)
      simp only [pentaglotref02_Same.l0]; rw [if_neg (by omega)]
    | succ d ih =>
      intro i hd
      have hi : i < xs.length := by omega
      refine Ev.step (fun k => ?_) (ih (i + 1) (by omega))
      simp only [pentaglotref02_Same.l0, rd_feat hi]
      rw [if_pos (by omega), if_pos (by omega), if_pos (by omega), if_neg (by simp), wrap_next hi (by omega)]
  refine Ev.congr (fun k => ?_) (key _ 0 rfl)
  simp only [pentaglotref02_Same.f, if_true]; rfl
theorem l0_ev (a0 : ByteArray) (ys : List (List S37)) (l2 : List S37) (l3 : List S88) (l : List (List S37)) (hsm : Small l) (hx : l2.length ≤ 10) (hl : (Ms.slice (Ms.slice ms37)).bulk l ≤ 1048576) : ∀ d (i : Nat), l2.length - i = d → (∀ f ∈ l2.take i, f.f1.size ≤ 60) →
    Ev (fun k => pentaglotlaw33_ConcreteResult.l0 k l i a0 ys l2 l3) true := by
  intro d
  induction d with
  | zero =>
    intro i hd hv
    rw [List.take_of_length_le (by omega)] at hv
    refine Ev.step (f := fun k => (concrete_Result.f k a0 ys l2 l3 l).bind fun bt207 => ((pentaglotref33_Result.f k a0 ys l2 l3 l).bind fun bt211 => (if bt207.2 = bt211.2 then ((pentaglotref02_Same.f k bt207.1 bt211.1).bind fun t215 => (some t215)) else (some false)))) (fun k => ?_) ?_
    · simp only [pentaglotlaw33_ConcreteResult.l0]; rw [if_neg (by omega)]
    · have h1 : Ev (fun k => concrete_Result.f k a0 ys l2 l3 l) (sub l l2 []) := Ev.bind (subst_ev l l2 hx hv hl) (Ev.now _)
      have h2 : Ev (fun k => pentaglotref33_Result.f k a0 ys l2 l3 l) (sub l l2 []) := Ev.bind (refSubst_ev l hsm l2 hx hv hl) (Ev.now _)
      refine Ev.bind h1 (Ev.bind h2 ?_)
      refine Ev.congr (f := fun k => (pentaglotref02_Same.f k (sub l l2 []).1 (sub l l2 []).1).bind fun t215 => (some t215)) (fun k => ?_) ?_
      · rw [if_pos rfl]
      · exact Ev.bind (same_ev _ (by have := sub_len l l2 []; rw [List.length_nil] at this; omega)) (Ev.now _)
  | succ d ih =>
    intro i hd hv
    have hi : i < l2.length := by omega
    by_cases h60 : (l2[i].f1.size : Int) > 60
    · refine Ev.step (f := fun _ => some true) (fun k => ?_) (Ev.now _)
      simp only [pentaglotlaw33_ConcreteResult.l0, rd_feat hi]; rw [if_pos (by omega), if_pos (by omega), if_pos h60]
    · refine Ev.step (fun k => ?_) (ih (i + 1) (by omega) ?_)
      · simp only [pentaglotlaw33_ConcreteResult.l0, rd_feat hi]; rw [if_pos (by omega), if_pos (by omega), if_neg h60, wrap_next hi (by omega)]
      · intro f hf
        rw [List.take_succ_eq_append_getElem hi] at hf
        rcases List.mem_append.1 hf with hf | hf
        · exact hv f hf
        · rw [List.mem_singleton] at hf; subst hf; omega
theorem j0_ev (a0 : ByteArray) (ys : List (List S37)) (l2 : List S37) (l3 : List S88) (l : List (List S37)) (b : Bool) (hsm : Small l) (hx : b = false → l2.length ≤ 10) (hl : (Ms.slice (Ms.slice ms37)).bulk l ≤ 1048576) :
    Ev (fun k => pentaglotlaw33_ConcreteResult.j0 k l b a0 ys l2 l3) true := by
  cases b with
  | true =>
    refine Ev.step (f := fun _ => some true) (fun k => ?_) (Ev.now _)
    simp only [pentaglotlaw33_ConcreteResult.j0, pentaglotlaw33_awake.f]; rfl
  | false =>
    refine Ev.step (fun k => ?_) (l0_ev a0 ys l2 l3 l hsm (hx rfl) hl _ 0 rfl (by simp))
    simp only [pentaglotlaw33_ConcreteResult.j0]; rw [if_neg (by simp)]; rfl
theorem ProvedUpto : Upto := by
  intro a0 ys l2 l3 l g0 g1 hb
  have hx := small_of g1
  have hl : (Ms.slice (Ms.slice ms37)).bulk l ≤ 1048576 := by omega
  obtain ⟨r1, h1⟩ := records_ev l hx
  refine Ev.rounds (g := fun k => pentaglotlaw33_ConcreteResult.f k a0 ys l2 l3 l) ?_
  refine Ev.congr (f := fun k => (pentaglotlaw33_records.f k l).bind fun t => (if t = true then (pentaglotlaw33_ConcreteResult.j0 k l (decide ((l2.length : Int) > 10)) a0 ys l2 l3) else (pentaglotlaw33_ConcreteResult.j0 k l true a0 ys l2 l3))) (fun k => ?_) ?_
  · simp only [pentaglotlaw33_ConcreteResult.f, pentaglotlaw33_awake.f, Option.bind_some, if_true]
  · refine Ev.bind h1 ?_
    cases r1 with
    | true => simp only [if_true]; exact j0_ev a0 ys l2 l3 l _ hx (fun e => by have := of_decide_eq_false e; omega) hl
    | false => simp only [Bool.false_eq_true, if_false]; exact j0_ev a0 ys l2 l3 l true hx (by simp) hl
end Go.Proofs.Ytfbfopfhfeijdaa.PuConcreteResult
