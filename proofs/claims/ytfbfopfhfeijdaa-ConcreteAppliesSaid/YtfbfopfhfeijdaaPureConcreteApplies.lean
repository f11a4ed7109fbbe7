/- ConcreteApplies, plainly: concrete.Applies and the reference answer alike, at every rule and every list of records. -/
import Derived.Test.YtfbfopfhfeijdaaStConcreteApplies
import Derived.Test.YtfbfopfhfeijdaaPlA
namespace Go.Proofs.Ytfbfopfhfeijdaa.PuConcreteApplies
open Go.RowKit Go.Proofs.Ytfbfopfhfeijdaa.Pr Go.Proofs.Ytfbfopfhfeijdaa.Opn Go.Proofs.YtfbfopfhfeijdaaW.PrintWords Go.Proofs.YtfbfopfhfeijdaaW.PrintLast
set_option linter.unusedVariables false

theorem small_of {xs : List (List S37)} (h : (Ms.slice (Ms.slice ms37)).good xs) : Small xs :=
  ⟨by have := h.1; simpa [maxLen] using this, fun x hx => by have := (h.2 x hx).1; simpa [maxLen] using this⟩
theorem j0_ev (xs : List (List S37)) (b : Bool) (a0 : ByteArray) (ys : List (List S37)) (l2 : List S37) (l3 : List S88) (hx : Small xs) (hy : Small ys) :
    Ev (fun k => pentaglotlaw33_ConcreteApplies.j0 k xs b a0 ys l2 l3) true := by
  cases b with
  | true =>
    refine Ev.step (f := fun _ => some true) (fun k => ?_) (Ev.now _)
    simp only [pentaglotlaw33_ConcreteApplies.j0, pentaglotlaw33_awake.f]; rfl
  | false =>
    refine Ev.step (f := fun k => (concrete_Applies.f k a0 ys l2 l3 xs).bind fun t => (pentaglotref33_Applies.f k a0 ys l2 l3 xs).bind fun u => some (t == u)) (fun k => ?_) ?_
    · simp only [pentaglotlaw33_ConcreteApplies.j0]; rw [if_neg (by simp)]
    · refine Ev.bind (applies_ev a0 ys l2 l3 xs hx hy) (Ev.bind (refApplies_ev a0 ys l2 l3 xs hx hy) ?_)
      rw [beq_self_eq_true]; exact Ev.now _
theorem ProvedSaid : Said := by
  intro a0 l1 l2 l3 xs g0 g1
  have hx := small_of g1
  have hy := small_of g0.2.1
  obtain ⟨r1, h1⟩ := records_ev l1 hy
  obtain ⟨r2, h2⟩ := records_ev xs hx
  refine Ev.rounds (g := fun k => pentaglotlaw33_ConcreteApplies.f k a0 l1 l2 l3 xs) ?_
  refine Ev.congr (f := fun k => (pentaglotlaw33_records.f k l1).bind fun t => if t = true then (pentaglotlaw33_records.f k xs).bind fun u => pentaglotlaw33_ConcreteApplies.j0 k xs (!u) a0 l1 l2 l3 else pentaglotlaw33_ConcreteApplies.j0 k xs true a0 l1 l2 l3) (fun k => ?_) ?_
  · simp only [pentaglotlaw33_ConcreteApplies.f, pentaglotlaw33_awake.f, Option.bind_some, if_true]
  · refine Ev.bind h1 ?_
    cases r1 with
    | true => simp only [if_true]; exact Ev.bind h2 (j0_ev xs _ a0 l1 l2 l3 hx hy)
    | false => simp only [Bool.false_eq_true, if_false]; exact j0_ev xs _ a0 l1 l2 l3 hx hy
theorem ProvedUpto : Upto := Said.upto ProvedSaid
end Go.Proofs.Ytfbfopfhfeijdaa.PuConcreteApplies
