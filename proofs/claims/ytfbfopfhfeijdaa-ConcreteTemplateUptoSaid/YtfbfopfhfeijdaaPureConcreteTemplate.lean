/- ConcreteTemplate, plainly: concrete.Template and the reference answer alike. -/
import Derived.Test.YtfbfopfhfeijdaaStConcreteTemplate
import Derived.Test.YtfbfopfhfeijdaaPlD
namespace Go.Proofs.Ytfbfopfhfeijdaa.PuConcreteTemplate
open Go.RowKit Go.Proofs.Ytfbfopfhfeijdaa.Pr Go.Proofs.Ytfbfopfhfeijdaa.Opn Go.Proofs.YtfbfopfhfeijdaaW.PrintWords Go.Proofs.YtfbfopfhfeijdaaW.PrintLast
set_option linter.unusedVariables false
theorem j0_ev (s : ByteArray) (l : List (List S37)) (b : Bool) (h : b = false → s.size ≤ 60) (hx : Small l) (hl : (Ms.slice (Ms.slice ms37)).bulk l ≤ 1048576) :
    Ev (fun k => pentaglotlaw33_ConcreteTemplate.j0 k s l b) true := by
  cases b with
  | true =>
    refine Ev.step (f := fun _ => some true) (fun k => ?_) (Ev.now _)
    simp only [pentaglotlaw33_ConcreteTemplate.j0, pentaglotlaw33_awake.f]; rfl
  | false =>
    have hs := h rfl
    refine Ev.step (f := fun k => (concrete_Template.f k s l).bind fun bt138 => ((pentaglotref33_Template.f k s l).bind fun bt140 => (if bt138.1.toList = bt140.1.toList then (some (bt138.2 == bt140.2)) else (some false)))) (fun k => ?_) ?_
    · simp only [pentaglotlaw33_ConcreteTemplate.j0]; rw [if_neg (by simp)]
    · refine Ev.bind (tmpl_ev l s (by omega) hl) (Ev.bind (refTmpl_ev l hx s (by omega) hl) ?_)
      rw [if_pos rfl, beq_self_eq_true]; exact Ev.now _
theorem ProvedUpto : Upto := by
  intro s l g0 g1 hb
  have hx := small_of g1
  have hl : (Ms.slice (Ms.slice ms37)).bulk l ≤ 1048576 := by omega
  obtain ⟨r1, h1⟩ := records_ev l hx
  refine Ev.rounds (g := fun k => pentaglotlaw33_ConcreteTemplate.f k s l) ?_
  by_cases h60 : (s.size : Int) > 60
  · refine Ev.congr (fun k => ?_) (j0_ev s l true (by simp) hx hl)
    simp only [pentaglotlaw33_ConcreteTemplate.f, pentaglotlaw33_awake.f, Option.bind_some, if_true]
    rw [if_pos h60]
  · refine Ev.congr (f := fun k => (pentaglotlaw33_records.f k l).bind fun t => pentaglotlaw33_ConcreteTemplate.j0 k s l (!t)) (fun k => ?_) ?_
    · simp only [pentaglotlaw33_ConcreteTemplate.f, pentaglotlaw33_awake.f, Option.bind_some, if_true]
      rw [if_neg h60]
    · exact Ev.bind h1 (j0_ev s l _ (fun _ => by omega) hx hl)
end Go.Proofs.Ytfbfopfhfeijdaa.PuConcreteTemplate
