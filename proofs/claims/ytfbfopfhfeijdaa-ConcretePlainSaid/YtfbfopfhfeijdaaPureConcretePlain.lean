/- ConcretePlain, plainly: a template without a dollar sign stands for itself. -/
import Derived.Test.YtfbfopfhfeijdaaStConcretePlain
import Derived.Test.YtfbfopfhfeijdaaPlD
namespace Go.Proofs.Ytfbfopfhfeijdaa.PuConcretePlain
open Go.RowKit Go.Proofs.Ytfbfopfhfeijdaa.Pr Go.Proofs.Ytfbfopfhfeijdaa.Opn Go.Proofs.YtfbfopfhfeijdaaW.PrintWords Go.Proofs.YtfbfopfhfeijdaaW.PrintLast
set_option linter.unusedVariables false
theorem plain_ev (s : ByteArray) (l : List (List S37)) (hs : s.size ≤ 60) (h : (36 : UInt8) ∉ s.data.toList) : Ev (fun k => concrete_Template.f k s l) (s, (0 : Int)) := by
  refine ⟨1, fun k hk => ?_⟩
  obtain ⟨n, rfl⟩ : ∃ n, k = n + 1 := ⟨k - 1, by omega⟩
  have hl : s.data.toList.length ≤ 60 := by rw [← size_list]; exact hs
  show (if s.size ≤ 140737488355328 then tpl l (n + 1) s [] else none) = some (s, 0)
  rw [if_pos (by omega)]
  simp only [tpl, cut1_none _ h, List.nil_append]
  rw [if_neg (by omega), if_pos trivial, ba_eta]
theorem l0_ev (s : ByteArray) (l : List (List S37)) (hs : s.size ≤ 60) : ∀ d (i : Nat), s.size - i = d → (36 : UInt8) ∉ s.data.toList.take i → Ev (fun k => pentaglotlaw33_ConcretePlain.l0 k s l i) true := by
  intro d
  induction d with
  | zero =>
    intro i hd hn
    rw [List.take_of_length_le (by rw [← size_list]; omega)] at hn
    refine Ev.step (f := fun k => (concrete_Template.f k s l).bind fun bt145 => (if bt145.1.toList = s.toList then (some (bt145.2 == 0)) else (some false))) (fun k => ?_) (Ev.bind (plain_ev s l hs hn) ?_)
    · simp only [pentaglotlaw33_ConcretePlain.l0]; rw [if_neg (by omega)]
    · rw [if_pos rfl]; exact Ev.now _
  | succ d ih =>
    intro i hd hn
    have hi : i < s.data.toList.length := by rw [← size_list]; omega
    have hb := bt_nat s i hi
    by_cases c : s.data.toList[i] = 36
    · have c' : bt s i = 36 := by rw [hb]; exact (is_36 _).2 c
      refine Ev.step (f := fun _ => some true) (fun k => ?_) (Ev.now _)
      simp only [pentaglotlaw33_ConcretePlain.l0]; rw [if_pos (by omega), if_pos (by omega), if_pos c']
    · have c' : ¬ bt s i = 36 := by rw [hb]; exact fun h => c ((is_36 _).1 h)
      refine Ev.step (fun k => ?_) (ih (i + 1) (by omega) ?_)
      · simp only [pentaglotlaw33_ConcretePlain.l0]; rw [if_pos (by omega), if_pos (by omega), if_neg c', wrap_next (show i < s.size by omega) (by omega)]
      · rw [List.take_succ_eq_append_getElem hi]
        intro h
        rcases List.mem_append.1 h with h | h
        · exact hn h
        · rw [List.mem_singleton] at h; exact c h.symm
theorem j0_ev (s : ByteArray) (l : List (List S37)) (b : Bool) (h : b = false → s.size ≤ 60) : Ev (fun k => pentaglotlaw33_ConcretePlain.j0 k s l b) true := by
  cases b with
  | true =>
    refine Ev.step (f := fun _ => some true) (fun k => ?_) (Ev.now _)
    simp only [pentaglotlaw33_ConcretePlain.j0, pentaglotlaw33_awake.f]; rfl
  | false =>
    refine Ev.step (fun k => ?_) (l0_ev s l (h rfl) _ 0 rfl (by simp))
    simp only [pentaglotlaw33_ConcretePlain.j0]; rw [if_neg (by simp)]; rfl
theorem ProvedSaid : Said := by
  intro s l g0 g1
  have hx := small_of g1
  obtain ⟨r1, h1⟩ := records_ev l hx
  refine Ev.rounds (g := fun k => pentaglotlaw33_ConcretePlain.f k s l) ?_
  by_cases h60 : (s.size : Int) > 60
  · refine Ev.congr (fun k => ?_) (j0_ev s l true (by simp))
    simp only [pentaglotlaw33_ConcretePlain.f, pentaglotlaw33_awake.f, Option.bind_some, if_true]
    rw [if_pos h60]
  · refine Ev.congr (f := fun k => (pentaglotlaw33_records.f k l).bind fun t => pentaglotlaw33_ConcretePlain.j0 k s l (!t)) (fun k => ?_) ?_
    · simp only [pentaglotlaw33_ConcretePlain.f, pentaglotlaw33_awake.f, Option.bind_some, if_true]
      rw [if_neg h60]
    · exact Ev.bind h1 (j0_ev s l _ (fun _ => by omega))
theorem ProvedUpto : Upto := Said.upto ProvedSaid
end Go.Proofs.Ytfbfopfhfeijdaa.PuConcretePlain
