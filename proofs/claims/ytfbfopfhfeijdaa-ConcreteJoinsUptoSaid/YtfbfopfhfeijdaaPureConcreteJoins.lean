/- ConcreteJoins, plainly: two templates joined stand for what they stand for, joined. -/
import Derived.Test.YtfbfopfhfeijdaaStConcreteJoins
import Derived.Test.YtfbfopfhfeijdaaPlD
namespace Go.Proofs.Ytfbfopfhfeijdaa.PuConcreteJoins
open Go.RowKit Go.Proofs.Ytfbfopfhfeijdaa.Pr Go.Proofs.Ytfbfopfhfeijdaa.Opn Go.Proofs.YtfbfopfhfeijdaaW.PrintWords Go.Proofs.YtfbfopfhfeijdaaW.PrintLast
set_option linter.unusedVariables false
theorem TT_join (l : List (List S37)) (s t : ByteArray) (h0 : (TT l s).2 = 0) (h1 : (TT l t).2 = 0) (hb : ∀ h : 0 < t.data.toList.length, smB t.data.toList[0] = false) : TT l (s ++ t) = ((TT l s).1 ++ (TT l t).1, 0) := by
  have ha : (s ++ t).data.toList = s.data.toList ++ t.data.toList := by rw [ByteArray.data_append]; simp
  unfold TT at *
  simp only at h0 h1
  rw [ha, T_append l _ hb _ _ _ (Nat.le_refl _) h0, T_acc l _ t.data.toList _ (Nat.le_refl _), if_pos h1, append_list]
theorem j1_ev (s t : ByteArray) (l : List (List S37)) (b : Bool) (hs : s.size ≤ 60) (ht : t.size ≤ 60) (hb : b = false → ∀ h : 0 < t.data.toList.length, smB t.data.toList[0] = false) (hl : (Ms.slice (Ms.slice ms37)).bulk l ≤ 1048576) :
    Ev (fun k => pentaglotlaw33_ConcreteJoins.j1 k s t l b) true := by
  cases b with
  | true =>
    refine Ev.step (f := fun _ => some true) (fun k => ?_) (Ev.now _)
    simp only [pentaglotlaw33_ConcreteJoins.j1, if_true]
  | false =>
    refine Ev.step (f := fun k => (concrete_Template.f k s l).bind fun bt150 => ((concrete_Template.f k t l).bind fun bt152 => (if bt150.2 = 0 then (if bt152.2 = 0 then (if s.size + t.size ≤ 9223372036854775807 then ((concrete_Template.f k (s ++ t) l).bind fun bt154 => (if bt150.1.size + bt152.1.size ≤ 9223372036854775807 then (if bt154.1.toList = (bt150.1 ++ bt152.1).toList then (some (bt154.2 == 0)) else (some false)) else (none))) else (none)) else (some true)) else (some true)))) (fun k => ?_) ?_
    · simp only [pentaglotlaw33_ConcreteJoins.j1]; rw [if_neg (by simp)]
    · refine Ev.bind (tmpl_ev l s (by omega) hl) (Ev.bind (tmpl_ev l t (by omega) hl) ?_)
      by_cases h0 : (TT l s).2 = 0
      · by_cases h1 : (TT l t).2 = 0
        · have hz : (s ++ t).size ≤ 120 := by rw [ByteArray.size_append]; omega
          have l0 := TT_len l s (by omega) hl
          have l1 := TT_len l t (by omega) hl
          refine Ev.congr (f := fun k => (concrete_Template.f k (s ++ t) l).bind fun bt154 => (if (TT l s).1.size + (TT l t).1.size ≤ 9223372036854775807 then (if bt154.1.toList = ((TT l s).1 ++ (TT l t).1).toList then (some (bt154.2 == 0)) else (some false)) else (none))) (fun k => ?_) ?_
          · rw [if_pos h0, if_pos h1, if_pos (by omega)]
          · refine Ev.bind (tmpl_ev l (s ++ t) hz hl) ?_
            rw [if_pos (by omega), TT_join l s t h0 h1 (hb rfl), if_pos rfl]
            exact Ev.now _
        · refine Ev.congr (fun k => ?_) (Ev.now true)
          rw [if_pos h0, if_neg h1]
      · refine Ev.congr (fun k => ?_) (Ev.now true)
        rw [if_neg h0]
theorem j0_ev (s t : ByteArray) (l : List (List S37)) (b : Bool) (h : b = false → s.size ≤ 60 ∧ t.size ≤ 60) (hl : (Ms.slice (Ms.slice ms37)).bulk l ≤ 1048576) :
    Ev (fun k => pentaglotlaw33_ConcreteJoins.j0 k s t l b) true := by
  cases b with
  | true =>
    refine Ev.step (f := fun _ => some true) (fun k => ?_) (Ev.now _)
    simp only [pentaglotlaw33_ConcreteJoins.j0, pentaglotlaw33_awake.f]; rfl
  | false =>
    obtain ⟨hs, ht⟩ := h rfl
    by_cases h0 : (t.size : Int) > 0
    · have hi : 0 < t.data.toList.length := by rw [← size_list]; omega
      have hb : bt t 0 = ((t.data.toList[0]'hi).toNat : Int) := bt_nat t 0 hi
      refine Ev.step (fun k => ?_) (j1_ev s t l (sm (bt t 0)) hs ht (fun e _ => by unfold smB; rw [← hb]; exact e) hl)
      simp only [pentaglotlaw33_ConcreteJoins.j0]
      rw [if_neg (by simp), if_pos h0, if_pos (by omega)]
      unfold sm
      by_cases g1 : bt t 0 ≥ 97
      · rw [if_pos g1]
        by_cases g2 : bt t 0 ≤ 122
        · rw [if_pos g2, decide_eq_true (Or.inl ⟨g1, g2⟩)]
        · rw [if_neg g2]
          by_cases g3 : bt t 0 ≥ 48
          · rw [if_pos g3]; congr 1; apply decide_eq_decide.2; omega
          · rw [if_neg g3]; congr 1; symm; apply decide_eq_false; omega
      · rw [if_neg g1]
        by_cases g3 : bt t 0 ≥ 48
        · rw [if_pos g3]; congr 1; apply decide_eq_decide.2; omega
        · rw [if_neg g3]; congr 1; symm; apply decide_eq_false; omega
    · refine Ev.step (fun k => ?_) (j1_ev s t l false hs ht (fun _ h => by rw [← size_list] at h; omega) hl)
      simp only [pentaglotlaw33_ConcreteJoins.j0]
      rw [if_neg (by simp), if_neg h0]
theorem ProvedUpto : Upto := by
  intro s t l g0 g1 g2 hb
  have hx := small_of g2
  have hl : (Ms.slice (Ms.slice ms37)).bulk l ≤ 1048576 := by omega
  obtain ⟨r1, h1⟩ := records_ev l hx
  refine Ev.rounds (g := fun k => pentaglotlaw33_ConcreteJoins.f k s t l) ?_
  by_cases h60 : (s.size : Int) > 60
  · refine Ev.congr (fun k => ?_) (j0_ev s t l true (by simp) hl)
    simp only [pentaglotlaw33_ConcreteJoins.f, pentaglotlaw33_awake.f, Option.bind_some, if_true]
    rw [if_pos h60]
  · by_cases h61 : (t.size : Int) > 60
    · refine Ev.congr (fun k => ?_) (j0_ev s t l true (by simp) hl)
      simp only [pentaglotlaw33_ConcreteJoins.f, pentaglotlaw33_awake.f, Option.bind_some, if_true]
      rw [if_neg h60, if_pos h61]
    · refine Ev.congr (f := fun k => (pentaglotlaw33_records.f k l).bind fun t' => pentaglotlaw33_ConcreteJoins.j0 k s t l (!t')) (fun k => ?_) ?_
      · simp only [pentaglotlaw33_ConcreteJoins.f, pentaglotlaw33_awake.f, Option.bind_some, if_true]
        rw [if_neg h60, if_neg h61]
      · exact Ev.bind h1 (j0_ev s t l _ (fun _ => ⟨by omega, by omega⟩) hl)
end Go.Proofs.Ytfbfopfhfeijdaa.PuConcreteJoins
