/- Template, plainly: the reference. -/
import Derived.Test.YtfbfopfhfeijdaaPlB
namespace Go.Proofs.Ytfbfopfhfeijdaa.Pr
open Go.RowKit Go.Proofs.YtfbfopfhfeijdaaW.PrintWords Go.Proofs.YtfbfopfhfeijdaaW.PrintLast Go.Proofs.YtfbfopfhfeijdaaW.PrintMore
set_option linter.unusedVariables false
set_option linter.unusedSimpArgs false

set_option maxHeartbeats 1000000 in
/-- The reference's Template is the plain law. -/
theorem ref_T (s : ByteArray) (l : List (List S37)) (hx : Small l) (M : Nat) (hM1 : 1 ≤ M) (hM : ∀ i nm v, resolve l i nm = some v → v.size ≤ M) (hsz : s.size ≤ 4611686018427387904) :
    ∀ d (i : Nat) (out : List UInt8), s.size - i ≤ d → i ≤ s.size → out.length + (s.size - i) * M ≤ 140737488355328 →
      Ev (fun k => pentaglotref33_Template.l0 k s l ⟨out.toArray⟩ i) (⟨(T l (s.data.toList.drop i) out).1.toArray⟩, (T l (s.data.toList.drop i) out).2) := by
  have hend : ∀ (i : Nat) (out : List UInt8), ¬ i < s.size → Ev (fun k => pentaglotref33_Template.l0 k s l ⟨out.toArray⟩ i) (⟨(T l (s.data.toList.drop i) out).1.toArray⟩, (T l (s.data.toList.drop i) out).2) := by
    intro i out hi
    rw [drop_end (by rw [← size_list]; exact hi), T_nil]
    refine Ev.step (f := fun _ => some ((⟨out.toArray⟩ : ByteArray), 0)) (fun k => ?_) (Ev.now _)
    simp only [pentaglotref33_Template.l0]; rw [if_neg (by omega)]
  intro d
  induction d with
  | zero => intro i out hd hi hs; exact hend i out (by omega)
  | succ d ih =>
    intro i out hd hi hs
    by_cases hlt : i < s.size
    · have hl : i < s.data.toList.length := by rw [← size_list]; exact hlt
      rw [drop_at hl]
      have hbt := bt_nat s i hl
      have w1 : wrap64 ((i : Int) + 1) = ((i + 1 : Nat) : Int) := wrap_at 1 hlt hsz (by decide)
      have w2 : wrap64 ((i : Int) + 2) = ((i + 2 : Nat) : Int) := wrap_at 2 hlt hsz (by decide)
      have w3 : wrap64 ((i : Int) + 3) = ((i + 3 : Nat) : Int) := wrap_at 3 hlt hsz (by decide)
      have W := Aside0.mk (And.intro w1 (And.intro w2 w3))
      clear w1 w2 w3
      by_cases c : s.data.toList[i] = 36
      · have c' : bt s i = 36 := by rw [hbt]; exact (is_36 _).2 c
        rw [c]
        generalize hr : s.data.toList.drop (i + 1) = r
        have hrl : r.length = s.size - (i + 1) := by rw [← hr, List.length_drop, ← size_list]
        have b0 : bt ⟨r.toArray⟩ 0 = bt s ((i + 1 : Nat) : Int) := by rw [← hr]; exact bt_drop s (i + 1) 0
        have b1 : bt ⟨r.toArray⟩ 1 = bt s ((i + 2 : Nat) : Int) := by rw [← hr]; exact bt_drop s (i + 1) 1
        have b2 : bt ⟨r.toArray⟩ 2 = bt s ((i + 3 : Nat) : Int) := by rw [← hr]; exact bt_drop s (i + 1) 2
        by_cases hb : badL r = true
        · rw [T_bad l hb]
          have ht : Ev (fun k => pentaglotref33_Template.j1 k s l ⟨out.toArray⟩ i true) ((⟨([] : List UInt8).toArray⟩ : ByteArray), (3 : Int)) := by
            refine Ev.step (f := fun _ => some ((⟨#[]⟩ : ByteArray), 3)) (fun k => ?_) (Ev.now _)
            simp only [pentaglotref33_Template.j1, if_true]
          refine Ev.step (fun k => ?_) ht
          simp only [pentaglotref33_Template.l0, W.out.1, W.out.2.1, W.out.2.2, c', refSmall_f, Option.bind_some, if_true]
          rw [if_pos (by omega), if_pos (by omega)]
          by_cases g1 : ((i + 3 : Nat) : Int) ≥ (s.size : Int)
          · rw [if_pos g1]
          · rw [if_neg g1, if_pos (by omega), if_pos (by omega)]
            by_cases g2 : bt s ((i + 1 : Nat) : Int) < 48
            · rw [if_pos g2]
            · rw [if_neg g2]
              by_cases g3 : bt s ((i + 1 : Nat) : Int) > 57
              · rw [if_pos g3]
              · rw [if_neg g3, if_pos (by omega), if_pos (by omega)]
                by_cases g4 : bt s ((i + 2 : Nat) : Int) = 46
                · rw [if_pos g4, if_pos (by omega), if_pos (by omega)]
                  have g5 : sm (bt s ((i + 3 : Nat) : Int)) = false := by
                    rcases (badL_iff b0 b1 b2).1 hb with hb | hb | hb | hb | hb
                    · omega
                    · omega
                    · omega
                    · exact absurd g4 hb
                    · exact hb
                  rw [g5]; rfl
                · rw [if_neg g4]
        · have hb' := hb
          rw [badL_iff b0 b1 b2] at hb'
          simp only [not_or] at hb'
          obtain ⟨q1, q2, q3, q4, q5⟩ := hb'
          have q4 := Decidable.not_not.1 q4
          have q5 : sm (bt s ((i + 3 : Nat) : Int)) = true := by simpa using q5
          have hmod : ((bt s ((i + 1 : Nat) : Int)) - 48) % 256 = bt s ((i + 1 : Nat) : Int) - 48 := by omega
          -- the name's end
          have hj3 : Ev (fun k => pentaglotref33_Template.j3 k s l ⟨out.toArray⟩ i (bt s ((i + 1 : Nat) : Int) - 48) ((i + 3 + ((s.data.toList.drop (i + 3)).takeWhile smB).length : Nat) : Int)) (⟨(T l (36 :: r) out).1.toArray⟩, (T l (36 :: r) out).2) := by
            have hd3 : s.data.toList.drop (i + 3) = r.drop 2 := by rw [← hr, List.drop_drop]
            rw [hd3]
            have hnl : ((r.drop 2).takeWhile smB).length ≤ (r.drop 2).length := (List.takeWhile_sublist smB).length_le
            rw [List.length_drop] at hnl
            have hname : s.extract (i + 3) (i + 3 + ((r.drop 2).takeWhile smB).length) = ⟨((r.drop 2).takeWhile smB).toArray⟩ := by
              rw [extract_list, hd3, Nat.add_sub_cancel_left]
              congr 2
              have e := congrArg (List.take ((r.drop 2).takeWhile smB).length) (List.takeWhile_append_dropWhile (p := smB) (l := r.drop 2))
              rw [List.take_left] at e
              exact e.symm
            by_cases hq : bt s ((i + 1 : Nat) : Int) - 48 < (l.length : Int)
            · have hqn : ((bt s ((i + 1 : Nat) : Int) - 48).toNat : Int) = bt s ((i + 1 : Nat) : Int) - 48 := Int.toNat_of_nonneg (by omega)
              generalize hQ : (bt s ((i + 1 : Nat) : Int) - 48).toNat = Q at hqn
              have hQl : Q < l.length := by omega
              have hval := value_ev l[Q] ⟨((r.drop 2).takeWhile smB).toArray⟩ (hx.2 _ (List.getElem_mem hQl))
              have hres : resolve l (bt ⟨r.toArray⟩ 0 - 48) ⟨((r.drop 2).takeWhile smB).toArray⟩ = valFrom l[Q] ⟨((r.drop 2).takeWhile smB).toArray⟩ 0 := by
                unfold resolve
                rw [b0, if_pos hq, hQ]
                simp [List.getD_eq_getElem?_getD, hQl]
              refine Ev.step (f := fun k => (pentaglotref33_value.f k l[Q] ⟨((r.drop 2).takeWhile smB).toArray⟩).bind fun bt133 => (if bt133.2 = true then (if (⟨out.toArray⟩ : ByteArray).size + bt133.1.size ≤ 9223372036854775807 then (pentaglotref33_Template.l0 k s l ((⟨out.toArray⟩ : ByteArray) ++ bt133.1) ((i + 3 + ((r.drop 2).takeWhile smB).length : Nat) : Int)) else (none)) else (some ((⟨#[]⟩ : ByteArray), 4)))) (fun k => ?_) ?_
              · simp only [pentaglotref33_Template.j3, W.out.2.2, ← hqn]
                rw [if_neg (by omega), if_pos (by omega), if_pos (by omega), if_pos (by omega), if_pos (by omega), if_pos (by omega), rd_rec hQl, Int.toNat_natCast, Int.toNat_natCast, hname]
              · refine Ev.bind hval ?_
                cases ev : valFrom l[Q] ⟨((r.drop 2).takeWhile smB).toArray⟩ 0 with
                | none =>
                  rw [T_none l hb out (by rw [hres, ev])]
                  simp only [Option.isSome_none, Bool.false_eq_true, if_false]
                  exact Ev.now _
                | some v =>
                  have hv : v.size ≤ M := hM _ _ _ (by rw [hres, ev])
                  have hv' : v.data.toList.length = v.size := (size_list v).symm
                  have hrem : (1 + (s.size - (i + 3 + ((r.drop 2).takeWhile smB).length))) * M ≤ (s.size - i) * M := Nat.mul_le_mul_right M (by omega)
                  rw [Nat.add_mul, Nat.one_mul] at hrem
                  rw [T_some l hb out (by rw [hres, ev])]
                  have hap : (⟨out.toArray⟩ : ByteArray) ++ v = ⟨(out ++ v.data.toList).toArray⟩ := by
                    rw [← append_list, ba_eta]
                  refine Ev.congr (f := fun k => pentaglotref33_Template.l0 k s l ⟨(out ++ v.data.toList).toArray⟩ ((i + 3 + ((r.drop 2).takeWhile smB).length : Nat) : Int)) (fun k => ?_) ?_
                  · show (if true = true then (if (⟨out.toArray⟩ : ByteArray).size + v.size ≤ 9223372036854775807 then (pentaglotref33_Template.l0 k s l ((⟨out.toArray⟩ : ByteArray) ++ v) ((i + 3 + ((r.drop 2).takeWhile smB).length : Nat) : Int)) else (none)) else (some ((⟨#[]⟩ : ByteArray), 4))) = _
                    rw [if_pos rfl, if_pos (by rw [ba_size]; omega), hap]
                  have hdw : (r.drop 2).dropWhile smB = s.data.toList.drop (i + 3 + ((r.drop 2).takeWhile smB).length) := by
                    rw [← drop_take_while, ← hd3, List.drop_drop]
                  rw [hdw]
                  exact ih _ _ (by omega) (by omega) (by rw [List.length_append]; omega)
            · have hres : resolve l (bt ⟨r.toArray⟩ 0 - 48) ⟨((r.drop 2).takeWhile smB).toArray⟩ = none := by
                unfold resolve; rw [b0, if_neg hq]
              rw [T_none l hb out hres]
              refine Ev.step (f := fun _ => some ((⟨#[]⟩ : ByteArray), 4)) (fun k => ?_) (Ev.now _)
              simp only [pentaglotref33_Template.j3]
              rw [if_pos (by omega)]
          have hl1 : ∀ e (j : Nat), s.size - j = e → i + 3 ≤ j → j ≤ s.size → j + ((s.data.toList.drop j).takeWhile smB).length = i + 3 + ((s.data.toList.drop (i + 3)).takeWhile smB).length → Ev (fun k => pentaglotref33_Template.l1 k s l ⟨out.toArray⟩ i (bt s ((i + 1 : Nat) : Int) - 48) (j : Int)) (⟨(T l (36 :: r) out).1.toArray⟩, (T l (36 :: r) out).2) := by
            intro e
            induction e with
            | zero =>
              intro j he h3 hjs hj
              rw [drop_end (by rw [← size_list]; omega)] at hj
              refine Ev.step (fun k => ?_) hj3
              simp only [pentaglotref33_Template.l1]
              rw [if_neg (by omega), ← hj]; rfl
            | succ e ihe =>
              intro j he h3 hjs hj
              have hjl : j < s.data.toList.length := by rw [← size_list]; omega
              have hbj := bt_nat s j hjl
              rw [drop_at hjl, List.takeWhile_cons] at hj
              cases es : sm (bt s j) with
              | true =>
                have es' : smB s.data.toList[j] = true := by unfold smB; rw [← hbj]; exact es
                rw [es'] at hj
                simp only [if_true, List.length_cons] at hj
                refine Ev.step (fun k => ?_) (ihe (j + 1) (by omega) (by omega) (by omega) (by omega))
                simp only [pentaglotref33_Template.l1, refSmall_f, es, Option.bind_some, if_true]
                rw [if_pos (by omega), if_pos (by omega), wrap_next (show j < s.size by omega) (by omega)]
              | false =>
                have es' : smB s.data.toList[j] = false := by unfold smB; rw [← hbj]; exact es
                rw [es'] at hj
                simp only [Bool.false_eq_true, if_false, List.length_nil] at hj
                refine Ev.step (fun k => ?_) hj3
                simp only [pentaglotref33_Template.l1, refSmall_f, es, Option.bind_some, Bool.false_eq_true, if_false]
                rw [if_pos (by omega), if_pos (by omega), ← hj]; rfl
          have hj1 : Ev (fun k => pentaglotref33_Template.j1 k s l ⟨out.toArray⟩ i false) (⟨(T l (36 :: r) out).1.toArray⟩, (T l (36 :: r) out).2) := by
            refine Ev.step (fun k => ?_) (hl1 _ (i + 3) rfl (by omega) (by omega) rfl)
            simp only [pentaglotref33_Template.j1, W.out.1, W.out.2.2, hmod]
            rw [if_neg (by simp), if_pos (by omega), if_pos (by omega)]
          refine Ev.step (fun k => ?_) hj1
          simp only [pentaglotref33_Template.l0, W.out.1, W.out.2.1, W.out.2.2, c', refSmall_f, Option.bind_some, if_true]
          rw [if_pos (by omega), if_pos (by omega), if_neg (by omega), if_pos (by omega), if_pos (by omega), if_neg (by omega), if_neg (by omega), if_pos (by omega), if_pos (by omega), if_pos (by omega), if_pos (by omega), if_pos (by omega), q5]
          rfl
      · have c' : ¬ bt s i = 36 := by rw [hbt]; exact fun h => c ((is_36 _).1 h)
        rw [T_lit l c]
        have hex : s.extract i (i + 1) = ⟨[s.data.toList[i]].toArray⟩ := by
          rw [extract_list, drop_at hl, Nat.add_sub_cancel_left, List.take_succ_cons, List.take_zero]
        have hrem : (1 + (s.size - (i + 1))) * M ≤ (s.size - i) * M := Nat.mul_le_mul_right M (by omega)
        rw [Nat.add_mul, Nat.one_mul] at hrem
        refine Ev.step (fun k => ?_) (ih (i + 1) (out ++ [s.data.toList[i]]) (by omega) (by omega) (by rw [List.length_append, List.length_singleton]; omega))
        simp only [pentaglotref33_Template.l0, W.out.1]
        rw [if_pos (by omega), if_pos (by omega), if_neg c', if_pos (by omega), if_pos (by omega), Int.toNat_natCast, Int.toNat_natCast, hex, append_list, ba_size, ba_size, if_pos (by rw [List.length_singleton]; omega)]
    · exact hend i out hlt

end Go.Proofs.Ytfbfopfhfeijdaa.Pr
