-- Written by a program of this session (ownprint.py, over the kit's printer). Not trusted: Lean checks it.
import Derived.Test.YtfbfopfhfeijdaaPr0
import Derived.Test.YtfbfopfhfeijdaaCt
namespace Go.Proofs.Ytfbfopfhfeijdaa.Pr
open Go.Proofs.Ytfbfopfhfeijdaa.Ct Go.RowKit Go.Proofs.YtfbfopfhfeijdaaW.PrintWords Go.Proofs.YtfbfopfhfeijdaaW.PrintLast Go.Proofs.YtfbfopfhfeijdaaW.PrintMore
attribute [local go_sem] max2_int min2_int max_two min_two max_three min_three max_four min_four   -- for this text's walks alone
set_option linter.unusedVariables false
set_option linter.unusedSimpArgs false

/-! ### pentaglotlaw33_records: function 13 -/
mutual
def pentaglotlaw33_records.l0 : Nat → List (List (S37)) → Int → Option (Bool)
 | 0, _, _ => none
 | k + 1, x0, x3 => if x3 < (x0.length : Int) then (if 0 ≤ x3 then (if ((rd_L2 x0 x3).length : Int) > 10 then (some false) else (pentaglotlaw33_records.l1 k x0 x3 0)) else (none)) else (some (decide ((x0.length : Int) ≤ 6)))
def pentaglotlaw33_records.l1 : Nat → List (List (S37)) → Int → Int → Option (Bool)
 | 0, _, _, _ => none
 | k + 1, x0, x3, x4 => if 0 ≤ x3 then (if x3 < (x0.length : Int) then (if x4 < ((rd_L2 x0 x3).length : Int) then (pentaglotlaw33_records.l2 k x0 x3 x4 0) else (pentaglotlaw33_records.l0 k x0 (wrap64 (x3 + 1)))) else (none)) else (none)
def pentaglotlaw33_records.l2 : Nat → List (List (S37)) → Int → Int → Int → Option (Bool)
 | 0, _, _, _, _ => none
 | k + 1, x0, x3, x4, x5 => if x5 < x4 then (if 0 ≤ x3 then (if x3 < (x0.length : Int) then (if 0 ≤ x5 then (if x5 < ((rd_L2 x0 x3).length : Int) then (if 0 ≤ x4 then (if x4 < ((rd_L2 x0 x3).length : Int) then (if ((rd_T37 (rd_L2 x0 x3) x5).f0).toList = ((rd_T37 (rd_L2 x0 x3) x4).f0).toList then (some false) else (pentaglotlaw33_records.l2 k x0 x3 x4 (wrap64 (x5 + 1)))) else (none)) else (none)) else (none)) else (none)) else (none)) else (none)) else (pentaglotlaw33_records.l1 k x0 x3 (wrap64 (x4 + 1)))
end
def pentaglotlaw33_records.f (k : Nat) (l0 : List (List (S37))) : Option (Bool) := pentaglotlaw33_records.l0 k l0 0
set_option maxHeartbeats 8000000 in
set_option maxRecDepth 100000 in
theorem pentaglotlaw33_records.calls (k : Nat) (A0 : Option Addr) (c0 : Nat) (l0 : List (List (S37))) (r : Bool) (w : World) (hr0 : Kd.C (Kd.slice 37 k37) w A0 l0.length l0) (hc0 : l0.length ≤ c0) (h : pentaglotlaw33_records.f k l0 = some r) :
 Calls Try.prog 13 #[.slice A0 l0.length c0] w fun e w' => e = .returned (.bool r) ∧ Drawn0 w w' := by
 have HR0 := Aside0.mk hr0
 have HC0 := Aside0.mk hc0
 clear hr0 hc0
 have H : (pentaglotlaw33_records.l0 k l0 0) = some r := h
 clear h
 have H' := Aside0.mk H
 clear H
 go_enter Try.func13, Try.ntmps13
 go_wp2
 repeat (go_quiet (fail); try go_wp2)
 go_loopg [3] k (fun kq v3 w' => ∃ (x3_1 : Int), v3 = .int .i64 x3_1 ∧ Aside0 (pentaglotlaw33_records.l0 kq l0 x3_1 = some r) ∧ Aside0 (kq ≤ k) ∧ Drawn0 w w')
 case atStart => exact ⟨(0), tV1, H', ⟨Nat.le_refl _⟩, by repeat (first | exact Drawn0.refl _ | apply Drawn0.step)⟩
 case round =>
  clear H'
  obtain ⟨x3_1, rfl, HA, HK1, ⟨m1, rfl⟩⟩ := hrel
  cases gk with
  | zero => exact absurd HA.out (by simp [pentaglotlaw33_records.l0])
  | succ k1 =>
   have H := HA.out
   clear HA
   simp only [pentaglotlaw33_records.l0] at H
   by_cases c2 : x3_1 < (l0.length : Int)
   ·
    rw [if_pos c2] at H
    have c2b0 : decide (x3_1 < (l0.length : Int)) = true := decide_eq_true c2
    clear c2
    by_cases c3 : 0 ≤ x3_1
    ·
     rw [if_pos c3] at H
     have c3b0 : decide (0 ≤ x3_1) = true := decide_eq_true c3
     clear c3
     by_cases c4 : ((rd_L2 l0 x3_1).length : Int) > 10
     ·
      rw [if_pos c4] at H
      have c4b0 : decide (10 < ((rd_L2 l0 x3_1).length : Int)) = true := decide_eq_true c4
      have c4b1 : decide (10 < (rd_L2 l0 x3_1).length) = true := decide_eq_true (by omega)
      clear c4
      obtain rfl := Option.some.inj H
      have p122 : 0 ≤ (x3_1 : Int) := oD
      have q122 : x3_1 < (l0.length : Int) := oD
      obtain ⟨ad122, A122_0, c122_0, e122, hx122_0, hl122_0, hi122_0⟩ := at_L2 HR0.out x3_1 p122 q122
      cases e122
      have HR122_0 := Aside0.mk hi122_0
      have HC122_0 := Aside0.mk hl122_0
      clear hi122_0 hl122_0
      replace p122 := eq_true p122
      replace q122 := eq_true q122
      go_wp2
      repeat (go_quiet (fail); try go_wp2)
      go_ret
      exact ⟨by first | rfl | (simp; done) | (simp [*]; done), by repeat (first | exact Drawn0.refl _ | apply Drawn0.step)⟩
     ·
      rw [if_neg c4] at H
      have c4b0 : decide (10 < ((rd_L2 l0 x3_1).length : Int)) = false := decide_eq_false c4
      have c4b1 : decide (10 < (rd_L2 l0 x3_1).length) = false := decide_eq_false (by omega)
      clear c4
      have H' := Aside0.mk H
      clear H
      have p122 : 0 ≤ (x3_1 : Int) := oD
      have q122 : x3_1 < (l0.length : Int) := oD
      obtain ⟨ad122, A122_0, c122_0, e122, hx122_0, hl122_0, hi122_0⟩ := at_L2 HR0.out x3_1 p122 q122
      cases e122
      have HR122_0 := Aside0.mk hi122_0
      have HC122_0 := Aside0.mk hl122_0
      clear hi122_0 hl122_0
      replace p122 := eq_true p122
      replace q122 := eq_true q122
      go_wp2
      repeat (go_quiet (fail); try go_wp2)
      go_loopg [4] k1 (fun kq v4 w' => ∃ (x4_2 : Int), v4 = .int .i64 x4_2 ∧ Aside0 (pentaglotlaw33_records.l1 kq l0 x3_1 x4_2 = some r) ∧ Aside0 (kq ≤ k1) ∧ Drawn0 w w')
      case atStart => exact ⟨(0), tV1, H', ⟨Nat.le_refl _⟩, by repeat (first | exact Drawn0.refl _ | apply Drawn0.step)⟩
      case round =>
       clear H'; (try clear c2); (try clear c2b0); (try clear c3); (try clear c3b0); (try clear c4); (try clear c4b0); (try clear c4b1); (try clear hx122_0); (try clear p122); (try clear q122)
       obtain ⟨x4_2, rfl, HA, HK2, ⟨m2, rfl⟩⟩ := hrel
       cases gk with
       | zero => exact absurd HA.out (by simp [pentaglotlaw33_records.l1])
       | succ k2 =>
        have H := HA.out
        clear HA
        simp only [pentaglotlaw33_records.l1] at H
        by_cases c5 : 0 ≤ x3_1
        ·
         rw [if_pos c5] at H
         have c5b0 : decide (0 ≤ x3_1) = true := decide_eq_true c5
         clear c5
         by_cases c6 : x3_1 < (l0.length : Int)
         ·
          rw [if_pos c6] at H
          have c6b0 : decide (x3_1 < (l0.length : Int)) = true := decide_eq_true c6
          clear c6
          by_cases c7 : x4_2 < ((rd_L2 l0 x3_1).length : Int)
          ·
           rw [if_pos c7] at H
           have c7b0 : decide (x4_2 < ((rd_L2 l0 x3_1).length : Int)) = true := decide_eq_true c7
           clear c7
           have H' := Aside0.mk H
           clear H
           have p123 : 0 ≤ (x3_1 : Int) := oD
           have q123 : x3_1 < (l0.length : Int) := oD
           obtain ⟨ad123, A123_0, c123_0, e123, hx123_0, hl123_0, hi123_0⟩ := at_L2 HR0.out x3_1 p123 q123
           obtain rfl : ad122 = ad123 := (by injection e123)
           have HR123_0 := Aside0.mk hi123_0
           have HC123_0 := Aside0.mk hl123_0
           clear hi123_0 hl123_0
           replace p123 := eq_true p123
           replace q123 := eq_true q123
           go_wp2
           repeat (go_quiet (fail); try go_wp2)
           go_loopg [5] k2 (fun kq v5 w' => ∃ (x5_3 : Int), v5 = .int .i64 x5_3 ∧ Aside0 (pentaglotlaw33_records.l2 kq l0 x3_1 x4_2 x5_3 = some r) ∧ Aside0 (kq ≤ k2) ∧ Drawn0 w w')
           case atStart => exact ⟨(0), tV1, H', ⟨Nat.le_refl _⟩, by repeat (first | exact Drawn0.refl _ | apply Drawn0.step)⟩
           case round =>
            clear H'; (try clear c2); (try clear c2b0); (try clear c3); (try clear c3b0); (try clear c4); (try clear c4b0); (try clear c4b1); (try clear c5); (try clear c5b0); (try clear c6); (try clear c6b0); (try clear c7); (try clear c7b0); (try clear hx122_0); (try clear hx123_0); (try clear p122); (try clear p123); (try clear q122); (try clear q123)
            obtain ⟨x5_3, rfl, HA, HK3, ⟨m3, rfl⟩⟩ := hrel
            cases gk with
            | zero => exact absurd HA.out (by simp [pentaglotlaw33_records.l2])
            | succ k3 =>
             have H := HA.out
             clear HA
             simp only [pentaglotlaw33_records.l2] at H
             by_cases c8 : x5_3 < x4_2
             ·
              rw [if_pos c8] at H
              have c8b0 : decide (x5_3 < x4_2) = true := decide_eq_true c8
              clear c8
              by_cases c9 : 0 ≤ x3_1
              ·
               rw [if_pos c9] at H
               have c9b0 : decide (0 ≤ x3_1) = true := decide_eq_true c9
               clear c9
               by_cases c10 : x3_1 < (l0.length : Int)
               ·
                rw [if_pos c10] at H
                have c10b0 : decide (x3_1 < (l0.length : Int)) = true := decide_eq_true c10
                clear c10
                by_cases c11 : 0 ≤ x5_3
                ·
                 rw [if_pos c11] at H
                 have c11b0 : decide (0 ≤ x5_3) = true := decide_eq_true c11
                 clear c11
                 by_cases c12 : x5_3 < ((rd_L2 l0 x3_1).length : Int)
                 ·
                  rw [if_pos c12] at H
                  have c12b0 : decide (x5_3 < ((rd_L2 l0 x3_1).length : Int)) = true := decide_eq_true c12
                  clear c12
                  by_cases c13 : 0 ≤ x4_2
                  ·
                   rw [if_pos c13] at H
                   have c13b0 : decide (0 ≤ x4_2) = true := decide_eq_true c13
                   clear c13
                   by_cases c14 : x4_2 < ((rd_L2 l0 x3_1).length : Int)
                   ·
                    rw [if_pos c14] at H
                    have c14b0 : decide (x4_2 < ((rd_L2 l0 x3_1).length : Int)) = true := decide_eq_true c14
                    clear c14
                    by_cases c15 : ((rd_T37 (rd_L2 l0 x3_1) x5_3).f0).toList = ((rd_T37 (rd_L2 l0 x3_1) x4_2).f0).toList
                    ·
                     rw [if_pos c15] at H
                     have c15b0 := beq_iff_eq.mpr c15
                     have c15b1 := bne_eq_false_iff_eq.mpr c15
                     clear c15
                     obtain rfl := Option.some.inj H
                     have p124 : 0 ≤ (x3_1 : Int) := oD
                     have q124 : x3_1 < (l0.length : Int) := oD
                     obtain ⟨ad124, A124_0, c124_0, e124, hx124_0, hl124_0, hi124_0⟩ := at_L2 HR0.out x3_1 p124 q124
                     obtain rfl : ad122 = ad124 := (by injection e124)
                     have HR124_0 := Aside0.mk hi124_0
                     have HC124_0 := Aside0.mk hl124_0
                     clear hi124_0 hl124_0
                     replace p124 := eq_true p124
                     replace q124 := eq_true q124
                     have p125 : 0 ≤ (x5_3 : Int) := oD
                     have q125 : x5_3 < ((rd_L2 l0 x3_1).length : Int) := oD
                     obtain ⟨ad125, e125, hx125_0, hx125_1⟩ := at_T37 HR124_0.out x5_3 p125 q125
                     cases e125
                     replace p125 := eq_true p125
                     replace q125 := eq_true q125
                     have p126 : 0 ≤ (x3_1 : Int) := oD
                     have q126 : x3_1 < (l0.length : Int) := oD
                     obtain ⟨ad126, A126_0, c126_0, e126, hx126_0, hl126_0, hi126_0⟩ := at_L2 HR0.out x3_1 p126 q126
                     obtain rfl : ad122 = ad126 := (by injection e126)
                     have HR126_0 := Aside0.mk hi126_0
                     have HC126_0 := Aside0.mk hl126_0
                     clear hi126_0 hl126_0
                     replace p126 := eq_true p126
                     replace q126 := eq_true q126
                     have ea_ := Option.some.inj (hx124_0.symm.trans hx126_0)
                     injection ea_ with ea_ en_ ec_
                     subst ea_
                     subst ec_
                     clear en_
                     have p127 : 0 ≤ (x4_2 : Int) := oD
                     have q127 : x4_2 < ((rd_L2 l0 x3_1).length : Int) := oD
                     obtain ⟨ad127, e127, hx127_0, hx127_1⟩ := at_T37 HR126_0.out x4_2 p127 q127
                     cases e127
                     replace p127 := eq_true p127
                     replace q127 := eq_true q127
                     go_wp2
                     repeat (go_quiet (fail); try go_wp2)
                     go_ret
                     exact ⟨by first | rfl | (simp; done) | (simp [*]; done), by repeat (first | exact Drawn0.refl _ | apply Drawn0.step)⟩
                    ·
                     rw [if_neg c15] at H
                     have c15b0 := beq_eq_false_iff_ne.mpr c15
                     have c15b1 := bne_iff_ne.mpr c15
                     have H' := Aside0.mk H
                     clear H
                     have p124 : 0 ≤ (x3_1 : Int) := oD
                     have q124 : x3_1 < (l0.length : Int) := oD
                     obtain ⟨ad124, A124_0, c124_0, e124, hx124_0, hl124_0, hi124_0⟩ := at_L2 HR0.out x3_1 p124 q124
                     obtain rfl : ad122 = ad124 := (by injection e124)
                     have HR124_0 := Aside0.mk hi124_0
                     have HC124_0 := Aside0.mk hl124_0
                     clear hi124_0 hl124_0
                     replace p124 := eq_true p124
                     replace q124 := eq_true q124
                     have p125 : 0 ≤ (x5_3 : Int) := oD
                     have q125 : x5_3 < ((rd_L2 l0 x3_1).length : Int) := oD
                     obtain ⟨ad125, e125, hx125_0, hx125_1⟩ := at_T37 HR124_0.out x5_3 p125 q125
                     cases e125
                     replace p125 := eq_true p125
                     replace q125 := eq_true q125
                     have p126 : 0 ≤ (x3_1 : Int) := oD
                     have q126 : x3_1 < (l0.length : Int) := oD
                     obtain ⟨ad126, A126_0, c126_0, e126, hx126_0, hl126_0, hi126_0⟩ := at_L2 HR0.out x3_1 p126 q126
                     obtain rfl : ad122 = ad126 := (by injection e126)
                     have HR126_0 := Aside0.mk hi126_0
                     have HC126_0 := Aside0.mk hl126_0
                     clear hi126_0 hl126_0
                     replace p126 := eq_true p126
                     replace q126 := eq_true q126
                     have ea_ := Option.some.inj (hx124_0.symm.trans hx126_0)
                     injection ea_ with ea_ en_ ec_
                     subst ea_
                     subst ec_
                     clear en_
                     have p127 : 0 ≤ (x4_2 : Int) := oD
                     have q127 : x4_2 < ((rd_L2 l0 x3_1).length : Int) := oD
                     obtain ⟨ad127, e127, hx127_0, hx127_1⟩ := at_T37 HR126_0.out x4_2 p127 q127
                     cases e127
                     replace p127 := eq_true p127
                     replace q127 := eq_true q127
                     go_wp2
                     repeat (go_quiet (fail); try go_wp2)
                     go_roundg k3
                     case measure => have := HK1.out; have := HK2.out; have := HK3.out; omega
                     case rel => exact ⟨(wrap64 (x5_3 + 1)), tV1, H', ⟨by have := HK1.out; have := HK2.out; have := HK3.out; omega⟩, by repeat (first | exact Drawn0.refl _ | apply Drawn0.step)⟩
                   ·
                    rw [if_neg c14] at H
                    exact absurd H (by simp)
                  ·
                   rw [if_neg c13] at H
                   exact absurd H (by simp)
                 ·
                  rw [if_neg c12] at H
                  exact absurd H (by simp)
                ·
                 rw [if_neg c11] at H
                 exact absurd H (by simp)
               ·
                rw [if_neg c10] at H
                exact absurd H (by simp)
              ·
               rw [if_neg c9] at H
               exact absurd H (by simp)
             ·
              rw [if_neg c8] at H
              have c8b0 : decide (x5_3 < x4_2) = false := decide_eq_false c8
              clear c8
              have H' := Aside0.mk H
              clear H
              go_wp2
              repeat (go_quiet (fail); try go_wp2)
              go_roundg k3
              case measure => have := HK1.out; have := HK2.out; have := HK3.out; omega
              case rel => exact ⟨(wrap64 (x4_2 + 1)), tV1, H', ⟨by have := HK1.out; have := HK2.out; have := HK3.out; omega⟩, by repeat (first | exact Drawn0.refl _ | apply Drawn0.step)⟩
          ·
           rw [if_neg c7] at H
           have c7b0 : decide (x4_2 < ((rd_L2 l0 x3_1).length : Int)) = false := decide_eq_false c7
           clear c7
           have H' := Aside0.mk H
           clear H
           have p123 : 0 ≤ (x3_1 : Int) := oD
           have q123 : x3_1 < (l0.length : Int) := oD
           obtain ⟨ad123, A123_0, c123_0, e123, hx123_0, hl123_0, hi123_0⟩ := at_L2 HR0.out x3_1 p123 q123
           obtain rfl : ad122 = ad123 := (by injection e123)
           have HR123_0 := Aside0.mk hi123_0
           have HC123_0 := Aside0.mk hl123_0
           clear hi123_0 hl123_0
           replace p123 := eq_true p123
           replace q123 := eq_true q123
           go_wp2
           repeat (go_quiet (fail); try go_wp2)
           go_roundg k2
           case measure => have := HK1.out; have := HK2.out; omega
           case rel => exact ⟨(wrap64 (x3_1 + 1)), tV1, H', ⟨by have := HK1.out; have := HK2.out; omega⟩, by repeat (first | exact Drawn0.refl _ | apply Drawn0.step)⟩
         ·
          rw [if_neg c6] at H
          exact absurd H (by simp)
        ·
         rw [if_neg c5] at H
         exact absurd H (by simp)
    ·
     rw [if_neg c3] at H
     exact absurd H (by simp)
   ·
    rw [if_neg c2] at H
    have c2b0 : decide (x3_1 < (l0.length : Int)) = false := decide_eq_false c2
    clear c2
    obtain rfl := Option.some.inj H
    go_wp2
    repeat (go_quiet (fail); try go_wp2)
    go_ret
    exact ⟨by first | rfl | (simp; done) | (simp [*]; done), by repeat (first | exact Drawn0.refl _ | apply Drawn0.step)⟩

end Go.Proofs.Ytfbfopfhfeijdaa.Pr
