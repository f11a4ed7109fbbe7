/- Several texts in one: PrF67, PrF68. -/
import Derived.Test.YtfbfopfhfeijdaaPr0
import Derived.Test.YtfbfopfhfeijdaaCt

namespace Go.Proofs.Ytfbfopfhfeijdaa.Pr
open Go.Proofs.Ytfbfopfhfeijdaa.Ct Go.RowKit Go.Proofs.YtfbfopfhfeijdaaW.PrintWords Go.Proofs.YtfbfopfhfeijdaaW.PrintLast Go.Proofs.YtfbfopfhfeijdaaW.PrintMore
attribute [local go_sem] max2_int min2_int max_two min_two max_three min_three max_four min_four   -- for this text's walks alone
set_option linter.unusedVariables false
set_option linter.unusedSimpArgs false

/-! ### pentaglotref02_Name: function 67 -/
def pentaglotref02_Name.l0 : Nat → ByteArray → Int → Option (Bool)
 | 0, _, _ => none
 | k + 1, x0, x3 => if x3 < (x0.size : Int) then (if 0 ≤ x3 then (if (bt x0 x3) < 97 then (if (bt x0 x3) < 48 then (if (bt x0 x3) = 45 then (pentaglotref02_Name.l0 k x0 (wrap64 (x3 + 1))) else (some false)) else (if (bt x0 x3) > 57 then (if (bt x0 x3) = 45 then (pentaglotref02_Name.l0 k x0 (wrap64 (x3 + 1))) else (some false)) else (pentaglotref02_Name.l0 k x0 (wrap64 (x3 + 1))))) else (if (bt x0 x3) > 122 then (if (bt x0 x3) < 48 then (if (bt x0 x3) = 45 then (pentaglotref02_Name.l0 k x0 (wrap64 (x3 + 1))) else (some false)) else (if (bt x0 x3) > 57 then (if (bt x0 x3) = 45 then (pentaglotref02_Name.l0 k x0 (wrap64 (x3 + 1))) else (some false)) else (pentaglotref02_Name.l0 k x0 (wrap64 (x3 + 1))))) else (pentaglotref02_Name.l0 k x0 (wrap64 (x3 + 1))))) else (none)) else (some (decide ((x0.size : Int) > 0)))
def pentaglotref02_Name.f (k : Nat) (a0 : ByteArray) : Option (Bool) := pentaglotref02_Name.l0 k a0 0
set_option maxHeartbeats 8000000 in
set_option maxRecDepth 100000 in
theorem pentaglotref02_Name.calls (k : Nat) (a0 : ByteArray) (r : Bool) (w : World) (h : pentaglotref02_Name.f k a0 = some r) :
 Calls Try.prog 67 #[.string a0] w fun e w' => e = .returned (.bool r) ∧ Drawn0 w w' := by
 have H : (pentaglotref02_Name.l0 k a0 0) = some r := h
 clear h
 have H' := Aside0.mk H
 clear H
 go_enter Try.func67, Try.ntmps67
 go_wp2
 go_loopg [3] k (fun kq v3 w' => ∃ (x3_1 : Int), v3 = .int .i64 x3_1 ∧ Aside0 (pentaglotref02_Name.l0 kq a0 x3_1 = some r) ∧ Aside0 (kq ≤ k) ∧ Drawn0 w w')
 case atStart => exact ⟨(0), tV1, H', ⟨Nat.le_refl _⟩, by repeat (first | exact Drawn0.refl _ | apply Drawn0.step)⟩
 case round =>
  clear H'
  obtain ⟨x3_1, rfl, HA, HK1, ⟨m1, rfl⟩⟩ := hrel
  cases gk with
  | zero => exact absurd HA.out (by simp [pentaglotref02_Name.l0])
  | succ k1 =>
   have H := HA.out
   clear HA
   simp only [pentaglotref02_Name.l0] at H
   by_cases c2 : x3_1 < (a0.size : Int)
   ·
    rw [if_pos c2] at H
    have c2b0 : decide (x3_1 < (a0.size : Int)) = true := decide_eq_true c2
    clear c2
    by_cases c3 : 0 ≤ x3_1
    ·
     rw [if_pos c3] at H
     have c3b0 : decide (0 ≤ x3_1) = true := decide_eq_true c3
     clear c3
     by_cases c5 : (bt a0 x3_1) < 97
     ·
      rw [if_pos c5] at H
      have c5b0 : decide ((bt a0 x3_1) < 97) = true := decide_eq_true c5
      clear c5
      by_cases c6 : (bt a0 x3_1) < 48
      ·
       rw [if_pos c6] at H
       have c6b0 : decide ((bt a0 x3_1) < 48) = true := decide_eq_true c6
       clear c6
       by_cases c7 : (bt a0 x3_1) = 45
       ·
        rw [if_pos c7] at H
        have c7b0 := beq_iff_eq.mpr c7
        have c7b1 := bne_eq_false_iff_eq.mpr c7
        clear c7
        have H' := Aside0.mk H
        clear H
        have p4 : 0 ≤ (x3_1 : Int) := oD
        have q4 : x3_1 < (a0.size : Int) := oD
        have hx4 := bt_at a0 x3_1
        replace p4 := eq_true p4
        replace q4 := eq_true q4
        go_wp2
        go_roundg k1
        case measure => have := HK1.out; omega
        case rel => exact ⟨(wrap64 (x3_1 + 1)), tV1, H', ⟨by have := HK1.out; omega⟩, by repeat (first | exact Drawn0.refl _ | apply Drawn0.step)⟩
       ·
        rw [if_neg c7] at H
        have c7b0 := beq_eq_false_iff_ne.mpr c7
        have c7b1 := bne_iff_ne.mpr c7
        obtain rfl := Option.some.inj H
        have p4 : 0 ≤ (x3_1 : Int) := oD
        have q4 : x3_1 < (a0.size : Int) := oD
        have hx4 := bt_at a0 x3_1
        replace p4 := eq_true p4
        replace q4 := eq_true q4
        go_wp2
        go_ret
        exact ⟨by first | rfl | (simp; done) | (simp [*]; done), by repeat (first | exact Drawn0.refl _ | apply Drawn0.step)⟩
      ·
       rw [if_neg c6] at H
       have c6b0 : decide ((bt a0 x3_1) < 48) = false := decide_eq_false c6
       clear c6
       by_cases c8 : (bt a0 x3_1) > 57
       ·
        rw [if_pos c8] at H
        have c8b0 : decide (57 < (bt a0 x3_1)) = true := decide_eq_true c8
        clear c8
        by_cases c9 : (bt a0 x3_1) = 45
        ·
         rw [if_pos c9] at H
         have c9b0 := beq_iff_eq.mpr c9
         have c9b1 := bne_eq_false_iff_eq.mpr c9
         clear c9
         have H' := Aside0.mk H
         clear H
         have p4 : 0 ≤ (x3_1 : Int) := oD
         have q4 : x3_1 < (a0.size : Int) := oD
         have hx4 := bt_at a0 x3_1
         replace p4 := eq_true p4
         replace q4 := eq_true q4
         go_wp2
         go_roundg k1
         case measure => have := HK1.out; omega
         case rel => exact ⟨(wrap64 (x3_1 + 1)), tV1, H', ⟨by have := HK1.out; omega⟩, by repeat (first | exact Drawn0.refl _ | apply Drawn0.step)⟩
        ·
         rw [if_neg c9] at H
         have c9b0 := beq_eq_false_iff_ne.mpr c9
         have c9b1 := bne_iff_ne.mpr c9
         obtain rfl := Option.some.inj H
         have p4 : 0 ≤ (x3_1 : Int) := oD
         have q4 : x3_1 < (a0.size : Int) := oD
         have hx4 := bt_at a0 x3_1
         replace p4 := eq_true p4
         replace q4 := eq_true q4
         go_wp2
         go_ret
         exact ⟨by first | rfl | (simp; done) | (simp [*]; done), by repeat (first | exact Drawn0.refl _ | apply Drawn0.step)⟩
       ·
        rw [if_neg c8] at H
        have c8b0 : decide (57 < (bt a0 x3_1)) = false := decide_eq_false c8
        clear c8
        have H' := Aside0.mk H
        clear H
        have p4 : 0 ≤ (x3_1 : Int) := oD
        have q4 : x3_1 < (a0.size : Int) := oD
        have hx4 := bt_at a0 x3_1
        replace p4 := eq_true p4
        replace q4 := eq_true q4
        go_wp2
        go_roundg k1
        case measure => have := HK1.out; omega
        case rel => exact ⟨(wrap64 (x3_1 + 1)), tV1, H', ⟨by have := HK1.out; omega⟩, by repeat (first | exact Drawn0.refl _ | apply Drawn0.step)⟩
     ·
      rw [if_neg c5] at H
      have c5b0 : decide ((bt a0 x3_1) < 97) = false := decide_eq_false c5
      clear c5
      by_cases c10 : (bt a0 x3_1) > 122
      ·
       rw [if_pos c10] at H
       have c10b0 : decide (122 < (bt a0 x3_1)) = true := decide_eq_true c10
       clear c10
       by_cases c11 : (bt a0 x3_1) < 48
       ·
        rw [if_pos c11] at H
        have c11b0 : decide ((bt a0 x3_1) < 48) = true := decide_eq_true c11
        clear c11
        by_cases c12 : (bt a0 x3_1) = 45
        ·
         rw [if_pos c12] at H
         have c12b0 := beq_iff_eq.mpr c12
         have c12b1 := bne_eq_false_iff_eq.mpr c12
         clear c12
         have H' := Aside0.mk H
         clear H
         have p4 : 0 ≤ (x3_1 : Int) := oD
         have q4 : x3_1 < (a0.size : Int) := oD
         have hx4 := bt_at a0 x3_1
         replace p4 := eq_true p4
         replace q4 := eq_true q4
         go_wp2
         go_roundg k1
         case measure => have := HK1.out; omega
         case rel => exact ⟨(wrap64 (x3_1 + 1)), tV1, H', ⟨by have := HK1.out; omega⟩, by repeat (first | exact Drawn0.refl _ | apply Drawn0.step)⟩
        ·
         rw [if_neg c12] at H
         have c12b0 := beq_eq_false_iff_ne.mpr c12
         have c12b1 := bne_iff_ne.mpr c12
         obtain rfl := Option.some.inj H
         have p4 : 0 ≤ (x3_1 : Int) := oD
         have q4 : x3_1 < (a0.size : Int) := oD
         have hx4 := bt_at a0 x3_1
         replace p4 := eq_true p4
         replace q4 := eq_true q4
         go_wp2
         go_ret
         exact ⟨by first | rfl | (simp; done) | (simp [*]; done), by repeat (first | exact Drawn0.refl _ | apply Drawn0.step)⟩
       ·
        rw [if_neg c11] at H
        have c11b0 : decide ((bt a0 x3_1) < 48) = false := decide_eq_false c11
        clear c11
        by_cases c13 : (bt a0 x3_1) > 57
        ·
         rw [if_pos c13] at H
         have c13b0 : decide (57 < (bt a0 x3_1)) = true := decide_eq_true c13
         clear c13
         by_cases c14 : (bt a0 x3_1) = 45
         ·
          rw [if_pos c14] at H
          have c14b0 := beq_iff_eq.mpr c14
          have c14b1 := bne_eq_false_iff_eq.mpr c14
          clear c14
          have H' := Aside0.mk H
          clear H
          have p4 : 0 ≤ (x3_1 : Int) := oD
          have q4 : x3_1 < (a0.size : Int) := oD
          have hx4 := bt_at a0 x3_1
          replace p4 := eq_true p4
          replace q4 := eq_true q4
          go_wp2
          go_roundg k1
          case measure => have := HK1.out; omega
          case rel => exact ⟨(wrap64 (x3_1 + 1)), tV1, H', ⟨by have := HK1.out; omega⟩, by repeat (first | exact Drawn0.refl _ | apply Drawn0.step)⟩
         ·
          rw [if_neg c14] at H
          have c14b0 := beq_eq_false_iff_ne.mpr c14
          have c14b1 := bne_iff_ne.mpr c14
          obtain rfl := Option.some.inj H
          have p4 : 0 ≤ (x3_1 : Int) := oD
          have q4 : x3_1 < (a0.size : Int) := oD
          have hx4 := bt_at a0 x3_1
          replace p4 := eq_true p4
          replace q4 := eq_true q4
          go_wp2
          go_ret
          exact ⟨by first | rfl | (simp; done) | (simp [*]; done), by repeat (first | exact Drawn0.refl _ | apply Drawn0.step)⟩
        ·
         rw [if_neg c13] at H
         have c13b0 : decide (57 < (bt a0 x3_1)) = false := decide_eq_false c13
         clear c13
         have H' := Aside0.mk H
         clear H
         have p4 : 0 ≤ (x3_1 : Int) := oD
         have q4 : x3_1 < (a0.size : Int) := oD
         have hx4 := bt_at a0 x3_1
         replace p4 := eq_true p4
         replace q4 := eq_true q4
         go_wp2
         go_roundg k1
         case measure => have := HK1.out; omega
         case rel => exact ⟨(wrap64 (x3_1 + 1)), tV1, H', ⟨by have := HK1.out; omega⟩, by repeat (first | exact Drawn0.refl _ | apply Drawn0.step)⟩
      ·
       rw [if_neg c10] at H
       have c10b0 : decide (122 < (bt a0 x3_1)) = false := decide_eq_false c10
       clear c10
       have H' := Aside0.mk H
       clear H
       have p4 : 0 ≤ (x3_1 : Int) := oD
       have q4 : x3_1 < (a0.size : Int) := oD
       have hx4 := bt_at a0 x3_1
       replace p4 := eq_true p4
       replace q4 := eq_true q4
       go_wp2
       go_roundg k1
       case measure => have := HK1.out; omega
       case rel => exact ⟨(wrap64 (x3_1 + 1)), tV1, H', ⟨by have := HK1.out; omega⟩, by repeat (first | exact Drawn0.refl _ | apply Drawn0.step)⟩
    ·
     rw [if_neg c3] at H
     exact absurd H (by simp)
   ·
    rw [if_neg c2] at H
    have c2b0 : decide (x3_1 < (a0.size : Int)) = false := decide_eq_false c2
    clear c2
    obtain rfl := Option.some.inj H
    go_wp2
    go_ret
    exact ⟨by first | rfl | (simp; done) | (simp [*]; done), by repeat (first | exact Drawn0.refl _ | apply Drawn0.step)⟩

end Go.Proofs.Ytfbfopfhfeijdaa.Pr

namespace Go.Proofs.Ytfbfopfhfeijdaa.Pr
open Go.Proofs.Ytfbfopfhfeijdaa.Ct Go.RowKit Go.Proofs.YtfbfopfhfeijdaaW.PrintWords Go.Proofs.YtfbfopfhfeijdaaW.PrintLast Go.Proofs.YtfbfopfhfeijdaaW.PrintMore
attribute [local go_sem] max2_int min2_int max_two min_two max_three min_three max_four min_four   -- for this text's walks alone
set_option linter.unusedVariables false
set_option linter.unusedSimpArgs false

/-! ### pentaglotref02_In: function 68 -/
def pentaglotref02_In.l0 : Nat → List ByteArray → ByteArray → Int → Option (Bool)
 | 0, _, _, _ => none
 | k + 1, x0, x1, x5 => if x5 < (x0.length : Int) then (if 0 ≤ x5 then (if (rdOf ByteArray.empty x0 x5).toList = x1.toList then (some true) else (pentaglotref02_In.l0 k x0 x1 (wrap64 (x5 + 1)))) else (none)) else (some false)
def pentaglotref02_In.f (k : Nat) (l0 : List ByteArray) (a1 : ByteArray) : Option (Bool) := pentaglotref02_In.l0 k l0 a1 0
set_option maxHeartbeats 8000000 in
set_option maxRecDepth 100000 in
theorem pentaglotref02_In.calls (k : Nat) (A0 : Option Addr) (c0 : Nat) (l0 : List ByteArray) (a1 : ByteArray) (r : Bool) (w : World) (hr0 : Kd.C Kd.string w A0 l0.length l0) (hc0 : l0.length ≤ c0) (h : pentaglotref02_In.f k l0 a1 = some r) :
 Calls Try.prog 68 #[.slice A0 l0.length c0, .string a1] w fun e w' => e = .returned (.bool r) ∧ Drawn0 w w' := by
 have HR0 := Aside0.mk hr0
 have HC0 := Aside0.mk hc0
 clear hr0 hc0
 have H : (pentaglotref02_In.l0 k l0 a1 0) = some r := h
 clear h
 have H' := Aside0.mk H
 clear H
 go_enter Try.func68, Try.ntmps68
 go_wp2
 go_loopg [5] k (fun kq v5 w' => ∃ (x5_1 : Int), v5 = .int .i64 x5_1 ∧ Aside0 (pentaglotref02_In.l0 kq l0 a1 x5_1 = some r) ∧ Aside0 (kq ≤ k) ∧ Drawn0 w w')
 case atStart => exact ⟨(0), tV1, H', ⟨Nat.le_refl _⟩, by repeat (first | exact Drawn0.refl _ | apply Drawn0.step)⟩
 case round =>
  clear H'
  obtain ⟨x5_1, rfl, HA, HK1, ⟨m1, rfl⟩⟩ := hrel
  cases gk with
  | zero => exact absurd HA.out (by simp [pentaglotref02_In.l0])
  | succ k1 =>
   have H := HA.out
   clear HA
   simp only [pentaglotref02_In.l0] at H
   by_cases c3 : x5_1 < (l0.length : Int)
   ·
    rw [if_pos c3] at H
    have c3b0 : decide (x5_1 < (l0.length : Int)) = true := decide_eq_true c3
    clear c3
    by_cases c4 : 0 ≤ x5_1
    ·
     rw [if_pos c4] at H
     have c4b0 : decide (0 ≤ x5_1) = true := decide_eq_true c4
     clear c4
     by_cases c5 : (rdOf ByteArray.empty l0 x5_1).toList = a1.toList
     ·
      rw [if_pos c5] at H
      have c5b0 := beq_iff_eq.mpr c5
      have c5b1 := bne_eq_false_iff_eq.mpr c5
      clear c5
      obtain rfl := Option.some.inj H
      have p420 : 0 ≤ (x5_1 : Int) := oD
      have q420 : x5_1 < (l0.length : Int) := oD
      obtain ⟨ad420, e420, hx420_0⟩ := Kd.at_string HR0.out x5_1 p420 q420
      cases e420
      replace p420 := eq_true p420
      replace q420 := eq_true q420
      go_wp2
      go_ret
      exact ⟨by first | rfl | (simp; done) | (simp [*]; done), by repeat (first | exact Drawn0.refl _ | apply Drawn0.step)⟩
     ·
      rw [if_neg c5] at H
      have c5b0 := beq_eq_false_iff_ne.mpr c5
      have c5b1 := bne_iff_ne.mpr c5
      have H' := Aside0.mk H
      clear H
      have p420 : 0 ≤ (x5_1 : Int) := oD
      have q420 : x5_1 < (l0.length : Int) := oD
      obtain ⟨ad420, e420, hx420_0⟩ := Kd.at_string HR0.out x5_1 p420 q420
      cases e420
      replace p420 := eq_true p420
      replace q420 := eq_true q420
      go_wp2
      go_roundg k1
      case measure => have := HK1.out; omega
      case rel => exact ⟨(wrap64 (x5_1 + 1)), tV1, H', ⟨by have := HK1.out; omega⟩, by repeat (first | exact Drawn0.refl _ | apply Drawn0.step)⟩
    ·
     rw [if_neg c4] at H
     exact absurd H (by simp)
   ·
    rw [if_neg c3] at H
    have c3b0 : decide (x5_1 < (l0.length : Int)) = false := decide_eq_false c3
    clear c3
    obtain rfl := Option.some.inj H
    go_wp2
    go_ret
    exact ⟨by first | rfl | (simp; done) | (simp [*]; done), by repeat (first | exact Drawn0.refl _ | apply Drawn0.step)⟩

end Go.Proofs.Ytfbfopfhfeijdaa.Pr
