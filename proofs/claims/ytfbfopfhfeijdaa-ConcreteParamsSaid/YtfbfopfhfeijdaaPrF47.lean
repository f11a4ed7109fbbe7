-- Written by a program of this session (ownprint.py, over the kit's printer). Not trusted: Lean checks it.
import Derived.Test.YtfbfopfhfeijdaaPr0
import Derived.Test.YtfbfopfhfeijdaaCt
import Derived.Test.YtfbfopfhfeijdaaMg8
import Derived.Test.YtfbfopfhfeijdaaMg4
namespace Go.Proofs.Ytfbfopfhfeijdaa.Pr
open Go.Proofs.Ytfbfopfhfeijdaa.Ct Go.RowKit Go.Proofs.YtfbfopfhfeijdaaW.PrintWords Go.Proofs.YtfbfopfhfeijdaaW.PrintLast Go.Proofs.YtfbfopfhfeijdaaW.PrintMore
attribute [local go_sem] max2_int min2_int max_two min_two max_three min_three max_four min_four   -- for this text's walks alone
set_option linter.unusedVariables false
set_option linter.unusedSimpArgs false

/-! ### pentaglotref02_Dimensions: function 47 -/
mutual
def pentaglotref02_Dimensions.l0 : Nat → List (S90) → Int → Option (Bool)
 | 0, _, _ => none
 | k + 1, x0, x3 => if x3 < (x0.length : Int) then (if 0 ≤ x3 then ((pentaglotref02_Name.f k ((rd_T90 x0 x3).f0)).bind fun t423 => (if t423 = true then (if (((rd_T90 x0 x3).f1).length : Int) < 1 then (pentaglotref02_Dimensions.j1 k x0 x3 ((rd_T90 x0 x3).f1) true) else (pentaglotref02_Dimensions.j1 k x0 x3 ((rd_T90 x0 x3).f1) (decide ((((rd_T90 x0 x3).f1).length : Int) > 8)))) else (pentaglotref02_Dimensions.j1 k x0 x3 ((rd_T90 x0 x3).f1) true))) else (none)) else (some true)
def pentaglotref02_Dimensions.j1 : Nat → List (S90) → Int → List ByteArray → Bool → Option (Bool)
 | 0, _, _, _, _ => none
 | k + 1, x0, x3, x4, x37 => if x37 = true then (some false) else (pentaglotref02_Dimensions.l1 k x0 x3 x4 0)
def pentaglotref02_Dimensions.l1 : Nat → List (S90) → Int → List ByteArray → Int → Option (Bool)
 | 0, _, _, _, _ => none
 | k + 1, x0, x3, x4, x5 => if x5 < x3 then (if 0 ≤ x5 then (if x5 < (x0.length : Int) then (if 0 ≤ x3 then (if x3 < (x0.length : Int) then (if ((rd_T90 x0 x5).f0).toList = ((rd_T90 x0 x3).f0).toList then (some false) else (pentaglotref02_Dimensions.l1 k x0 x3 x4 (wrap64 (x5 + 1)))) else (none)) else (none)) else (none)) else (none)) else (pentaglotref02_Dimensions.l2 k x0 x3 x4 0)
def pentaglotref02_Dimensions.l2 : Nat → List (S90) → Int → List ByteArray → Int → Option (Bool)
 | 0, _, _, _, _ => none
 | k + 1, x0, x3, x4, x6 => if x6 < (x4.length : Int) then (if 0 ≤ x6 then ((pentaglotref02_Name.f k (rdOf ByteArray.empty x4 x6)).bind fun t427 => (if t427 = true then (if x6 ≤ (x4.length : Int) then ((pentaglotref02_In.f k (x4.take (x6 : Int).toNat) (rdOf ByteArray.empty x4 x6)).bind fun t430 => (if t430 = true then (some false) else (pentaglotref02_Dimensions.l2 k x0 x3 x4 (wrap64 (x6 + 1))))) else (none)) else (some false))) else (none)) else (pentaglotref02_Dimensions.l0 k x0 (wrap64 (x3 + 1)))
end
def pentaglotref02_Dimensions.f (k : Nat) (l0 : List (S90)) : Option (Bool) := if (l0.length : Int) > 4 then (some false) else (pentaglotref02_Dimensions.l0 k l0 0)
set_option maxHeartbeats 8000000 in
set_option maxRecDepth 100000 in
theorem pentaglotref02_Dimensions.calls (k : Nat) (A0 : Option Addr) (c0 : Nat) (l0 : List (S90)) (r : Bool) (w : World) (hr0 : Kd.C k90 w A0 l0.length l0) (hc0 : l0.length ≤ c0) (h : pentaglotref02_Dimensions.f k l0 = some r) :
 Calls Try.prog 47 #[.slice A0 l0.length c0] w fun e w' => e = .returned (.bool r) ∧ Drawn0 w w' := by
 have HR0 := Aside0.mk hr0
 have HC0 := Aside0.mk hc0
 clear hr0 hc0
 have H : (if (l0.length : Int) > 4 then (some false) else (pentaglotref02_Dimensions.l0 k l0 0)) = some r := h
 clear h
 by_cases c2 : (l0.length : Int) > 4
 ·
  rw [if_pos c2] at H
  have c2b0 : decide (4 < (l0.length : Int)) = true := decide_eq_true c2
  have c2b1 : decide (4 < l0.length) = true := decide_eq_true (by omega)
  clear c2
  obtain rfl := Option.some.inj H
  go_enter Try.func47, Try.ntmps47
  go_wp2
  repeat (go_quiet (fail); try go_wp2)
  go_ret
  exact ⟨by first | rfl | (simp; done) | (simp [*]; done), by repeat (first | exact Drawn0.refl _ | apply Drawn0.step)⟩
 ·
  rw [if_neg c2] at H
  have c2b0 : decide (4 < (l0.length : Int)) = false := decide_eq_false c2
  have c2b1 : decide (4 < l0.length) = false := decide_eq_false (by omega)
  clear c2
  have H' := Aside0.mk H
  clear H
  go_enter Try.func47, Try.ntmps47
  go_wp2
  repeat (go_quiet (fail); try go_wp2)
  go_loopg [3] k (fun kq v3 w' => ∃ (x3_1 : Int), v3 = .int .i64 x3_1 ∧ Aside0 (pentaglotref02_Dimensions.l0 kq l0 x3_1 = some r) ∧ Aside0 (kq ≤ k) ∧ Drawn0 w w')
  case atStart => exact ⟨(0), tV1, H', ⟨Nat.le_refl _⟩, by repeat (first | exact Drawn0.refl _ | apply Drawn0.step)⟩
  case round =>
   clear H'; (try clear c2); (try clear c2b0); (try clear c2b1)
   obtain ⟨x3_1, rfl, HA, HK1, ⟨m1, rfl⟩⟩ := hrel
   cases gk with
   | zero => exact absurd HA.out (by simp [pentaglotref02_Dimensions.l0])
   | succ k1 =>
    have H := HA.out
    clear HA
    simp only [pentaglotref02_Dimensions.l0] at H
    by_cases c3 : x3_1 < (l0.length : Int)
    ·
     rw [if_pos c3] at H
     have c3b0 : decide (x3_1 < (l0.length : Int)) = true := decide_eq_true c3
     clear c3
     by_cases c4 : 0 ≤ x3_1
     ·
      rw [if_pos c4] at H
      have c4b0 : decide (0 ≤ x3_1) = true := decide_eq_true c4
      clear c4
      have HC5 := Aside0.mk H
      clear H
      have p421 : 0 ≤ (x3_1 : Int) := oD
      have q421 : x3_1 < (l0.length : Int) := oD
      obtain ⟨ad421, A421_1, c421_1, e421, hx421_0, hx421_1, hl421_1, hi421_1⟩ := at_T90 HR0.out x3_1 p421 q421
      cases e421
      have HR421_1 := Aside0.mk hi421_1
      have HC421_1 := Aside0.mk hl421_1
      clear hi421_1 hl421_1
      replace p421 := eq_true p421
      replace q421 := eq_true q421
      go_upto_region 7 with (fail)
      repeat (go_quiet (fail); go_upto_region 7 with (fail))
      go_cut [37] (fun v37 wc => ∃ (kq : Nat) (x37_4 : Bool), v37 = .bool x37_4 ∧ Aside0 (pentaglotref02_Dimensions.j1 kq l0 x3_1 ((rd_T90 l0 x3_1).f1) x37_4 = some r) ∧ Aside0 (kq ≤ k1) ∧ Drawn0 w wc)
      case first =>
       have H := HC5.out
       clear HC5
       replace H := Option.bind_eq_some_iff.mp H
       obtain ⟨t423, A60, H⟩ := H
       (try dsimp only at H)
       have A6 := Aside0.mk A60
       clear A60
       by_cases c7 : t423 = true
       ·
        subst c7
        rw [if_pos rfl] at H
        by_cases c8 : (((rd_T90 l0 x3_1).f1).length : Int) < 1
        ·
         rw [if_pos c8] at H
         have c8b0 : decide ((((rd_T90 l0 x3_1).f1).length : Int) < 1) = true := decide_eq_true c8
         have c8b1 : decide (((rd_T90 l0 x3_1).f1).length < 1) = true := decide_eq_true (by omega)
         clear c8
         (first | rw [c8b0] | (simp only [i64_w, i32_w]; rw [c8b0]) | skip)
         have H' := Aside0.mk H
         clear H
         have p422 : 0 ≤ (x3_1 : Int) := oD
         have q422 : x3_1 < (l0.length : Int) := oD
         obtain ⟨ad422, A422_1, c422_1, e422, hx422_0, hx422_1, hl422_1, hi422_1⟩ := at_T90 HR0.out x3_1 p422 q422
         obtain rfl : ad421 = ad422 := (by injection e422)
         have HR422_1 := Aside0.mk hi422_1
         have HC422_1 := Aside0.mk hl422_1
         clear hi422_1 hl422_1
         replace p422 := eq_true p422
         replace q422 := eq_true q422
         go_wp2_with (first | (go_at_call 67; (with_reducible refine (pentaglotref02_Name.calls k1 ((rd_T90 l0 x3_1).f0) true _ A6.out).mono ?_); rintro e w' ⟨rfl, ⟨nd, rfl⟩⟩; (try first | exact ⟨rfl, _, World.drewN_drewN _ _ _⟩ | exact ⟨rfl, _, Eq.trans (World.drewN_drewN _ _ _) (congrArg (World.drewN _) (Nat.add_assoc _ _ _))⟩)))
         repeat (go_quiet (first | (go_at_call 67; (with_reducible refine (pentaglotref02_Name.calls k1 ((rd_T90 l0 x3_1).f0) true _ A6.out).mono ?_); rintro e w' ⟨rfl, ⟨nd, rfl⟩⟩; (try first | exact ⟨rfl, _, World.drewN_drewN _ _ _⟩ | exact ⟨rfl, _, Eq.trans (World.drewN_drewN _ _ _) (congrArg (World.drewN _) (Nat.add_assoc _ _ _))⟩))); try go_wp2_with (first | (go_at_call 67; (with_reducible refine (pentaglotref02_Name.calls k1 ((rd_T90 l0 x3_1).f0) true _ A6.out).mono ?_); rintro e w' ⟨rfl, ⟨nd, rfl⟩⟩; (try first | exact ⟨rfl, _, World.drewN_drewN _ _ _⟩ | exact ⟨rfl, _, Eq.trans (World.drewN_drewN _ _ _) (congrArg (World.drewN _) (Nat.add_assoc _ _ _))⟩))))
         go_meet
         case rel => exact ⟨_, (true), tV1, H', ⟨by have := HK1.out; first | omega | exact Nat.le_refl _⟩, by repeat (first | exact Drawn0.refl _ | apply Drawn0.step)⟩
        ·
         rw [if_neg c8] at H
         have c8b0 : decide ((((rd_T90 l0 x3_1).f1).length : Int) < 1) = false := decide_eq_false c8
         have c8b1 : decide (((rd_T90 l0 x3_1).f1).length < 1) = false := decide_eq_false (by omega)
         clear c8
         (first | rw [c8b0] | (simp only [i64_w, i32_w]; rw [c8b0]) | skip)
         have H' := Aside0.mk H
         clear H
         have p422 : 0 ≤ (x3_1 : Int) := oD
         have q422 : x3_1 < (l0.length : Int) := oD
         obtain ⟨ad422, A422_1, c422_1, e422, hx422_0, hx422_1, hl422_1, hi422_1⟩ := at_T90 HR0.out x3_1 p422 q422
         obtain rfl : ad421 = ad422 := (by injection e422)
         have HR422_1 := Aside0.mk hi422_1
         have HC422_1 := Aside0.mk hl422_1
         clear hi422_1 hl422_1
         replace p422 := eq_true p422
         replace q422 := eq_true q422
         go_wp2_with (first | (go_at_call 67; (with_reducible refine (pentaglotref02_Name.calls k1 ((rd_T90 l0 x3_1).f0) true _ A6.out).mono ?_); rintro e w' ⟨rfl, ⟨nd, rfl⟩⟩; (try first | exact ⟨rfl, _, World.drewN_drewN _ _ _⟩ | exact ⟨rfl, _, Eq.trans (World.drewN_drewN _ _ _) (congrArg (World.drewN _) (Nat.add_assoc _ _ _))⟩)))
         repeat (go_quiet (first | (go_at_call 67; (with_reducible refine (pentaglotref02_Name.calls k1 ((rd_T90 l0 x3_1).f0) true _ A6.out).mono ?_); rintro e w' ⟨rfl, ⟨nd, rfl⟩⟩; (try first | exact ⟨rfl, _, World.drewN_drewN _ _ _⟩ | exact ⟨rfl, _, Eq.trans (World.drewN_drewN _ _ _) (congrArg (World.drewN _) (Nat.add_assoc _ _ _))⟩))); try go_wp2_with (first | (go_at_call 67; (with_reducible refine (pentaglotref02_Name.calls k1 ((rd_T90 l0 x3_1).f0) true _ A6.out).mono ?_); rintro e w' ⟨rfl, ⟨nd, rfl⟩⟩; (try first | exact ⟨rfl, _, World.drewN_drewN _ _ _⟩ | exact ⟨rfl, _, Eq.trans (World.drewN_drewN _ _ _) (congrArg (World.drewN _) (Nat.add_assoc _ _ _))⟩))))
         go_meet
         case rel => exact ⟨_, (decide ((((rd_T90 l0 x3_1).f1).length : Int) > 8)), tV1, H', ⟨by have := HK1.out; first | omega | exact Nat.le_refl _⟩, by repeat (first | exact Drawn0.refl _ | apply Drawn0.step)⟩
       ·
        replace c7 := Bool.eq_false_iff.mpr c7
        subst c7
        rw [if_neg (show ¬ (false = true) by decide)] at H
        have H' := Aside0.mk H
        clear H
        have p422 : 0 ≤ (x3_1 : Int) := oD
        have q422 : x3_1 < (l0.length : Int) := oD
        obtain ⟨ad422, A422_1, c422_1, e422, hx422_0, hx422_1, hl422_1, hi422_1⟩ := at_T90 HR0.out x3_1 p422 q422
        obtain rfl : ad421 = ad422 := (by injection e422)
        have HR422_1 := Aside0.mk hi422_1
        have HC422_1 := Aside0.mk hl422_1
        clear hi422_1 hl422_1
        replace p422 := eq_true p422
        replace q422 := eq_true q422
        go_wp2_with (first | (go_at_call 67; (with_reducible refine (pentaglotref02_Name.calls k1 ((rd_T90 l0 x3_1).f0) false _ A6.out).mono ?_); rintro e w' ⟨rfl, ⟨nd, rfl⟩⟩; (try first | exact ⟨rfl, _, World.drewN_drewN _ _ _⟩ | exact ⟨rfl, _, Eq.trans (World.drewN_drewN _ _ _) (congrArg (World.drewN _) (Nat.add_assoc _ _ _))⟩)))
        repeat (go_quiet (first | (go_at_call 67; (with_reducible refine (pentaglotref02_Name.calls k1 ((rd_T90 l0 x3_1).f0) false _ A6.out).mono ?_); rintro e w' ⟨rfl, ⟨nd, rfl⟩⟩; (try first | exact ⟨rfl, _, World.drewN_drewN _ _ _⟩ | exact ⟨rfl, _, Eq.trans (World.drewN_drewN _ _ _) (congrArg (World.drewN _) (Nat.add_assoc _ _ _))⟩))); try go_wp2_with (first | (go_at_call 67; (with_reducible refine (pentaglotref02_Name.calls k1 ((rd_T90 l0 x3_1).f0) false _ A6.out).mono ?_); rintro e w' ⟨rfl, ⟨nd, rfl⟩⟩; (try first | exact ⟨rfl, _, World.drewN_drewN _ _ _⟩ | exact ⟨rfl, _, Eq.trans (World.drewN_drewN _ _ _) (congrArg (World.drewN _) (Nat.add_assoc _ _ _))⟩))))
        go_meet
        case rel => exact ⟨_, (true), tV1, H', ⟨by have := HK1.out; first | omega | exact Nat.le_refl _⟩, by repeat (first | exact Drawn0.refl _ | apply Drawn0.step)⟩
      case rest =>
       clear HC5; (try clear c2); (try clear c2b0); (try clear c2b1); (try clear c3); (try clear c3b0); (try clear c4); (try clear c4b0); (try clear hx421_0); (try clear hx421_1); (try clear p421); (try clear q421)
       obtain ⟨kq, x37_4, rfl, HA, HJ4, ⟨mc4, rfl⟩⟩ := hcut
       cases kq with
       | zero => exact absurd HA.out (by simp [pentaglotref02_Dimensions.j1])
       | succ kj4 =>
        have H := HA.out
        clear HA
        simp only [pentaglotref02_Dimensions.j1] at H
        by_cases c9 : x37_4 = true
        ·
         subst c9
         rw [if_pos rfl] at H
         obtain rfl := Option.some.inj H
         go_wp2
         repeat (go_quiet (fail); try go_wp2)
         go_ret
         exact ⟨by first | rfl | (simp; done) | (simp [*]; done), by repeat (first | exact Drawn0.refl _ | apply Drawn0.step)⟩
        ·
         replace c9 := Bool.eq_false_iff.mpr c9
         subst c9
         rw [if_neg (show ¬ (false = true) by decide)] at H
         have H' := Aside0.mk H
         clear H
         go_wp2
         repeat (go_quiet (fail); try go_wp2)
         go_loopg [5] kj4 (fun kq v5 w' => ∃ (x5_3 : Int), v5 = .int .i64 x5_3 ∧ Aside0 (pentaglotref02_Dimensions.l1 kq l0 x3_1 ((rd_T90 l0 x3_1).f1) x5_3 = some r) ∧ Aside0 (kq ≤ kj4) ∧ Drawn0 w w')
         case atStart => exact ⟨(0), tV1, H', ⟨Nat.le_refl _⟩, by repeat (first | exact Drawn0.refl _ | apply Drawn0.step)⟩
         case round =>
          clear H'; (try clear c2); (try clear c2b0); (try clear c2b1); (try clear c3); (try clear c3b0); (try clear c4); (try clear c4b0); (try clear c9); (try clear hx421_0); (try clear hx421_1); (try clear p421); (try clear q421)
          obtain ⟨x5_3, rfl, HA, HK3, ⟨m3, rfl⟩⟩ := hrel
          cases gk with
          | zero => exact absurd HA.out (by simp [pentaglotref02_Dimensions.l1])
          | succ k3 =>
           have H := HA.out
           clear HA
           simp only [pentaglotref02_Dimensions.l1] at H
           by_cases c10 : x5_3 < x3_1
           ·
            rw [if_pos c10] at H
            have c10b0 : decide (x5_3 < x3_1) = true := decide_eq_true c10
            clear c10
            by_cases c11 : 0 ≤ x5_3
            ·
             rw [if_pos c11] at H
             have c11b0 : decide (0 ≤ x5_3) = true := decide_eq_true c11
             clear c11
             by_cases c12 : x5_3 < (l0.length : Int)
             ·
              rw [if_pos c12] at H
              have c12b0 : decide (x5_3 < (l0.length : Int)) = true := decide_eq_true c12
              clear c12
              by_cases c13 : 0 ≤ x3_1
              ·
               rw [if_pos c13] at H
               have c13b0 : decide (0 ≤ x3_1) = true := decide_eq_true c13
               clear c13
               by_cases c14 : x3_1 < (l0.length : Int)
               ·
                rw [if_pos c14] at H
                have c14b0 : decide (x3_1 < (l0.length : Int)) = true := decide_eq_true c14
                clear c14
                by_cases c15 : ((rd_T90 l0 x5_3).f0).toList = ((rd_T90 l0 x3_1).f0).toList
                ·
                 rw [if_pos c15] at H
                 have c15b0 := beq_iff_eq.mpr c15
                 have c15b1 := bne_eq_false_iff_eq.mpr c15
                 clear c15
                 obtain rfl := Option.some.inj H
                 have p424 : 0 ≤ (x5_3 : Int) := oD
                 have q424 : x5_3 < (l0.length : Int) := oD
                 obtain ⟨ad424, A424_1, c424_1, e424, hx424_0, hx424_1, hl424_1, hi424_1⟩ := at_T90 HR0.out x5_3 p424 q424
                 obtain rfl : ad421 = ad424 := (by injection e424)
                 have HR424_1 := Aside0.mk hi424_1
                 have HC424_1 := Aside0.mk hl424_1
                 clear hi424_1 hl424_1
                 replace p424 := eq_true p424
                 replace q424 := eq_true q424
                 have p425 : 0 ≤ (x3_1 : Int) := oD
                 have q425 : x3_1 < (l0.length : Int) := oD
                 obtain ⟨ad425, A425_1, c425_1, e425, hx425_0, hx425_1, hl425_1, hi425_1⟩ := at_T90 HR0.out x3_1 p425 q425
                 obtain rfl : ad421 = ad425 := (by injection e425)
                 have HR425_1 := Aside0.mk hi425_1
                 have HC425_1 := Aside0.mk hl425_1
                 clear hi425_1 hl425_1
                 replace p425 := eq_true p425
                 replace q425 := eq_true q425
                 go_wp2
                 repeat (go_quiet (fail); try go_wp2)
                 go_ret
                 exact ⟨by first | rfl | (simp; done) | (simp [*]; done), by repeat (first | exact Drawn0.refl _ | apply Drawn0.step)⟩
                ·
                 rw [if_neg c15] at H
                 have c15b0 := beq_eq_false_iff_ne.mpr c15
                 have c15b1 := bne_iff_ne.mpr c15
                 have H' := Aside0.mk H
                 clear H
                 have p424 : 0 ≤ (x5_3 : Int) := oD
                 have q424 : x5_3 < (l0.length : Int) := oD
                 obtain ⟨ad424, A424_1, c424_1, e424, hx424_0, hx424_1, hl424_1, hi424_1⟩ := at_T90 HR0.out x5_3 p424 q424
                 obtain rfl : ad421 = ad424 := (by injection e424)
                 have HR424_1 := Aside0.mk hi424_1
                 have HC424_1 := Aside0.mk hl424_1
                 clear hi424_1 hl424_1
                 replace p424 := eq_true p424
                 replace q424 := eq_true q424
                 have p425 : 0 ≤ (x3_1 : Int) := oD
                 have q425 : x3_1 < (l0.length : Int) := oD
                 obtain ⟨ad425, A425_1, c425_1, e425, hx425_0, hx425_1, hl425_1, hi425_1⟩ := at_T90 HR0.out x3_1 p425 q425
                 obtain rfl : ad421 = ad425 := (by injection e425)
                 have HR425_1 := Aside0.mk hi425_1
                 have HC425_1 := Aside0.mk hl425_1
                 clear hi425_1 hl425_1
                 replace p425 := eq_true p425
                 replace q425 := eq_true q425
                 go_wp2
                 repeat (go_quiet (fail); try go_wp2)
                 go_roundg k3
                 case measure => have := HK1.out; have := HJ4.out; have := HK3.out; omega
                 case rel => exact ⟨(wrap64 (x5_3 + 1)), tV1, H', ⟨by have := HK1.out; have := HJ4.out; have := HK3.out; omega⟩, by repeat (first | exact Drawn0.refl _ | apply Drawn0.step)⟩
               ·
                rw [if_neg c14] at H
                exact absurd H (by simp)
              ·
               rw [if_neg c13] at H
               exact absurd H (by simp)
             ·
              rw [if_neg c12] at H
              exact absurd H (by simp)
            ·
             rw [if_neg c11] at H
             exact absurd H (by simp)
           ·
            rw [if_neg c10] at H
            have c10b0 : decide (x5_3 < x3_1) = false := decide_eq_false c10
            clear c10
            have H' := Aside0.mk H
            clear H
            go_wp2
            repeat (go_quiet (fail); try go_wp2)
            go_loopg [6] k3 (fun kq v6 w' => ∃ (x6_4 : Int), v6 = .int .i64 x6_4 ∧ Aside0 (pentaglotref02_Dimensions.l2 kq l0 x3_1 ((rd_T90 l0 x3_1).f1) x6_4 = some r) ∧ Aside0 (kq ≤ k3) ∧ Drawn0 w w')
            case atStart => exact ⟨(0), tV1, H', ⟨Nat.le_refl _⟩, by repeat (first | exact Drawn0.refl _ | apply Drawn0.step)⟩
            case round =>
             clear H'; (try clear c2); (try clear c2b0); (try clear c2b1); (try clear c3); (try clear c3b0); (try clear c4); (try clear c4b0); (try clear c9); (try clear c10); (try clear c10b0); (try clear hx421_0); (try clear hx421_1); (try clear p421); (try clear q421)
             obtain ⟨x6_4, rfl, HA, HK4, ⟨m4, rfl⟩⟩ := hrel
             cases gk with
             | zero => exact absurd HA.out (by simp [pentaglotref02_Dimensions.l2])
             | succ k4 =>
              have H := HA.out
              clear HA
              simp only [pentaglotref02_Dimensions.l2] at H
              by_cases c16 : x6_4 < (((rd_T90 l0 x3_1).f1).length : Int)
              ·
               rw [if_pos c16] at H
               have c16b0 : decide (x6_4 < (((rd_T90 l0 x3_1).f1).length : Int)) = true := decide_eq_true c16
               clear c16
               by_cases c17 : 0 ≤ x6_4
               ·
                rw [if_pos c17] at H
                have c17b0 : decide (0 ≤ x6_4) = true := decide_eq_true c17
                clear c17
                replace H := Option.bind_eq_some_iff.mp H
                obtain ⟨t427, A180, H⟩ := H
                (try dsimp only at H)
                have A18 := Aside0.mk A180
                clear A180
                by_cases c19 : t427 = true
                ·
                 subst c19
                 rw [if_pos rfl] at H
                 have c20b0 := eq_true (oD : 0 ≤ x6_4)
                 by_cases c21 : x6_4 ≤ (((rd_T90 l0 x3_1).f1).length : Int)
                 ·
                  rw [if_pos c21] at H
                  have c21b0 := eq_true c21
                  have c21b1 : decide (x6_4 ≤ (((rd_T90 l0 x3_1).f1).length : Int)) = true := decide_eq_true c21
                  clear c21
                  replace H := Option.bind_eq_some_iff.mp H
                  obtain ⟨t430, A220, H⟩ := H
                  (try dsimp only at H)
                  have A22 := Aside0.mk A220
                  clear A220
                  by_cases c23 : t430 = true
                  ·
                   subst c23
                   rw [if_pos rfl] at H
                   obtain rfl := Option.some.inj H
                   have p426 : 0 ≤ (x6_4 : Int) := oD
                   have q426 : x6_4 < (((rd_T90 l0 x3_1).f1).length : Int) := oD
                   obtain ⟨ad426, e426, hx426_0⟩ := Kd.at_string HR421_1.out x6_4 p426 q426
                   cases e426
                   replace p426 := eq_true p426
                   replace q426 := eq_true q426
                   go_wp2_with (first | (go_at_call 67; (with_reducible refine (pentaglotref02_Name.calls k4 (rdOf ByteArray.empty ((rd_T90 l0 x3_1).f1) x6_4) true _ A18.out).mono ?_); rintro e w' ⟨rfl, ⟨nd, rfl⟩⟩; (try first | exact ⟨rfl, _, World.drewN_drewN _ _ _⟩ | exact ⟨rfl, _, Eq.trans (World.drewN_drewN _ _ _) (congrArg (World.drewN _) (Nat.add_assoc _ _ _))⟩); obtain ⟨i024, hi024, _, hsz24, _⟩ := info_parts info9; obtain ⟨hcut24, hA24, hC24⟩ := print_take_of (P := Try.prog) Value.string (⟨#[]⟩ : ByteArray) 50 9 .i64 Try.underlying50 hi024 hsz24 (some ad426) c421_1 ((rd_T90 l0 x3_1).f1) x6_4 (oD) (oD) HC421_1.out; have HR428 := Aside0.mk (Kd.C_of_reads (h1 := fun _ => rfl) (hA24 _ (Kd.reads_of_C HR421_1.out))); have HC428 := Aside0.mk hC24; clear hA24 hC24 hi024 hsz24; have p429 : 0 ≤ (x6_4 : Int) := oD; have q429 : x6_4 < (((rd_T90 l0 x3_1).f1).length : Int) := oD; obtain ⟨ad429, e429, hx429_0⟩ := Kd.at_string HR421_1.out x6_4 p429 q429; obtain rfl : ad426 = ad429 := (by injection e429); replace p429 := eq_true p429; replace q429 := eq_true q429) | (go_at_call 68; (with_reducible refine Go.Proofs.Ytfbfopfhfeijdaa.Cl.calls_len (Go.Proofs.Ytfbfopfhfeijdaa.Cl.take_len ((rd_T90 l0 x3_1).f1) x6_4 (of_decide_eq_true (by first | (with_reducible assumption) | assumption | decide)) (oD)) ?_); (with_reducible refine (pentaglotref02_In.calls k4 _ _ (((rd_T90 l0 x3_1).f1).take (x6_4 : Int).toNat) (rdOf ByteArray.empty ((rd_T90 l0 x3_1).f1) x6_4) true _ ?s1 ?s2 A22.out).mono ?_); (case s1 => repeat (first | exact HR428.out | (with_reducible refine Kd.C_alloc ?_ _) | (with_reducible refine Kd.C_drewN ?_ _) | (with_reducible refine Kd.C_drew ?_))); (case s2 => exact HC428.out); rintro e w' ⟨rfl, ⟨nd, rfl⟩⟩; (try first | exact ⟨rfl, _, World.drewN_drewN _ _ _⟩ | exact ⟨rfl, _, Eq.trans (World.drewN_drewN _ _ _) (congrArg (World.drewN _) (Nat.add_assoc _ _ _))⟩)))
                   repeat (go_quiet (first | (go_at_call 67; (with_reducible refine (pentaglotref02_Name.calls k4 (rdOf ByteArray.empty ((rd_T90 l0 x3_1).f1) x6_4) true _ A18.out).mono ?_); rintro e w' ⟨rfl, ⟨nd, rfl⟩⟩; (try first | exact ⟨rfl, _, World.drewN_drewN _ _ _⟩ | exact ⟨rfl, _, Eq.trans (World.drewN_drewN _ _ _) (congrArg (World.drewN _) (Nat.add_assoc _ _ _))⟩); obtain ⟨i024, hi024, _, hsz24, _⟩ := info_parts info9; obtain ⟨hcut24, hA24, hC24⟩ := print_take_of (P := Try.prog) Value.string (⟨#[]⟩ : ByteArray) 50 9 .i64 Try.underlying50 hi024 hsz24 (some ad426) c421_1 ((rd_T90 l0 x3_1).f1) x6_4 (oD) (oD) HC421_1.out; have HR428 := Aside0.mk (Kd.C_of_reads (h1 := fun _ => rfl) (hA24 _ (Kd.reads_of_C HR421_1.out))); have HC428 := Aside0.mk hC24; clear hA24 hC24 hi024 hsz24; have p429 : 0 ≤ (x6_4 : Int) := oD; have q429 : x6_4 < (((rd_T90 l0 x3_1).f1).length : Int) := oD; obtain ⟨ad429, e429, hx429_0⟩ := Kd.at_string HR421_1.out x6_4 p429 q429; obtain rfl : ad426 = ad429 := (by injection e429); replace p429 := eq_true p429; replace q429 := eq_true q429) | (go_at_call 68; (with_reducible refine Go.Proofs.Ytfbfopfhfeijdaa.Cl.calls_len (Go.Proofs.Ytfbfopfhfeijdaa.Cl.take_len ((rd_T90 l0 x3_1).f1) x6_4 (of_decide_eq_true (by first | (with_reducible assumption) | assumption | decide)) (oD)) ?_); (with_reducible refine (pentaglotref02_In.calls k4 _ _ (((rd_T90 l0 x3_1).f1).take (x6_4 : Int).toNat) (rdOf ByteArray.empty ((rd_T90 l0 x3_1).f1) x6_4) true _ ?s1 ?s2 A22.out).mono ?_); (case s1 => repeat (first | exact HR428.out | (with_reducible refine Kd.C_alloc ?_ _) | (with_reducible refine Kd.C_drewN ?_ _) | (with_reducible refine Kd.C_drew ?_))); (case s2 => exact HC428.out); rintro e w' ⟨rfl, ⟨nd, rfl⟩⟩; (try first | exact ⟨rfl, _, World.drewN_drewN _ _ _⟩ | exact ⟨rfl, _, Eq.trans (World.drewN_drewN _ _ _) (congrArg (World.drewN _) (Nat.add_assoc _ _ _))⟩))); try go_wp2_with (first | (go_at_call 67; (with_reducible refine (pentaglotref02_Name.calls k4 (rdOf ByteArray.empty ((rd_T90 l0 x3_1).f1) x6_4) true _ A18.out).mono ?_); rintro e w' ⟨rfl, ⟨nd, rfl⟩⟩; (try first | exact ⟨rfl, _, World.drewN_drewN _ _ _⟩ | exact ⟨rfl, _, Eq.trans (World.drewN_drewN _ _ _) (congrArg (World.drewN _) (Nat.add_assoc _ _ _))⟩); obtain ⟨i024, hi024, _, hsz24, _⟩ := info_parts info9; obtain ⟨hcut24, hA24, hC24⟩ := print_take_of (P := Try.prog) Value.string (⟨#[]⟩ : ByteArray) 50 9 .i64 Try.underlying50 hi024 hsz24 (some ad426) c421_1 ((rd_T90 l0 x3_1).f1) x6_4 (oD) (oD) HC421_1.out; have HR428 := Aside0.mk (Kd.C_of_reads (h1 := fun _ => rfl) (hA24 _ (Kd.reads_of_C HR421_1.out))); have HC428 := Aside0.mk hC24; clear hA24 hC24 hi024 hsz24; have p429 : 0 ≤ (x6_4 : Int) := oD; have q429 : x6_4 < (((rd_T90 l0 x3_1).f1).length : Int) := oD; obtain ⟨ad429, e429, hx429_0⟩ := Kd.at_string HR421_1.out x6_4 p429 q429; obtain rfl : ad426 = ad429 := (by injection e429); replace p429 := eq_true p429; replace q429 := eq_true q429) | (go_at_call 68; (with_reducible refine Go.Proofs.Ytfbfopfhfeijdaa.Cl.calls_len (Go.Proofs.Ytfbfopfhfeijdaa.Cl.take_len ((rd_T90 l0 x3_1).f1) x6_4 (of_decide_eq_true (by first | (with_reducible assumption) | assumption | decide)) (oD)) ?_); (with_reducible refine (pentaglotref02_In.calls k4 _ _ (((rd_T90 l0 x3_1).f1).take (x6_4 : Int).toNat) (rdOf ByteArray.empty ((rd_T90 l0 x3_1).f1) x6_4) true _ ?s1 ?s2 A22.out).mono ?_); (case s1 => repeat (first | exact HR428.out | (with_reducible refine Kd.C_alloc ?_ _) | (with_reducible refine Kd.C_drewN ?_ _) | (with_reducible refine Kd.C_drew ?_))); (case s2 => exact HC428.out); rintro e w' ⟨rfl, ⟨nd, rfl⟩⟩; (try first | exact ⟨rfl, _, World.drewN_drewN _ _ _⟩ | exact ⟨rfl, _, Eq.trans (World.drewN_drewN _ _ _) (congrArg (World.drewN _) (Nat.add_assoc _ _ _))⟩))))
                   go_ret
                   exact ⟨by first | rfl | (simp; done) | (simp [*]; done), by repeat (first | exact Drawn0.refl _ | apply Drawn0.step)⟩
                  ·
                   replace c23 := Bool.eq_false_iff.mpr c23
                   subst c23
                   rw [if_neg (show ¬ (false = true) by decide)] at H
                   have H' := Aside0.mk H
                   clear H
                   have p426 : 0 ≤ (x6_4 : Int) := oD
                   have q426 : x6_4 < (((rd_T90 l0 x3_1).f1).length : Int) := oD
                   obtain ⟨ad426, e426, hx426_0⟩ := Kd.at_string HR421_1.out x6_4 p426 q426
                   cases e426
                   replace p426 := eq_true p426
                   replace q426 := eq_true q426
                   go_wp2_with (first | (go_at_call 67; (with_reducible refine (pentaglotref02_Name.calls k4 (rdOf ByteArray.empty ((rd_T90 l0 x3_1).f1) x6_4) true _ A18.out).mono ?_); rintro e w' ⟨rfl, ⟨nd, rfl⟩⟩; (try first | exact ⟨rfl, _, World.drewN_drewN _ _ _⟩ | exact ⟨rfl, _, Eq.trans (World.drewN_drewN _ _ _) (congrArg (World.drewN _) (Nat.add_assoc _ _ _))⟩); obtain ⟨i025, hi025, _, hsz25, _⟩ := info_parts info9; obtain ⟨hcut25, hA25, hC25⟩ := print_take_of (P := Try.prog) Value.string (⟨#[]⟩ : ByteArray) 50 9 .i64 Try.underlying50 hi025 hsz25 (some ad426) c421_1 ((rd_T90 l0 x3_1).f1) x6_4 (oD) (oD) HC421_1.out; have HR428 := Aside0.mk (Kd.C_of_reads (h1 := fun _ => rfl) (hA25 _ (Kd.reads_of_C HR421_1.out))); have HC428 := Aside0.mk hC25; clear hA25 hC25 hi025 hsz25; have p429 : 0 ≤ (x6_4 : Int) := oD; have q429 : x6_4 < (((rd_T90 l0 x3_1).f1).length : Int) := oD; obtain ⟨ad429, e429, hx429_0⟩ := Kd.at_string HR421_1.out x6_4 p429 q429; obtain rfl : ad426 = ad429 := (by injection e429); replace p429 := eq_true p429; replace q429 := eq_true q429) | (go_at_call 68; (with_reducible refine Go.Proofs.Ytfbfopfhfeijdaa.Cl.calls_len (Go.Proofs.Ytfbfopfhfeijdaa.Cl.take_len ((rd_T90 l0 x3_1).f1) x6_4 (of_decide_eq_true (by first | (with_reducible assumption) | assumption | decide)) (oD)) ?_); (with_reducible refine (pentaglotref02_In.calls k4 _ _ (((rd_T90 l0 x3_1).f1).take (x6_4 : Int).toNat) (rdOf ByteArray.empty ((rd_T90 l0 x3_1).f1) x6_4) false _ ?s1 ?s2 A22.out).mono ?_); (case s1 => repeat (first | exact HR428.out | (with_reducible refine Kd.C_alloc ?_ _) | (with_reducible refine Kd.C_drewN ?_ _) | (with_reducible refine Kd.C_drew ?_))); (case s2 => exact HC428.out); rintro e w' ⟨rfl, ⟨nd, rfl⟩⟩; (try first | exact ⟨rfl, _, World.drewN_drewN _ _ _⟩ | exact ⟨rfl, _, Eq.trans (World.drewN_drewN _ _ _) (congrArg (World.drewN _) (Nat.add_assoc _ _ _))⟩)))
                   repeat (go_quiet (first | (go_at_call 67; (with_reducible refine (pentaglotref02_Name.calls k4 (rdOf ByteArray.empty ((rd_T90 l0 x3_1).f1) x6_4) true _ A18.out).mono ?_); rintro e w' ⟨rfl, ⟨nd, rfl⟩⟩; (try first | exact ⟨rfl, _, World.drewN_drewN _ _ _⟩ | exact ⟨rfl, _, Eq.trans (World.drewN_drewN _ _ _) (congrArg (World.drewN _) (Nat.add_assoc _ _ _))⟩); obtain ⟨i025, hi025, _, hsz25, _⟩ := info_parts info9; obtain ⟨hcut25, hA25, hC25⟩ := print_take_of (P := Try.prog) Value.string (⟨#[]⟩ : ByteArray) 50 9 .i64 Try.underlying50 hi025 hsz25 (some ad426) c421_1 ((rd_T90 l0 x3_1).f1) x6_4 (oD) (oD) HC421_1.out; have HR428 := Aside0.mk (Kd.C_of_reads (h1 := fun _ => rfl) (hA25 _ (Kd.reads_of_C HR421_1.out))); have HC428 := Aside0.mk hC25; clear hA25 hC25 hi025 hsz25; have p429 : 0 ≤ (x6_4 : Int) := oD; have q429 : x6_4 < (((rd_T90 l0 x3_1).f1).length : Int) := oD; obtain ⟨ad429, e429, hx429_0⟩ := Kd.at_string HR421_1.out x6_4 p429 q429; obtain rfl : ad426 = ad429 := (by injection e429); replace p429 := eq_true p429; replace q429 := eq_true q429) | (go_at_call 68; (with_reducible refine Go.Proofs.Ytfbfopfhfeijdaa.Cl.calls_len (Go.Proofs.Ytfbfopfhfeijdaa.Cl.take_len ((rd_T90 l0 x3_1).f1) x6_4 (of_decide_eq_true (by first | (with_reducible assumption) | assumption | decide)) (oD)) ?_); (with_reducible refine (pentaglotref02_In.calls k4 _ _ (((rd_T90 l0 x3_1).f1).take (x6_4 : Int).toNat) (rdOf ByteArray.empty ((rd_T90 l0 x3_1).f1) x6_4) false _ ?s1 ?s2 A22.out).mono ?_); (case s1 => repeat (first | exact HR428.out | (with_reducible refine Kd.C_alloc ?_ _) | (with_reducible refine Kd.C_drewN ?_ _) | (with_reducible refine Kd.C_drew ?_))); (case s2 => exact HC428.out); rintro e w' ⟨rfl, ⟨nd, rfl⟩⟩; (try first | exact ⟨rfl, _, World.drewN_drewN _ _ _⟩ | exact ⟨rfl, _, Eq.trans (World.drewN_drewN _ _ _) (congrArg (World.drewN _) (Nat.add_assoc _ _ _))⟩))); try go_wp2_with (first | (go_at_call 67; (with_reducible refine (pentaglotref02_Name.calls k4 (rdOf ByteArray.empty ((rd_T90 l0 x3_1).f1) x6_4) true _ A18.out).mono ?_); rintro e w' ⟨rfl, ⟨nd, rfl⟩⟩; (try first | exact ⟨rfl, _, World.drewN_drewN _ _ _⟩ | exact ⟨rfl, _, Eq.trans (World.drewN_drewN _ _ _) (congrArg (World.drewN _) (Nat.add_assoc _ _ _))⟩); obtain ⟨i025, hi025, _, hsz25, _⟩ := info_parts info9; obtain ⟨hcut25, hA25, hC25⟩ := print_take_of (P := Try.prog) Value.string (⟨#[]⟩ : ByteArray) 50 9 .i64 Try.underlying50 hi025 hsz25 (some ad426) c421_1 ((rd_T90 l0 x3_1).f1) x6_4 (oD) (oD) HC421_1.out; have HR428 := Aside0.mk (Kd.C_of_reads (h1 := fun _ => rfl) (hA25 _ (Kd.reads_of_C HR421_1.out))); have HC428 := Aside0.mk hC25; clear hA25 hC25 hi025 hsz25; have p429 : 0 ≤ (x6_4 : Int) := oD; have q429 : x6_4 < (((rd_T90 l0 x3_1).f1).length : Int) := oD; obtain ⟨ad429, e429, hx429_0⟩ := Kd.at_string HR421_1.out x6_4 p429 q429; obtain rfl : ad426 = ad429 := (by injection e429); replace p429 := eq_true p429; replace q429 := eq_true q429) | (go_at_call 68; (with_reducible refine Go.Proofs.Ytfbfopfhfeijdaa.Cl.calls_len (Go.Proofs.Ytfbfopfhfeijdaa.Cl.take_len ((rd_T90 l0 x3_1).f1) x6_4 (of_decide_eq_true (by first | (with_reducible assumption) | assumption | decide)) (oD)) ?_); (with_reducible refine (pentaglotref02_In.calls k4 _ _ (((rd_T90 l0 x3_1).f1).take (x6_4 : Int).toNat) (rdOf ByteArray.empty ((rd_T90 l0 x3_1).f1) x6_4) false _ ?s1 ?s2 A22.out).mono ?_); (case s1 => repeat (first | exact HR428.out | (with_reducible refine Kd.C_alloc ?_ _) | (with_reducible refine Kd.C_drewN ?_ _) | (with_reducible refine Kd.C_drew ?_))); (case s2 => exact HC428.out); rintro e w' ⟨rfl, ⟨nd, rfl⟩⟩; (try first | exact ⟨rfl, _, World.drewN_drewN _ _ _⟩ | exact ⟨rfl, _, Eq.trans (World.drewN_drewN _ _ _) (congrArg (World.drewN _) (Nat.add_assoc _ _ _))⟩))))
                   go_roundg k4
                   case measure => have := HK1.out; have := HJ4.out; have := HK3.out; have := HK4.out; omega
                   case rel => exact ⟨(wrap64 (x6_4 + 1)), tV1, H', ⟨by have := HK1.out; have := HJ4.out; have := HK3.out; have := HK4.out; omega⟩, by repeat (first | exact Drawn0.refl _ | apply Drawn0.step)⟩
                 ·
                  rw [if_neg c21] at H
                  exact absurd H (by simp)
                ·
                 replace c19 := Bool.eq_false_iff.mpr c19
                 subst c19
                 rw [if_neg (show ¬ (false = true) by decide)] at H
                 obtain rfl := Option.some.inj H
                 have p426 : 0 ≤ (x6_4 : Int) := oD
                 have q426 : x6_4 < (((rd_T90 l0 x3_1).f1).length : Int) := oD
                 obtain ⟨ad426, e426, hx426_0⟩ := Kd.at_string HR421_1.out x6_4 p426 q426
                 cases e426
                 replace p426 := eq_true p426
                 replace q426 := eq_true q426
                 go_wp2_with (first | (go_at_call 67; (with_reducible refine (pentaglotref02_Name.calls k4 (rdOf ByteArray.empty ((rd_T90 l0 x3_1).f1) x6_4) false _ A18.out).mono ?_); rintro e w' ⟨rfl, ⟨nd, rfl⟩⟩; (try first | exact ⟨rfl, _, World.drewN_drewN _ _ _⟩ | exact ⟨rfl, _, Eq.trans (World.drewN_drewN _ _ _) (congrArg (World.drewN _) (Nat.add_assoc _ _ _))⟩)))
                 repeat (go_quiet (first | (go_at_call 67; (with_reducible refine (pentaglotref02_Name.calls k4 (rdOf ByteArray.empty ((rd_T90 l0 x3_1).f1) x6_4) false _ A18.out).mono ?_); rintro e w' ⟨rfl, ⟨nd, rfl⟩⟩; (try first | exact ⟨rfl, _, World.drewN_drewN _ _ _⟩ | exact ⟨rfl, _, Eq.trans (World.drewN_drewN _ _ _) (congrArg (World.drewN _) (Nat.add_assoc _ _ _))⟩))); try go_wp2_with (first | (go_at_call 67; (with_reducible refine (pentaglotref02_Name.calls k4 (rdOf ByteArray.empty ((rd_T90 l0 x3_1).f1) x6_4) false _ A18.out).mono ?_); rintro e w' ⟨rfl, ⟨nd, rfl⟩⟩; (try first | exact ⟨rfl, _, World.drewN_drewN _ _ _⟩ | exact ⟨rfl, _, Eq.trans (World.drewN_drewN _ _ _) (congrArg (World.drewN _) (Nat.add_assoc _ _ _))⟩))))
                 go_ret
                 exact ⟨by first | rfl | (simp; done) | (simp [*]; done), by repeat (first | exact Drawn0.refl _ | apply Drawn0.step)⟩
               ·
                rw [if_neg c17] at H
                exact absurd H (by simp)
              ·
               rw [if_neg c16] at H
               have c16b0 : decide (x6_4 < (((rd_T90 l0 x3_1).f1).length : Int)) = false := decide_eq_false c16
               clear c16
               have H' := Aside0.mk H
               clear H
               go_wp2
               repeat (go_quiet (fail); try go_wp2)
               go_roundg k4
               case measure => have := HK1.out; have := HJ4.out; have := HK3.out; have := HK4.out; omega
               case rel => exact ⟨(wrap64 (x3_1 + 1)), tV1, H', ⟨by have := HK1.out; have := HJ4.out; have := HK3.out; have := HK4.out; omega⟩, by repeat (first | exact Drawn0.refl _ | apply Drawn0.step)⟩
     ·
      rw [if_neg c4] at H
      exact absurd H (by simp)
    ·
     rw [if_neg c3] at H
     have c3b0 : decide (x3_1 < (l0.length : Int)) = false := decide_eq_false c3
     clear c3
     obtain rfl := Option.some.inj H
     go_wp2
     repeat (go_quiet (fail); try go_wp2)
     go_ret
     exact ⟨by first | rfl | (simp; done) | (simp [*]; done), by repeat (first | exact Drawn0.refl _ | apply Drawn0.step)⟩

end Go.Proofs.Ytfbfopfhfeijdaa.Pr
