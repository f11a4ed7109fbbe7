-- Written by a program of this session (ownprint.py, over the kit's printer). Not trusted: Lean checks it.
import Derived.Test.YtfbfopfhfeijdaaPr0
import Derived.Test.YtfbfopfhfeijdaaCt
import Derived.Test.YtfbfopfhfeijdaaPrF73
import Derived.Test.YtfbfopfhfeijdaaMg4
namespace Go.Proofs.Ytfbfopfhfeijdaa.Pr
open Go.Proofs.Ytfbfopfhfeijdaa.Ct Go.RowKit Go.Proofs.YtfbfopfhfeijdaaW.PrintWords Go.Proofs.YtfbfopfhfeijdaaW.PrintLast Go.Proofs.YtfbfopfhfeijdaaW.PrintMore
attribute [local go_sem] max2_int min2_int max_two min_two max_three min_three max_four min_four   -- for this text's walks alone
set_option linter.unusedVariables false
set_option linter.unusedSimpArgs false

/-! ### feature_dimensions: function 62 -/
mutual
def feature_dimensions.l0 : Nat → List (S90) → List (S90) → Int → Int → Option (Bool)
 | 0, _, _, _, _ => none
 | k + 1, x0, x12, x13, x14 => if x14 < x13 then (if 0 ≤ x14 then (if x14 < (x12.length : Int) then ((feature_name.f k ((rd_T90 x12 x14).f0)).bind fun t492 => (if t492 = true then (if (((rd_T90 x12 x14).f1).length : Int) < 1 then (feature_dimensions.j1 k x0 x14 x12 x13 x14 true ((rd_T90 x12 x14).f0) ((rd_T90 x12 x14).f1)) else (feature_dimensions.j1 k x0 x14 x12 x13 x14 (decide ((((rd_T90 x12 x14).f1).length : Int) > 8)) ((rd_T90 x12 x14).f0) ((rd_T90 x12 x14).f1))) else (feature_dimensions.j1 k x0 x14 x12 x13 x14 true ((rd_T90 x12 x14).f0) ((rd_T90 x12 x14).f1)))) else (none)) else (none)) else (some true)
def feature_dimensions.j1 : Nat → List (S90) → Int → List (S90) → Int → Int → Bool → ByteArray → List ByteArray → Option (Bool)
 | 0, _, _, _, _, _, _, _, _ => none
 | k + 1, x0, x3, x12, x13, x14, x34, x492000, x492001 => if x34 = true then (some false) else (feature_dimensions.l1 k x0 x3 x12 x13 x14 x492001 (x492001.length : Int) 0 x492000 x492001)
def feature_dimensions.l1 : Nat → List (S90) → Int → List (S90) → Int → Int → List ByteArray → Int → Int → ByteArray → List ByteArray → Option (Bool)
 | 0, _, _, _, _, _, _, _, _, _, _ => none
 | k + 1, x0, x3, x12, x13, x14, x36, x37, x38, x492000, x492001 => if x38 < x37 then (if 0 ≤ x38 then (if x38 < (x36.length : Int) then ((feature_name.f k (rdOf ByteArray.empty x36 x38)).bind fun t494 => (if t494 = true then (if x38 ≤ (x492001.length : Int) then ((slices_Contains_string_string.f k (x492001.take (x38 : Int).toNat) (rdOf ByteArray.empty x36 x38)).bind fun t496 => (if t496 = true then (some false) else (feature_dimensions.l1 k x0 x3 x12 x13 x14 x36 x37 (wrap64 (x38 + 1)) x492000 x492001))) else (none)) else (some false))) else (none)) else (none)) else (if 0 ≤ x3 then (if x3 ≤ (x0.length : Int) then ((some (x0.take (x3 : Int).toNat : List (S90))).bind fun y497 => (feature_dimensions.l2 k x0 x12 x13 x14 y497 (y497.length : Int) 0 x492000 x492001)) else (none)) else (none))
def feature_dimensions.l2 : Nat → List (S90) → List (S90) → Int → Int → List (S90) → Int → Int → ByteArray → List ByteArray → Option (Bool)
 | 0, _, _, _, _, _, _, _, _, _ => none
 | k + 1, x0, x12, x13, x14, x57, x58, x59, x492000, x492001 => if x59 < x58 then (if 0 ≤ x59 then (if x59 < (x57.length : Int) then (if ((rd_T90 x57 x59).f0).toList = x492000.toList then (some false) else (feature_dimensions.l2 k x0 x12 x13 x14 x57 x58 (wrap64 (x59 + 1)) x492000 x492001)) else (none)) else (none)) else (feature_dimensions.l0 k x0 x12 x13 (wrap64 (x14 + 1)))
end
def feature_dimensions.f (k : Nat) (l0 : List (S90)) : Option (Bool) := if (l0.length : Int) > 4 then (some false) else (feature_dimensions.l0 k l0 l0 (l0.length : Int) 0)
set_option maxHeartbeats 8000000 in
set_option maxRecDepth 100000 in
theorem feature_dimensions.calls (k : Nat) (A0 : Option Addr) (c0 : Nat) (l0 : List (S90)) (r : Bool) (w : World) (hr0 : Kd.C k90 w A0 l0.length l0) (hc0 : l0.length ≤ c0) (h : feature_dimensions.f k l0 = some r) :
 Calls Try.prog 62 #[.slice A0 l0.length c0] w fun e w' => e = .returned (.bool r) ∧ Below w.heap.size w w' := by
 have hu90 := Try.underlying90
 have HR0 := Aside0.mk hr0
 have HC0 := Aside0.mk hc0
 clear hr0 hc0
 have HB := Aside0.mk (Below.refl w.heap.size w)
 have H : (if (l0.length : Int) > 4 then (some false) else (feature_dimensions.l0 k l0 l0 (l0.length : Int) 0)) = some r := h
 clear h
 by_cases c2 : (l0.length : Int) > 4
 ·
  rw [if_pos c2] at H
  have c2b0 : decide (4 < (l0.length : Int)) = true := decide_eq_true c2
  have c2b1 : decide (4 < l0.length) = true := decide_eq_true (by omega)
  clear c2
  obtain rfl := Option.some.inj H
  go_enter Try.func62, Try.ntmps62
  go_wp2
  go_ret
  exact ⟨tE, by repeat (first | (with_reducible first | exact HB.out | apply below_alloc | apply pw_below_drewN | apply below_drew1) | exact HB.out)⟩
 ·
  rw [if_neg c2] at H
  have c2b0 : decide (4 < (l0.length : Int)) = false := decide_eq_false c2
  have c2b1 : decide (4 < l0.length) = false := decide_eq_false (by omega)
  clear c2
  have H' := Aside0.mk H
  clear H
  go_enter Try.func62, Try.ntmps62
  go_wp2
  go_loopg [14] k (fun kq v14 w' => ∃ (x14_1 : Int), v14 = .int .i64 x14_1 ∧ Aside0 (feature_dimensions.l0 kq l0 l0 (l0.length : Int) x14_1 = some r) ∧ Aside0 (kq ≤ k) ∧ Aside0 (Below w.heap.size w w'))
  case atStart => exact ⟨(0), tV1, H', ⟨Nat.le_refl _⟩, ⟨tB HB⟩⟩
  case round =>
   clear H'; (try clear c2); (try clear c2b0); (try clear c2b1)
   obtain ⟨x14_1, rfl, HA, HK1, HB⟩ := hrel
   cases gk with
   | zero => exact absurd HA.out (by simp [feature_dimensions.l0])
   | succ k1 =>
    have H := HA.out
    clear HA
    simp only [feature_dimensions.l0] at H
    by_cases c3 : x14_1 < (l0.length : Int)
    ·
     rw [if_pos c3] at H
     have c3b0 : decide (x14_1 < (l0.length : Int)) = true := decide_eq_true c3
     clear c3
     by_cases c4 : 0 ≤ x14_1
     ·
      rw [if_pos c4] at H
      have c4b0 : decide (0 ≤ x14_1) = true := decide_eq_true c4
      clear c4
      by_cases c5 : x14_1 < (l0.length : Int)
      ·
       rw [if_pos c5] at H
       have c5b0 : decide (x14_1 < (l0.length : Int)) = true := decide_eq_true c5
       clear c5
       have HC6 := Aside0.mk H
       clear H
       have p490 : 0 ≤ (x14_1 : Int) := oD
       have q490 : x14_1 < (l0.length : Int) := oD
       obtain ⟨ad490, A490_1, c490_1, e490, hx490_0, hx490_1, hl490_1, hi490_1⟩ := at_T90 HR0.out x14_1 p490 q490
       cases e490
       replace hx490_0 := celB HB hx490_0
       replace hx490_1 := celB HB hx490_1
       have HR490_1 := Aside0.mk hi490_1
       have HC490_1 := Aside0.mk hl490_1
       clear hi490_1 hl490_1
       replace p490 := eq_true p490
       replace q490 := eq_true q490
       go_upto_region 6 with (first | ((with_reducible refine gate_dst (N := 4) rfl ?_); (try (refine gate_guard (by rfl) ?_; dsimp only)); refine box_event ?hg (N := 4) ?hd (cs := #[.string (⟨#[]⟩ : ByteArray), .slice none 0 0]) (t := 90) ?hr ?_; (case hd => rfl); (case hg => rfl); (case hr => first | (go_simp; done) | (go_simp; rfl)); intro gb491 hg w7 hbox hb; have n0_ := Aside0.mk (below_step (tB HB) hb); have n1_ := Aside0.mk (hbox); have n2_ := tZ hg (tS HB); have n3_ := tZ hg (tS HB); revert n0_ n1_ n2_ n3_; clear HB; intro HB BK491 GW491 GE491; clear hb hbox hg; have hcz8_0 := cel2 BK491 0 rfl; have hcz8_1 := cel2 BK491 1 rfl; have hfz8_0 := blk_frozen BK491.out 0; have hfz8_1 := blk_frozen BK491.out 1))
       (try simp only [Act.put, List.setIfInBounds_toArray, List.set_cons_zero, List.set_cons_succ])
       go_cut [34] (fun v34 wc => ∃ (kq : Nat) (x34_5 : Bool), v34 = .bool x34_5 ∧ Aside0 (feature_dimensions.j1 kq l0 x14_1 l0 (l0.length : Int) x14_1 x34_5 ((rd_T90 l0 x14_1).f0) ((rd_T90 l0 x14_1).f1) = some r) ∧ Aside0 (kq ≤ k1) ∧ Aside0 (wc.heap[gb491]? = some (.cells #[.string ((rd_T90 l0 x14_1).f0), (.slice A490_1 ((rd_T90 l0 x14_1).f1).length c490_1)] 90 (0, 0))) ∧ Aside0 (Below w.heap.size w wc))
       case first =>
        have H := HC6.out
        clear HC6
        replace H := Option.bind_eq_some_iff.mp H
        obtain ⟨t492, A90, H⟩ := H
        (try dsimp only at H)
        have A9 := Aside0.mk A90
        clear A90
        by_cases c10 : t492 = true
        ·
         subst c10
         rw [if_pos rfl] at H
         by_cases c11 : (((rd_T90 l0 x14_1).f1).length : Int) < 1
         ·
          rw [if_pos c11] at H
          have c11b0 : decide ((((rd_T90 l0 x14_1).f1).length : Int) < 1) = true := decide_eq_true c11
          have c11b1 : decide (((rd_T90 l0 x14_1).f1).length < 1) = true := decide_eq_true (by omega)
          clear c11
          (first | rw [c11b0] | (simp only [i64_w, i32_w]; rw [c11b0]) | skip)
          have H' := Aside0.mk H
          clear H
          obtain ⟨hcz12_0, hcz12_1, hfz12_0, hfz12_1⟩ := bx2 BK491
          go_wp2_with (first | ((with_reducible refine gate_callee (f := 73) rfl ?_); refine goesL_ (some 21) rfl rfl Try.func73 (by kernel_rfl) rfl #[.string ((rd_T90 l0 x14_1).f0)] rfl (by (try simp only [List.map_toArray, List.map_cons, List.map_nil]); first | done | rfl | (simp only [List.length_drop, List.length_take]; rfl)) ?_; (with_reducible refine (feature_name.calls k1 ((rd_T90 l0 x14_1).f0) true _ A9.out).mono ?_); rintro e w' ⟨rfl, ⟨nd, rfl⟩⟩; refine ⟨_, rfl, ?_⟩))
          go_meet
          case rel => exact ⟨_, (true), tV1, H', ⟨by have := HK1.out; first | omega | exact Nat.le_refl _⟩, ⟨tKp BK491⟩, ⟨tB HB⟩⟩
         ·
          rw [if_neg c11] at H
          have c11b0 : decide ((((rd_T90 l0 x14_1).f1).length : Int) < 1) = false := decide_eq_false c11
          have c11b1 : decide (((rd_T90 l0 x14_1).f1).length < 1) = false := decide_eq_false (by omega)
          clear c11
          (first | rw [c11b0] | (simp only [i64_w, i32_w]; rw [c11b0]) | skip)
          have H' := Aside0.mk H
          clear H
          obtain ⟨hcz13_0, hcz13_1, hfz13_0, hfz13_1⟩ := bx2 BK491
          go_wp2_with (first | ((with_reducible refine gate_callee (f := 73) rfl ?_); refine goesL_ (some 21) rfl rfl Try.func73 (by kernel_rfl) rfl #[.string ((rd_T90 l0 x14_1).f0)] rfl (by (try simp only [List.map_toArray, List.map_cons, List.map_nil]); first | done | rfl | (simp only [List.length_drop, List.length_take]; rfl)) ?_; (with_reducible refine (feature_name.calls k1 ((rd_T90 l0 x14_1).f0) true _ A9.out).mono ?_); rintro e w' ⟨rfl, ⟨nd, rfl⟩⟩; refine ⟨_, rfl, ?_⟩))
          go_meet
          case rel => exact ⟨_, (decide ((((rd_T90 l0 x14_1).f1).length : Int) > 8)), tV1, H', ⟨by have := HK1.out; first | omega | exact Nat.le_refl _⟩, ⟨tKp BK491⟩, ⟨tB HB⟩⟩
        ·
         replace c10 := Bool.eq_false_iff.mpr c10
         subst c10
         rw [if_neg (show ¬ (false = true) by decide)] at H
         have H' := Aside0.mk H
         clear H
         obtain ⟨hcz14_0, hcz14_1, hfz14_0, hfz14_1⟩ := bx2 BK491
         go_wp2_with (first | ((with_reducible refine gate_callee (f := 73) rfl ?_); refine goesL_ (some 21) rfl rfl Try.func73 (by kernel_rfl) rfl #[.string ((rd_T90 l0 x14_1).f0)] rfl (by (try simp only [List.map_toArray, List.map_cons, List.map_nil]); first | done | rfl | (simp only [List.length_drop, List.length_take]; rfl)) ?_; (with_reducible refine (feature_name.calls k1 ((rd_T90 l0 x14_1).f0) false _ A9.out).mono ?_); rintro e w' ⟨rfl, ⟨nd, rfl⟩⟩; refine ⟨_, rfl, ?_⟩))
         go_meet
         case rel => exact ⟨_, (true), tV1, H', ⟨by have := HK1.out; first | omega | exact Nat.le_refl _⟩, ⟨tKp BK491⟩, ⟨tB HB⟩⟩
       case rest =>
        clear HC6; (try clear c2); (try clear c2b0); (try clear c2b1); (try clear c3); (try clear c3b0); (try clear c4); (try clear c4b0); (try clear c5); (try clear c5b0); (try clear hcz8_0); (try clear hcz8_1); (try clear hfz8_0); (try clear hfz8_1); (try clear hx490_0); (try clear hx490_1); (try clear p490); (try clear q490)
        obtain ⟨kq, x34_5, rfl, HA, HJ5, BK491, HB⟩ := hcut
        cases kq with
        | zero => exact absurd HA.out (by simp [feature_dimensions.j1])
        | succ kj5 =>
         have H := HA.out
         clear HA
         simp only [feature_dimensions.j1] at H
         by_cases c15 : x34_5 = true
         ·
          subst c15
          rw [if_pos rfl] at H
          obtain rfl := Option.some.inj H
          go_wp2
          go_ret
          exact ⟨tE, by repeat (first | (with_reducible first | exact HB.out | apply below_alloc | apply pw_below_drewN | apply below_drew1 | refine below_set ?_ GE491.out) | exact HB.out)⟩
         ·
          replace c15 := Bool.eq_false_iff.mpr c15
          subst c15
          rw [if_neg (show ¬ (false = true) by decide)] at H
          have H' := Aside0.mk H
          clear H
          obtain ⟨hcz16_0, hcz16_1, hfz16_0, hfz16_1⟩ := bx2 BK491
          go_wp2
          go_loopg [38] kj5 (fun kq v38 w' => ∃ (x38_3 : Int), v38 = .int .i64 x38_3 ∧ Aside0 (feature_dimensions.l1 kq l0 x14_1 l0 (l0.length : Int) x14_1 ((rd_T90 l0 x14_1).f1) (((rd_T90 l0 x14_1).f1).length : Int) x38_3 ((rd_T90 l0 x14_1).f0) ((rd_T90 l0 x14_1).f1) = some r) ∧ Aside0 (kq ≤ kj5) ∧ Aside0 (w'.heap[gb491]? = some (.cells #[.string ((rd_T90 l0 x14_1).f0), (.slice A490_1 ((rd_T90 l0 x14_1).f1).length c490_1)] 90 (0, 0))) ∧ Aside0 (Below w.heap.size w w'))
          case atStart => exact ⟨(0), tV1, H', ⟨Nat.le_refl _⟩, ⟨tK BK491⟩, ⟨tB HB⟩⟩
          case round =>
           clear H'; (try clear c2); (try clear c2b0); (try clear c2b1); (try clear c3); (try clear c3b0); (try clear c4); (try clear c4b0); (try clear c5); (try clear c5b0); (try clear c15); (try clear hcz16_0); (try clear hcz16_1); (try clear hcz8_0); (try clear hcz8_1); (try clear hfz16_0); (try clear hfz16_1); (try clear hfz8_0); (try clear hfz8_1); (try clear hx490_0); (try clear hx490_1); (try clear p490); (try clear q490)
           obtain ⟨x38_3, rfl, HA, HK3, BK491, HB⟩ := hrel
           cases gk with
           | zero => exact absurd HA.out (by simp [feature_dimensions.l1])
           | succ k3 =>
            have H := HA.out
            clear HA
            simp only [feature_dimensions.l1] at H
            by_cases c17 : x38_3 < (((rd_T90 l0 x14_1).f1).length : Int)
            ·
             rw [if_pos c17] at H
             have c17b0 : decide (x38_3 < (((rd_T90 l0 x14_1).f1).length : Int)) = true := decide_eq_true c17
             clear c17
             by_cases c18 : 0 ≤ x38_3
             ·
              rw [if_pos c18] at H
              have c18b0 : decide (0 ≤ x38_3) = true := decide_eq_true c18
              clear c18
              by_cases c19 : x38_3 < (((rd_T90 l0 x14_1).f1).length : Int)
              ·
               rw [if_pos c19] at H
               have c19b0 : decide (x38_3 < (((rd_T90 l0 x14_1).f1).length : Int)) = true := decide_eq_true c19
               clear c19
               replace H := Option.bind_eq_some_iff.mp H
               obtain ⟨t494, A200, H⟩ := H
               (try dsimp only at H)
               have A20 := Aside0.mk A200
               clear A200
               by_cases c21 : t494 = true
               ·
                subst c21
                rw [if_pos rfl] at H
                have c22b0 := eq_true (oD : 0 ≤ x38_3)
                by_cases c23 : x38_3 ≤ (((rd_T90 l0 x14_1).f1).length : Int)
                ·
                 rw [if_pos c23] at H
                 have c23b0 := eq_true c23
                 have c23b1 : decide (x38_3 ≤ (((rd_T90 l0 x14_1).f1).length : Int)) = true := decide_eq_true c23
                 clear c23
                 replace H := Option.bind_eq_some_iff.mp H
                 obtain ⟨t496, A240, H⟩ := H
                 (try dsimp only at H)
                 have A24 := Aside0.mk A240
                 clear A240
                 by_cases c25 : t496 = true
                 ·
                  subst c25
                  rw [if_pos rfl] at H
                  obtain rfl := Option.some.inj H
                  have p493 : 0 ≤ (x38_3 : Int) := oD
                  have q493 : x38_3 < (((rd_T90 l0 x14_1).f1).length : Int) := oD
                  obtain ⟨ad493, e493, hx493_0⟩ := Kd.at_string HR490_1.out x38_3 p493 q493
                  cases e493
                  replace hx493_0 := celB HB hx493_0
                  replace p493 := eq_true p493
                  replace q493 := eq_true q493
                  go_wp2_with (first | ((with_reducible refine gate_callee (f := 73) rfl ?_); refine goesL_ (some 44) rfl rfl Try.func73 (by kernel_rfl) rfl #[.string (rdOf ByteArray.empty ((rd_T90 l0 x14_1).f1) x38_3)] rfl (by (try simp only [List.map_toArray, List.map_cons, List.map_nil]); first | done | rfl | (simp only [List.length_drop, List.length_take]; rfl)) ?_; (with_reducible refine (feature_name.calls k3 (rdOf ByteArray.empty ((rd_T90 l0 x14_1).f1) x38_3) true _ A20.out).mono ?_); rintro e w' ⟨rfl, ⟨nd, rfl⟩⟩; refine ⟨_, rfl, ?_⟩; have hcz26_0 := cel2 BK491 0 rfl; have hcz26_1 := cel2 BK491 1 rfl; have hfz26_0 := blk_frozen BK491.out 0; have hfz26_1 := blk_frozen BK491.out 1; obtain ⟨i027, hi027, _, hsz27, _⟩ := info_parts info9; obtain ⟨hcut27, hA27, hC27⟩ := print_take_of (P := Try.prog) Value.string (⟨#[]⟩ : ByteArray) 50 9 .i64 Try.underlying50 hi027 hsz27 (some ad493) c490_1 ((rd_T90 l0 x14_1).f1) x38_3 (oD) (oD) HC490_1.out; have HR495 := Aside0.mk (Kd.C_of_reads (h1 := fun _ => rfl) (hA27 _ (Kd.reads_of_C HR490_1.out))); have HC495 := Aside0.mk hC27; clear hA27 hC27 hi027 hsz27) | (go_at_call 74; (with_reducible refine Go.Proofs.Ytfbfopfhfeijdaa.Cl.calls_len (Go.Proofs.Ytfbfopfhfeijdaa.Cl.take_len ((rd_T90 l0 x14_1).f1) x38_3 (of_decide_eq_true (by first | (with_reducible assumption) | assumption | decide)) (oD)) ?_); (with_reducible refine (slices_Contains_string_string.calls k3 _ _ (((rd_T90 l0 x14_1).f1).take (x38_3 : Int).toNat) (rdOf ByteArray.empty ((rd_T90 l0 x14_1).f1) x38_3) true _ ?s1 ?s2 A24.out).mono ?_); (case s1 => repeat (first | exact (Kd.C_below HR495.out (tB HB)) | (with_reducible refine Kd.C_alloc ?_ _) | (with_reducible refine Kd.C_drewN ?_ _) | (with_reducible refine Kd.C_drew ?_))); (case s2 => exact HC495.out); rintro e w' ⟨rfl, ⟨nd, rfl⟩⟩))
                  go_ret
                  exact ⟨tE, by repeat (first | (with_reducible first | exact HB.out | apply below_alloc | apply pw_below_drewN | apply below_drew1 | refine below_set ?_ GE491.out) | exact HB.out)⟩
                 ·
                  replace c25 := Bool.eq_false_iff.mpr c25
                  subst c25
                  rw [if_neg (show ¬ (false = true) by decide)] at H
                  have H' := Aside0.mk H
                  clear H
                  have p493 : 0 ≤ (x38_3 : Int) := oD
                  have q493 : x38_3 < (((rd_T90 l0 x14_1).f1).length : Int) := oD
                  obtain ⟨ad493, e493, hx493_0⟩ := Kd.at_string HR490_1.out x38_3 p493 q493
                  cases e493
                  replace hx493_0 := celB HB hx493_0
                  replace p493 := eq_true p493
                  replace q493 := eq_true q493
                  go_wp2_with (first | ((with_reducible refine gate_callee (f := 73) rfl ?_); refine goesL_ (some 44) rfl rfl Try.func73 (by kernel_rfl) rfl #[.string (rdOf ByteArray.empty ((rd_T90 l0 x14_1).f1) x38_3)] rfl (by (try simp only [List.map_toArray, List.map_cons, List.map_nil]); first | done | rfl | (simp only [List.length_drop, List.length_take]; rfl)) ?_; (with_reducible refine (feature_name.calls k3 (rdOf ByteArray.empty ((rd_T90 l0 x14_1).f1) x38_3) true _ A20.out).mono ?_); rintro e w' ⟨rfl, ⟨nd, rfl⟩⟩; refine ⟨_, rfl, ?_⟩; have hcz28_0 := cel2 BK491 0 rfl; have hcz28_1 := cel2 BK491 1 rfl; have hfz28_0 := blk_frozen BK491.out 0; have hfz28_1 := blk_frozen BK491.out 1; obtain ⟨i029, hi029, _, hsz29, _⟩ := info_parts info9; obtain ⟨hcut29, hA29, hC29⟩ := print_take_of (P := Try.prog) Value.string (⟨#[]⟩ : ByteArray) 50 9 .i64 Try.underlying50 hi029 hsz29 (some ad493) c490_1 ((rd_T90 l0 x14_1).f1) x38_3 (oD) (oD) HC490_1.out; have HR495 := Aside0.mk (Kd.C_of_reads (h1 := fun _ => rfl) (hA29 _ (Kd.reads_of_C HR490_1.out))); have HC495 := Aside0.mk hC29; clear hA29 hC29 hi029 hsz29) | (go_at_call 74; (with_reducible refine Go.Proofs.Ytfbfopfhfeijdaa.Cl.calls_len (Go.Proofs.Ytfbfopfhfeijdaa.Cl.take_len ((rd_T90 l0 x14_1).f1) x38_3 (of_decide_eq_true (by first | (with_reducible assumption) | assumption | decide)) (oD)) ?_); (with_reducible refine (slices_Contains_string_string.calls k3 _ _ (((rd_T90 l0 x14_1).f1).take (x38_3 : Int).toNat) (rdOf ByteArray.empty ((rd_T90 l0 x14_1).f1) x38_3) false _ ?s1 ?s2 A24.out).mono ?_); (case s1 => repeat (first | exact (Kd.C_below HR495.out (tB HB)) | (with_reducible refine Kd.C_alloc ?_ _) | (with_reducible refine Kd.C_drewN ?_ _) | (with_reducible refine Kd.C_drew ?_))); (case s2 => exact HC495.out); rintro e w' ⟨rfl, ⟨nd, rfl⟩⟩))
                  go_roundg k3
                  case measure => have := HK1.out; have := HJ5.out; have := HK3.out; omega
                  case rel => exact ⟨(wrap64 (x38_3 + 1)), tV1, H', ⟨by have := HK1.out; have := HJ5.out; have := HK3.out; omega⟩, ⟨tK BK491⟩, ⟨tB HB⟩⟩
                ·
                 rw [if_neg c23] at H
                 exact absurd H (by simp)
               ·
                replace c21 := Bool.eq_false_iff.mpr c21
                subst c21
                rw [if_neg (show ¬ (false = true) by decide)] at H
                obtain rfl := Option.some.inj H
                have p493 : 0 ≤ (x38_3 : Int) := oD
                have q493 : x38_3 < (((rd_T90 l0 x14_1).f1).length : Int) := oD
                obtain ⟨ad493, e493, hx493_0⟩ := Kd.at_string HR490_1.out x38_3 p493 q493
                cases e493
                replace hx493_0 := celB HB hx493_0
                replace p493 := eq_true p493
                replace q493 := eq_true q493
                go_wp2_with (first | ((with_reducible refine gate_callee (f := 73) rfl ?_); refine goesL_ (some 44) rfl rfl Try.func73 (by kernel_rfl) rfl #[.string (rdOf ByteArray.empty ((rd_T90 l0 x14_1).f1) x38_3)] rfl (by (try simp only [List.map_toArray, List.map_cons, List.map_nil]); first | done | rfl | (simp only [List.length_drop, List.length_take]; rfl)) ?_; (with_reducible refine (feature_name.calls k3 (rdOf ByteArray.empty ((rd_T90 l0 x14_1).f1) x38_3) false _ A20.out).mono ?_); rintro e w' ⟨rfl, ⟨nd, rfl⟩⟩; refine ⟨_, rfl, ?_⟩))
                go_ret
                exact ⟨tE, by repeat (first | (with_reducible first | exact HB.out | apply below_alloc | apply pw_below_drewN | apply below_drew1 | refine below_set ?_ GE491.out) | exact HB.out)⟩
              ·
               rw [if_neg c19] at H
               exact absurd H (by simp)
             ·
              rw [if_neg c18] at H
              exact absurd H (by simp)
            ·
             rw [if_neg c17] at H
             have c17b0 : decide (x38_3 < (((rd_T90 l0 x14_1).f1).length : Int)) = false := decide_eq_false c17
             clear c17
             by_cases c30 : 0 ≤ x14_1
             ·
              rw [if_pos c30] at H
              have c30b0 := eq_true c30
              have c30b1 : decide (0 ≤ x14_1) = true := decide_eq_true c30
              clear c30
              by_cases c31 : x14_1 ≤ (l0.length : Int)
              ·
               rw [if_pos c31] at H
               have c31b0 := eq_true c31
               have c31b1 : decide (x14_1 ≤ (l0.length : Int)) = true := decide_eq_true c31
               clear c31
               obtain ⟨y497, hy497⟩ : ∃ y_ : List (S90), y_ = (l0.take (x14_1 : Int).toNat) := ⟨_, rfl⟩
               replace H : (feature_dimensions.l2 k3 l0 l0 (l0.length : Int) x14_1 y497 (y497.length : Int) 0 ((rd_T90 l0 x14_1).f0) ((rd_T90 l0 x14_1).f1)) = some r := by first | (rw [hy497]; with_reducible exact H) | (have H2_ := (Option.bind_some _ _).symm.trans H; rw [hy497]; with_reducible exact H2_) | (have H2_ := (Option.bind_some _ _).symm.trans H; with_reducible exact H2_) | with_reducible exact H | (rw [hy497]; exact H) | exact H
               have Ny497 := Aside0.mk hy497
               clear hy497
               have H' := Aside0.mk H
               clear H
               have q32 : (x14_1 : Int) ≤ ((l0.length : Int) : Int) := oD
               obtain ⟨i032, hi032, _, hsz32, _⟩ := info_parts info90
               have hroom32 : l0.length ≤ c0 := HC0.out
               have hC32 : Kd.C k90 _ (some ad490) l0.length l0 := HR0.out
               have hcut32 := cut_to (P := Try.prog) 66 90 .i64 Try.underlying66 hi032 (some ad490) l0.length c0 x14_1 (oD) q32 hroom32
               have hr32 := Kd.C_take (m := (x14_1 : Int).toNat) hC32 (by omega)
               have hy32 : y497.length = (x14_1 : Int).toNat := (by rw [Ny497.out, List.length_take]; omega)
               rw [← Ny497.out] at hr32
               rw [← hy32] at hcut32
               have HR500 := Aside0.mk hr32
               have HC500 := Aside0.mk (show y497.length ≤ c0 from by omega)
               clear hr32 hC32 hroom32 hi032 hsz32
               have KY32 := Aside0.mk hy32
               clear hy32
               replace q32 := eq_true q32
               go_wp2
               go_loopg [59] k3 (fun kq v59 w' => ∃ (x59_4 : Int), v59 = .int .i64 x59_4 ∧ Aside0 (feature_dimensions.l2 kq l0 l0 (l0.length : Int) x14_1 y497 (y497.length : Int) x59_4 ((rd_T90 l0 x14_1).f0) ((rd_T90 l0 x14_1).f1) = some r) ∧ Aside0 (kq ≤ k3) ∧ Aside0 (w'.heap[gb491]? = some (.cells #[.string ((rd_T90 l0 x14_1).f0), (.slice A490_1 ((rd_T90 l0 x14_1).f1).length c490_1)] 90 (0, 0))) ∧ Aside0 (Below w.heap.size w w'))
               case atStart => exact ⟨(0), tV1, H', ⟨Nat.le_refl _⟩, ⟨tK BK491⟩, ⟨tB HB⟩⟩
               case round =>
                clear H'; (try clear c2); (try clear c2b0); (try clear c2b1); (try clear c3); (try clear c3b0); (try clear c4); (try clear c4b0); (try clear c5); (try clear c5b0); (try clear c15); (try clear c17); (try clear c17b0); (try clear c30); (try clear c30b0); (try clear c30b1); (try clear c31); (try clear c31b0); (try clear c31b1); (try clear q32); (try clear hcz16_0); (try clear hcz16_1); (try clear hcz8_0); (try clear hcz8_1); (try clear hfz16_0); (try clear hfz16_1); (try clear hfz8_0); (try clear hfz8_1); (try clear hx490_0); (try clear hx490_1); (try clear p490); (try clear q32); (try clear q490)
                obtain ⟨x59_4, rfl, HA, HK4, BK491, HB⟩ := hrel
                cases gk with
                | zero => exact absurd HA.out (by simp [feature_dimensions.l2])
                | succ k4 =>
                 have H := HA.out
                 clear HA
                 simp only [feature_dimensions.l2] at H
                 by_cases c33 : x59_4 < (y497.length : Int)
                 ·
                  rw [if_pos c33] at H
                  have c33b0 : decide (x59_4 < (y497.length : Int)) = true := decide_eq_true c33
                  clear c33
                  by_cases c34 : 0 ≤ x59_4
                  ·
                   rw [if_pos c34] at H
                   have c34b0 : decide (0 ≤ x59_4) = true := decide_eq_true c34
                   clear c34
                   by_cases c35 : x59_4 < (y497.length : Int)
                   ·
                    rw [if_pos c35] at H
                    have c35b0 : decide (x59_4 < (y497.length : Int)) = true := decide_eq_true c35
                    clear c35
                    by_cases c36 : ((rd_T90 y497 x59_4).f0).toList = ((rd_T90 l0 x14_1).f0).toList
                    ·
                     rw [if_pos c36] at H
                     have c36b0 := beq_iff_eq.mpr c36
                     have c36b1 := bne_eq_false_iff_eq.mpr c36
                     clear c36
                     obtain rfl := Option.some.inj H
                     have p501 : 0 ≤ (x59_4 : Int) := oD
                     have q501 : x59_4 < (y497.length : Int) := oD
                     obtain ⟨ad501, A501_1, c501_1, e501, hx501_0, hx501_1, hl501_1, hi501_1⟩ := at_T90 HR500.out x59_4 p501 q501
                     obtain rfl : ad490 = ad501 := (by injection e501)
                     replace hx501_0 := celB HB hx501_0
                     replace hx501_1 := celB HB hx501_1
                     have HR501_1 := Aside0.mk hi501_1
                     have HC501_1 := Aside0.mk hl501_1
                     clear hi501_1 hl501_1
                     replace p501 := eq_true p501
                     replace q501 := eq_true q501
                     go_wp2_with (first | ((with_reducible refine gate_dst (N := 8) rfl ?_); (try (refine gate_guard (by rfl) ?_; dsimp only)); refine box_event ?hg (N := 8) ?hd (cs := #[.string (⟨#[]⟩ : ByteArray), .slice none 0 0]) (t := 90) ?hr ?_; (case hd => rfl); (case hg => rfl); (case hr => first | (go_simp; done) | (go_simp; rfl)); intro gb502 hg w37 hbox hb; have n0_ := Aside0.mk (blk_below (tK BK491) hb); have n1_ := Aside0.mk (below_step (tB HB) hb); have n2_ := Aside0.mk (hbox); have n3_ := tZ hg (tS HB); have n4_ := tZ hg (tS HB); have n5_ := tL hg (tK BK491); have n6_ := tG hg (tK BK491); revert n0_ n1_ n2_ n3_ n4_ n5_ n6_; clear BK491 HB; intro BK491 HB BK502 GW502 GE502 NB491_502 NB502_491; clear hb hbox hg; have hnb38 := NB502_491.out; have hnc38 := NB491_502.out; have hcz39_0 := cel2 BK502 0 rfl; have hcz39_1 := cel2 BK502 1 rfl; have hfz39_0 := blk_frozen BK502.out 0; have hfz39_1 := blk_frozen BK502.out 1; have hcz40_0 := cel2 BK491 0 rfl; have hcz40_1 := cel2 BK491 1 rfl; have hfz40_0 := blk_frozen BK491.out 0; have hfz40_1 := blk_frozen BK491.out 1))
                     go_ret
                     exact ⟨tE, by repeat (first | (with_reducible first | exact HB.out | apply below_alloc | apply pw_below_drewN | apply below_drew1 | refine below_set ?_ GE491.out | refine below_set ?_ GE502.out) | exact HB.out)⟩
                    ·
                     rw [if_neg c36] at H
                     have c36b0 := beq_eq_false_iff_ne.mpr c36
                     have c36b1 := bne_iff_ne.mpr c36
                     have H' := Aside0.mk H
                     clear H
                     have p501 : 0 ≤ (x59_4 : Int) := oD
                     have q501 : x59_4 < (y497.length : Int) := oD
                     obtain ⟨ad501, A501_1, c501_1, e501, hx501_0, hx501_1, hl501_1, hi501_1⟩ := at_T90 HR500.out x59_4 p501 q501
                     obtain rfl : ad490 = ad501 := (by injection e501)
                     replace hx501_0 := celB HB hx501_0
                     replace hx501_1 := celB HB hx501_1
                     have HR501_1 := Aside0.mk hi501_1
                     have HC501_1 := Aside0.mk hl501_1
                     clear hi501_1 hl501_1
                     replace p501 := eq_true p501
                     replace q501 := eq_true q501
                     go_wp2_with (first | ((with_reducible refine gate_dst (N := 8) rfl ?_); (try (refine gate_guard (by rfl) ?_; dsimp only)); refine box_event ?hg (N := 8) ?hd (cs := #[.string (⟨#[]⟩ : ByteArray), .slice none 0 0]) (t := 90) ?hr ?_; (case hd => rfl); (case hg => rfl); (case hr => first | (go_simp; done) | (go_simp; rfl)); intro gb502 hg w41 hbox hb; have n0_ := Aside0.mk (blk_below (tK BK491) hb); have n1_ := Aside0.mk (below_step (tB HB) hb); have n2_ := Aside0.mk (hbox); have n3_ := tZ hg (tS HB); have n4_ := tZ hg (tS HB); have n5_ := tL hg (tK BK491); have n6_ := tG hg (tK BK491); revert n0_ n1_ n2_ n3_ n4_ n5_ n6_; clear BK491 HB; intro BK491 HB BK502 GW502 GE502 NB491_502 NB502_491; clear hb hbox hg; have hnb42 := NB502_491.out; have hnc42 := NB491_502.out; have hcz43_0 := cel2 BK502 0 rfl; have hcz43_1 := cel2 BK502 1 rfl; have hfz43_0 := blk_frozen BK502.out 0; have hfz43_1 := blk_frozen BK502.out 1; have hcz44_0 := cel2 BK491 0 rfl; have hcz44_1 := cel2 BK491 1 rfl; have hfz44_0 := blk_frozen BK491.out 0; have hfz44_1 := blk_frozen BK491.out 1))
                     go_roundg k4
                     case measure => have := HK1.out; have := HJ5.out; have := HK3.out; have := HK4.out; omega
                     case rel => exact ⟨(wrap64 (x59_4 + 1)), tV1, H', ⟨by have := HK1.out; have := HJ5.out; have := HK3.out; have := HK4.out; omega⟩, ⟨tK BK491⟩, ⟨tB HB⟩⟩
                   ·
                    rw [if_neg c35] at H
                    exact absurd H (by simp)
                  ·
                   rw [if_neg c34] at H
                   exact absurd H (by simp)
                 ·
                  rw [if_neg c33] at H
                  have c33b0 : decide (x59_4 < (y497.length : Int)) = false := decide_eq_false c33
                  clear c33
                  have H' := Aside0.mk H
                  clear H
                  go_wp2
                  go_roundg k4
                  case measure => have := HK1.out; have := HJ5.out; have := HK3.out; have := HK4.out; omega
                  case rel => exact ⟨(wrap64 (x14_1 + 1)), tV1, H', ⟨by have := HK1.out; have := HJ5.out; have := HK3.out; have := HK4.out; omega⟩, ⟨tB HB⟩⟩
              ·
               rw [if_neg c31] at H
               exact absurd H (by simp)
             ·
              rw [if_neg c30] at H
              exact absurd H (by simp)
      ·
       rw [if_neg c5] at H
       exact absurd H (by simp)
     ·
      rw [if_neg c4] at H
      exact absurd H (by simp)
    ·
     rw [if_neg c3] at H
     have c3b0 : decide (x14_1 < (l0.length : Int)) = false := decide_eq_false c3
     clear c3
     obtain rfl := Option.some.inj H
     go_wp2
     go_ret
     exact ⟨tE, by repeat (first | (with_reducible first | exact HB.out | apply below_alloc | apply pw_below_drewN | apply below_drew1) | exact HB.out)⟩

end Go.Proofs.Ytfbfopfhfeijdaa.Pr
