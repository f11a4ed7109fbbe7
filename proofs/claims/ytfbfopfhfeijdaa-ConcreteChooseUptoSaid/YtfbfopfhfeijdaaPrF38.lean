-- Written by a program of this session (ownprint.py, over the kit's printer). Not trusted: Lean checks it.
import Derived.Test.YtfbfopfhfeijdaaPr0
import Derived.Test.YtfbfopfhfeijdaaCt
import Derived.Test.YtfbfopfhfeijdaaPrEq37
namespace Go.Proofs.Ytfbfopfhfeijdaa.Pr
open Go.Proofs.Ytfbfopfhfeijdaa.Ct Go.RowKit Go.Proofs.YtfbfopfhfeijdaaW.PrintWords Go.Proofs.YtfbfopfhfeijdaaW.PrintLast Go.Proofs.YtfbfopfhfeijdaaW.PrintMore
attribute [local go_sem] max2_int min2_int max_two min_two max_three min_three max_four min_four   -- for this text's walks alone
set_option linter.unusedVariables false
set_option linter.unusedSimpArgs false

attribute [local go_sem high] eqA37
/-! ### pentaglotref09_Contains: function 38 -/
mutual
def pentaglotref09_Contains.l0 : Nat → List (S37) → List (S37) → Int → Int → Option (Bool)
 | 0, _, _, _, _ => none
 | k + 1, x0, x10, x11, x12 => if x12 < x11 then (if 0 ≤ x12 then (if x12 < (x10.length : Int) then (pentaglotref09_Contains.l1 k x0 false x10 x11 x12 x0 (x0.length : Int) 0 ((rd_T37 x10 x12).f0) ((rd_T37 x10 x12).f1)) else (none)) else (none)) else (some true)
def pentaglotref09_Contains.l1 : Nat → List (S37) → Bool → List (S37) → Int → Int → List (S37) → Int → Int → ByteArray → ByteArray → Option (Bool)
 | 0, _, _, _, _, _, _, _, _, _, _ => none
 | k + 1, x0, x7, x10, x11, x12, x16, x17, x18, x158000, x158001 => if x18 < x17 then (if 0 ≤ x18 then (if x18 < (x16.length : Int) then (if x7 = true then (pentaglotref09_Contains.l1 k x0 true x10 x11 x12 x16 x17 (wrap64 (x18 + 1)) x158000 x158001) else (pentaglotref09_Contains.l1 k x0 (x158000.toList == (((rd_T37 x16 x18).f0).toList) && (x158001.toList == (((rd_T37 x16 x18).f1).toList))) x10 x11 x12 x16 x17 (wrap64 (x18 + 1)) x158000 x158001)) else (none)) else (none)) else (if x7 = true then (pentaglotref09_Contains.l0 k x0 x10 x11 (wrap64 (x12 + 1))) else (some false))
end
def pentaglotref09_Contains.f (k : Nat) (l0 : List (S37)) (l1 : List (S37)) : Option (Bool) := pentaglotref09_Contains.l0 k l0 l1 (l1.length : Int) 0
theorem pentaglotref09_Contains.mono_l : ∀ k, (∀ y0 y1 y2 y3, LeO (pentaglotref09_Contains.l0 k y0 y1 y2 y3) (pentaglotref09_Contains.l0 (k + 1) y0 y1 y2 y3)) ∧ (∀ y0 y1 y2 y3 y4 y5 y6 y7 y8 y9, LeO (pentaglotref09_Contains.l1 k y0 y1 y2 y3 y4 y5 y6 y7 y8 y9) (pentaglotref09_Contains.l1 (k + 1) y0 y1 y2 y3 y4 y5 y6 y7 y8 y9))
 | 0 => ⟨fun _ _ _ _ r h => by simp [pentaglotref09_Contains.l0] at h, fun _ _ _ _ _ _ _ _ _ _ r h => by simp [pentaglotref09_Contains.l1] at h⟩
 | k + 1 => by
  obtain ⟨ih0, ih1⟩ := pentaglotref09_Contains.mono_l k
  refine ⟨?_, ?_⟩
  ·
   intro y0 y1 y2 y3
   unfold pentaglotref09_Contains.l0
   repeat' first | (with_reducible exact ih0 ..) | (with_reducible exact ih1 ..) | (with_reducible exact LeO.refl ..) | (with_reducible exact LeO.none ..) | (with_reducible refine LeO.ite ?_ ?_) | (with_reducible refine LeO.bind ?_ (fun _ => ?_)) | exact ih0 .. | exact ih1 .. | exact LeO.none .. | refine LeO.ite ?_ ?_ | refine LeO.bind ?_ (fun _ => ?_)
  ·
   intro y0 y1 y2 y3 y4 y5 y6 y7 y8 y9
   unfold pentaglotref09_Contains.l1
   repeat' first | (with_reducible exact ih0 ..) | (with_reducible exact ih1 ..) | (with_reducible exact LeO.refl ..) | (with_reducible exact LeO.none ..) | (with_reducible refine LeO.ite ?_ ?_) | (with_reducible refine LeO.bind ?_ (fun _ => ?_)) | exact ih0 .. | exact ih1 .. | exact LeO.none .. | refine LeO.ite ?_ ?_ | refine LeO.bind ?_ (fun _ => ?_)
theorem pentaglotref09_Contains.mono : ∀ a0 a1 k, LeO (pentaglotref09_Contains.f k a0 a1) (pentaglotref09_Contains.f (k + 1) a0 a1) := by
 intro a0 a1 k
 obtain ⟨ih0, ih1⟩ := pentaglotref09_Contains.mono_l k
 unfold pentaglotref09_Contains.f
 repeat' first | (with_reducible exact ih0 ..) | (with_reducible exact ih1 ..) | (with_reducible exact LeO.refl ..) | (with_reducible exact LeO.none ..) | (with_reducible refine LeO.ite ?_ ?_) | (with_reducible refine LeO.bind ?_ (fun _ => ?_)) | exact ih0 .. | exact ih1 .. | exact LeO.none .. | refine LeO.ite ?_ ?_ | refine LeO.bind ?_ (fun _ => ?_)
set_option maxHeartbeats 8000000 in
set_option maxRecDepth 100000 in
theorem pentaglotref09_Contains.calls (k : Nat) (A0 : Option Addr) (c0 : Nat) (l0 : List (S37)) (A1 : Option Addr) (c1 : Nat) (l1 : List (S37)) (r : Bool) (w : World) (hr0 : Kd.C k37 w A0 l0.length l0) (hc0 : l0.length ≤ c0) (hr1 : Kd.C k37 w A1 l1.length l1) (hc1 : l1.length ≤ c1) (h : pentaglotref09_Contains.f k l0 l1 = some r) :
 Calls Try.prog 38 #[.slice A0 l0.length c0, .slice A1 l1.length c1] w fun e w' => e = .returned (.bool r) ∧ Below w.heap.size w w' := by
 have hu37 := Try.underlying37
 have HR0 := Aside0.mk hr0
 have HC0 := Aside0.mk hc0
 clear hr0 hc0
 have HR1 := Aside0.mk hr1
 have HC1 := Aside0.mk hc1
 clear hr1 hc1
 have HB := Aside0.mk (Below.refl w.heap.size w)
 have H : (pentaglotref09_Contains.l0 k l0 l1 (l1.length : Int) 0) = some r := h
 clear h
 have H' := Aside0.mk H
 clear H
 go_enter Try.func38, Try.ntmps38
 go_wp2
 go_loopg [12] k (fun kq v12 w' => ∃ (x12_1 : Int), v12 = .int .i64 x12_1 ∧ Aside0 (pentaglotref09_Contains.l0 kq l0 l1 (l1.length : Int) x12_1 = some r) ∧ Aside0 (kq ≤ k) ∧ Aside0 (Below w.heap.size w w'))
 case atStart => exact ⟨(0), tV1, H', ⟨Nat.le_refl _⟩, ⟨tB HB⟩⟩
 case round =>
  clear H'
  obtain ⟨x12_1, rfl, HA, HK1, HB⟩ := hrel
  cases gk with
  | zero => exact absurd HA.out (by simp [pentaglotref09_Contains.l0])
  | succ k1 =>
   have H := HA.out
   clear HA
   simp only [pentaglotref09_Contains.l0] at H
   by_cases c3 : x12_1 < (l1.length : Int)
   ·
    rw [if_pos c3] at H
    have c3b0 : decide (x12_1 < (l1.length : Int)) = true := decide_eq_true c3
    clear c3
    by_cases c4 : 0 ≤ x12_1
    ·
     rw [if_pos c4] at H
     have c4b0 : decide (0 ≤ x12_1) = true := decide_eq_true c4
     clear c4
     by_cases c5 : x12_1 < (l1.length : Int)
     ·
      rw [if_pos c5] at H
      have c5b0 : decide (x12_1 < (l1.length : Int)) = true := decide_eq_true c5
      clear c5
      have H' := Aside0.mk H
      clear H
      have p156 : 0 ≤ (x12_1 : Int) := oD
      have q156 : x12_1 < (l1.length : Int) := oD
      obtain ⟨ad156, e156, hx156_0, hx156_1⟩ := at_T37 HR1.out x12_1 p156 q156
      cases e156
      replace hx156_0 := celB HB hx156_0
      replace hx156_1 := celB HB hx156_1
      replace p156 := eq_true p156
      replace q156 := eq_true q156
      go_wp2_with (first | ((with_reducible refine gate_dst (N := 6) rfl ?_); refine box_event ?hg (N := 6) ?hd (cs := #[.string (⟨#[]⟩ : ByteArray), .string (⟨#[]⟩ : ByteArray)]) (t := 37) ?hr ?_; (case hd => rfl); (case hg => rfl); (case hr => first | (go_simp; done) | (go_simp; rfl)); intro gb157 hg w6 hbox hb; have n0_ := Aside0.mk (below_step (tB HB) hb); have n1_ := Aside0.mk (hbox); have n2_ := tZ hg (tS HB); have n3_ := tZ hg (tS HB); revert n0_ n1_ n2_ n3_; clear HB; intro HB BK157 GW157 GE157; clear hb hbox hg; have hcz7_0 := cel2 BK157 0 rfl; have hcz7_1 := cel2 BK157 1 rfl; have hfz7_0 := blk_frozen BK157.out 0; have hfz7_1 := blk_frozen BK157.out 1))
      go_loopg [7, 18] k1 (fun kq v7 v18 w' => ∃ (x7_2 : Bool) (x18_2 : Int), v7 = .bool x7_2 ∧ v18 = .int .i64 x18_2 ∧ Aside0 (pentaglotref09_Contains.l1 kq l0 x7_2 l1 (l1.length : Int) x12_1 l0 (l0.length : Int) x18_2 ((rd_T37 l1 x12_1).f0) ((rd_T37 l1 x12_1).f1) = some r) ∧ Aside0 (kq ≤ k1) ∧ Aside0 (w'.heap[gb157]? = some (.cells #[.string ((rd_T37 l1 x12_1).f0), .string ((rd_T37 l1 x12_1).f1)] 37 (0, 0))) ∧ Aside0 (Below w.heap.size w w'))
      case atStart => exact ⟨(false), (0), tV1, tV1, H', ⟨Nat.le_refl _⟩, ⟨tKp BK157⟩, ⟨tB HB⟩⟩
      case round =>
       clear H'; (try clear c3); (try clear c3b0); (try clear c4); (try clear c4b0); (try clear c5); (try clear c5b0); (try clear hcz7_0); (try clear hcz7_1); (try clear hfz7_0); (try clear hfz7_1); (try clear hx156_0); (try clear hx156_1); (try clear p156); (try clear q156)
       obtain ⟨x7_2, x18_2, rfl, rfl, HA, HK2, BK157, HB⟩ := hrel
       cases gk with
       | zero => exact absurd HA.out (by simp [pentaglotref09_Contains.l1])
       | succ k2 =>
        have H := HA.out
        clear HA
        simp only [pentaglotref09_Contains.l1] at H
        by_cases c8 : x18_2 < (l0.length : Int)
        ·
         rw [if_pos c8] at H
         have c8b0 : decide (x18_2 < (l0.length : Int)) = true := decide_eq_true c8
         clear c8
         by_cases c9 : 0 ≤ x18_2
         ·
          rw [if_pos c9] at H
          have c9b0 : decide (0 ≤ x18_2) = true := decide_eq_true c9
          clear c9
          by_cases c10 : x18_2 < (l0.length : Int)
          ·
           rw [if_pos c10] at H
           have c10b0 : decide (x18_2 < (l0.length : Int)) = true := decide_eq_true c10
           clear c10
           by_cases c11 : x7_2 = true
           ·
            subst c11
            rw [if_pos rfl] at H
            have H' := Aside0.mk H
            clear H
            have p158 : 0 ≤ (x18_2 : Int) := oD
            have q158 : x18_2 < (l0.length : Int) := oD
            obtain ⟨ad158, e158, hx158_0, hx158_1⟩ := at_T37 HR0.out x18_2 p158 q158
            cases e158
            replace hx158_0 := celB HB hx158_0
            replace hx158_1 := celB HB hx158_1
            replace p158 := eq_true p158
            replace q158 := eq_true q158
            go_wp2_with (first | ((with_reducible refine gate_dst (N := 9) rfl ?_); refine box_event ?hg (N := 9) ?hd (cs := #[.string (⟨#[]⟩ : ByteArray), .string (⟨#[]⟩ : ByteArray)]) (t := 37) ?hr ?_; (case hd => rfl); (case hg => rfl); (case hr => first | (go_simp; done) | (go_simp; rfl)); intro gb159 hg w12 hbox hb; have n0_ := Aside0.mk (blk_below (tK BK157) hb); have n1_ := Aside0.mk (below_step (tB HB) hb); have n2_ := Aside0.mk (hbox); have n3_ := tZ hg (tS HB); have n4_ := tZ hg (tS HB); have n5_ := tL hg (tK BK157); have n6_ := tG hg (tK BK157); revert n0_ n1_ n2_ n3_ n4_ n5_ n6_; clear BK157 HB; intro BK157 HB BK159 GW159 GE159 NB157_159 NB159_157; clear hb hbox hg; have hnb13 := NB159_157.out; have hnc13 := NB157_159.out; have hcz14_0 := cel2 BK159 0 rfl; have hcz14_1 := cel2 BK159 1 rfl; have hfz14_0 := blk_frozen BK159.out 0; have hfz14_1 := blk_frozen BK159.out 1))
            go_roundg k2
            case measure => have := HK1.out; have := HK2.out; omega
            case rel => exact ⟨(true), (wrap64 (x18_2 + 1)), tV1, tV1, H', ⟨by have := HK1.out; have := HK2.out; omega⟩, ⟨tK BK157⟩, ⟨tB HB⟩⟩
           ·
            replace c11 := Bool.eq_false_iff.mpr c11
            subst c11
            rw [if_neg (show ¬ (false = true) by decide)] at H
            have H' := Aside0.mk H
            clear H
            have p158 : 0 ≤ (x18_2 : Int) := oD
            have q158 : x18_2 < (l0.length : Int) := oD
            obtain ⟨ad158, e158, hx158_0, hx158_1⟩ := at_T37 HR0.out x18_2 p158 q158
            cases e158
            replace hx158_0 := celB HB hx158_0
            replace hx158_1 := celB HB hx158_1
            replace p158 := eq_true p158
            replace q158 := eq_true q158
            go_wp2_with (first | ((with_reducible refine gate_dst (N := 9) rfl ?_); refine box_event ?hg (N := 9) ?hd (cs := #[.string (⟨#[]⟩ : ByteArray), .string (⟨#[]⟩ : ByteArray)]) (t := 37) ?hr ?_; (case hd => rfl); (case hg => rfl); (case hr => first | (go_simp; done) | (go_simp; rfl)); intro gb159 hg w15 hbox hb; have n0_ := Aside0.mk (blk_below (tK BK157) hb); have n1_ := Aside0.mk (below_step (tB HB) hb); have n2_ := Aside0.mk (hbox); have n3_ := tZ hg (tS HB); have n4_ := tZ hg (tS HB); have n5_ := tL hg (tK BK157); have n6_ := tG hg (tK BK157); revert n0_ n1_ n2_ n3_ n4_ n5_ n6_; clear BK157 HB; intro BK157 HB BK159 GW159 GE159 NB157_159 NB159_157; clear hb hbox hg; have hnb16 := NB159_157.out; have hnc16 := NB157_159.out; have hcz17_0 := cel2 BK159 0 rfl; have hcz17_1 := cel2 BK159 1 rfl; have hfz17_0 := blk_frozen BK159.out 0; have hfz17_1 := blk_frozen BK159.out 1; have hcz18_0 := cel2 BK157 0 rfl; have hcz18_1 := cel2 BK157 1 rfl; have hfz18_0 := blk_frozen BK157.out 0; have hfz18_1 := blk_frozen BK157.out 1))
            go_roundg k2
            case measure => have := HK1.out; have := HK2.out; omega
            case rel => exact ⟨((((rd_T37 l1 x12_1).f0).toList == (((rd_T37 l0 x18_2).f0).toList) && (((rd_T37 l1 x12_1).f1).toList == (((rd_T37 l0 x18_2).f1).toList)))), (wrap64 (x18_2 + 1)), tV1, tV1, H', ⟨by have := HK1.out; have := HK2.out; omega⟩, ⟨tK BK157⟩, ⟨tB HB⟩⟩
          ·
           rw [if_neg c10] at H
           exact absurd H (by simp)
         ·
          rw [if_neg c9] at H
          exact absurd H (by simp)
        ·
         rw [if_neg c8] at H
         have c8b0 : decide (x18_2 < (l0.length : Int)) = false := decide_eq_false c8
         clear c8
         by_cases c19 : x7_2 = true
         ·
          subst c19
          rw [if_pos rfl] at H
          have H' := Aside0.mk H
          clear H
          go_wp2
          go_roundg k2
          case measure => have := HK1.out; have := HK2.out; omega
          case rel => exact ⟨(wrap64 (x12_1 + 1)), tV1, H', ⟨by have := HK1.out; have := HK2.out; omega⟩, ⟨tB HB⟩⟩
         ·
          replace c19 := Bool.eq_false_iff.mpr c19
          subst c19
          rw [if_neg (show ¬ (false = true) by decide)] at H
          obtain rfl := Option.some.inj H
          go_wp2
          go_ret
          exact ⟨tE, by repeat (first | (with_reducible first | exact HB.out | apply below_alloc | apply pw_below_drewN | apply below_drew1 | refine below_set ?_ GE157.out) | exact HB.out)⟩
     ·
      rw [if_neg c5] at H
      exact absurd H (by simp)
    ·
     rw [if_neg c4] at H
     exact absurd H (by simp)
   ·
    rw [if_neg c3] at H
    have c3b0 : decide (x12_1 < (l1.length : Int)) = false := decide_eq_false c3
    clear c3
    obtain rfl := Option.some.inj H
    go_wp2
    go_ret
    exact ⟨tE, by repeat (first | (with_reducible first | exact HB.out | apply below_alloc | apply pw_below_drewN | apply below_drew1) | exact HB.out)⟩

end Go.Proofs.Ytfbfopfhfeijdaa.Pr
