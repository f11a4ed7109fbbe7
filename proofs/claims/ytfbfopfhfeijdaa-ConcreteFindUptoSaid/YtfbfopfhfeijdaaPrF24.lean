-- Written by a program of this session (ownprint.py, over the kit's printer). Not trusted: Lean checks it.
import Derived.Test.YtfbfopfhfeijdaaPr0
import Derived.Test.YtfbfopfhfeijdaaCt
import Derived.Test.YtfbfopfhfeijdaaPrF20
import Derived.Test.YtfbfopfhfeijdaaPrF29
import Derived.Test.YtfbfopfhfeijdaaPrF42
namespace Go.Proofs.Ytfbfopfhfeijdaa.Pr
open Go.Proofs.Ytfbfopfhfeijdaa.Ct Go.RowKit Go.Proofs.YtfbfopfhfeijdaaW.PrintWords Go.Proofs.YtfbfopfhfeijdaaW.PrintLast Go.Proofs.YtfbfopfhfeijdaaW.PrintMore
attribute [local go_sem] max2_int min2_int max_two min_two max_three min_three max_four min_four   -- for this text's walks alone
set_option linter.unusedVariables false
set_option linter.unusedSimpArgs false

/-! ### pentaglotref33_SameRule: function 24 -/
mutual
def pentaglotref33_SameRule.j0 : Nat → Bool → ByteArray → List (List (S37)) → List (S37) → List (S88) → ByteArray → List (List (S37)) → List (S37) → List (S88) → Option (Bool)
 | 0, _, _, _, _, _, _, _, _, _ => none
 | k + 1, x47, x290000, x290001, x290002, x290003, x291000, x291001, x291002, x291003 => if x47 = true then (some false) else (pentaglotref33_SameRule.l0 k (x290003.length : Int) 0 x290000 x290001 x290002 x290003 x291000 x291001 x291002 x291003)
def pentaglotref33_SameRule.l0 : Nat → Int → Int → ByteArray → List (List (S37)) → List (S37) → List (S88) → ByteArray → List (List (S37)) → List (S37) → List (S88) → Option (Bool)
 | 0, _, _, _, _, _, _, _, _, _, _ => none
 | k + 1, x50, x51, x290000, x290001, x290002, x290003, x291000, x291001, x291002, x291003 => if x51 < x50 then (if 0 ≤ x51 then (if x51 < (x290003.length : Int) then (if x51 < (x291003.length : Int) then (if ((rd_T88 x290003 x51).f0).toList = ((rd_T88 x291003 x51).f0).toList then (pentaglotref33_SameRule.j2 k x50 x51 ((((rd_T88 x290003 x51).f1).length : Int) != (((rd_T88 x291003 x51).f1).length : Int)) x290000 x290001 x290002 x290003 x291000 x291001 x291002 x291003 ((rd_T88 x290003 x51).f0) ((rd_T88 x290003 x51).f1) ((rd_T88 x291003 x51).f0) ((rd_T88 x291003 x51).f1)) else (pentaglotref33_SameRule.j2 k x50 x51 true x290000 x290001 x290002 x290003 x291000 x291001 x291002 x291003 ((rd_T88 x290003 x51).f0) ((rd_T88 x290003 x51).f1) ((rd_T88 x291003 x51).f0) ((rd_T88 x291003 x51).f1))) else (none)) else (none)) else (none)) else (some true)
def pentaglotref33_SameRule.j2 : Nat → Int → Int → Bool → ByteArray → List (List (S37)) → List (S37) → List (S88) → ByteArray → List (List (S37)) → List (S37) → List (S88) → ByteArray → List (S94) → ByteArray → List (S94) → Option (Bool)
 | 0, _, _, _, _, _, _, _, _, _, _, _, _, _, _, _ => none
 | k + 1, x50, x51, x77, x290000, x290001, x290002, x290003, x291000, x291001, x291002, x291003, x296000, x296001, x297000, x297001 => if x77 = true then (some false) else (pentaglotref33_SameRule.l1 k x50 x51 (x296001.length : Int) 0 x290000 x290001 x290002 x290003 x291000 x291001 x291002 x291003 x296000 x296001 x297000 x297001)
def pentaglotref33_SameRule.l1 : Nat → Int → Int → Int → Int → ByteArray → List (List (S37)) → List (S37) → List (S88) → ByteArray → List (List (S37)) → List (S37) → List (S88) → ByteArray → List (S94) → ByteArray → List (S94) → Option (Bool)
 | 0, _, _, _, _, _, _, _, _, _, _, _, _, _, _, _, _ => none
 | k + 1, x50, x51, x80, x81, x290000, x290001, x290002, x290003, x291000, x291001, x291002, x291003, x296000, x296001, x297000, x297001 => if x81 < x80 then (if 0 ≤ x81 then (if x81 < (x296001.length : Int) then (if x81 < (x297001.length : Int) then ((pentaglotref33_SamePiece.f k ((rd_T94 x296001 x81).f0) ((rd_T94 x296001 x81).f1) ((rd_T94 x296001 x81).f2) ((rd_T94 x296001 x81).f3) ((rd_T94 x296001 x81).f4) ((rd_T94 x297001 x81).f0) ((rd_T94 x297001 x81).f1) ((rd_T94 x297001 x81).f2) ((rd_T94 x297001 x81).f3) ((rd_T94 x297001 x81).f4)).bind fun t299 => (if t299 = true then (pentaglotref33_SameRule.l1 k x50 x51 x80 (wrap64 (x81 + 1)) x290000 x290001 x290002 x290003 x291000 x291001 x291002 x291003 x296000 x296001 x297000 x297001) else (some false))) else (none)) else (none)) else (none)) else (pentaglotref33_SameRule.l0 k x50 (wrap64 (x51 + 1)) x290000 x290001 x290002 x290003 x291000 x291001 x291002 x291003)
end
def pentaglotref33_SameRule.f (k : Nat) (a0_0 : ByteArray) (l0_1 : List (List (S37))) (l0_2 : List (S37)) (l0_3 : List (S88)) (a1_0 : ByteArray) (l1_1 : List (List (S37))) (l1_2 : List (S37)) (l1_3 : List (S88)) : Option (Bool) := if a0_0.toList = a1_0.toList then (if (l0_1.length : Int) = (l1_1.length : Int) then ((pentaglotref02_Same.f k l0_2 l1_2).bind fun t291 => (if t291 = true then (if (l0_3.length : Int) = (l1_3.length : Int) then ((pentaglotref02_SameAll.f k l0_1 l1_1).bind fun t292 => (pentaglotref33_SameRule.j0 k (!t292) a0_0 l0_1 l0_2 l0_3 a1_0 l1_1 l1_2 l1_3)) else (pentaglotref33_SameRule.j0 k true a0_0 l0_1 l0_2 l0_3 a1_0 l1_1 l1_2 l1_3)) else (pentaglotref33_SameRule.j0 k true a0_0 l0_1 l0_2 l0_3 a1_0 l1_1 l1_2 l1_3))) else (pentaglotref33_SameRule.j0 k true a0_0 l0_1 l0_2 l0_3 a1_0 l1_1 l1_2 l1_3)) else (pentaglotref33_SameRule.j0 k true a0_0 l0_1 l0_2 l0_3 a1_0 l1_1 l1_2 l1_3)
def pentaglotref33_SameRule.T6 : Bool × List (List Nat × List Nat) := (true, [([], []), ([0], [0]), ([], []), ([1, 2], [1, 2]), ([3], [3]), ([], []), ([5], [5]), ([], []), ([6, 7], [6, 7]), ([8], [8]), ([], []), ([], []), ([10, 4, 0, 1, 2, 3, 4, 10, 11], [4, 10]), ([11, 9, 12, 0, 1, 2, 3, 4, 5, 6, 7, 8, 9, 10, 11, 12], [9, 11])])
def pentaglotref33_SameRule.B6 : List Nat := [0, 1, 0, 7, 15, 0, 32, 0, 224, 480, 0, 0, 3103, 8191]
theorem pentaglotref33_SameRule.tab6 : rtab .any (opsOf Try.f24 6) = pentaglotref33_SameRule.T6 := by kernel_rfl
theorem pentaglotref33_SameRule.bits6 : waitsOk pentaglotref33_SameRule.T6.2 pentaglotref33_SameRule.B6 = true := by kernel_rfl
def pentaglotref33_SameRule.T12 : Bool × List (List Nat × List Nat) := (true, [([], []), ([0], [0]), ([], []), ([1, 2], [1, 2]), ([3], [3]), ([], []), ([5], [5]), ([], []), ([6, 7], [6, 7]), ([8], [8]), ([4, 9], [4, 9]), ([10], [10])])
def pentaglotref33_SameRule.B12 : List Nat := [0, 1, 0, 7, 15, 0, 32, 0, 224, 480, 1023, 2047]
theorem pentaglotref33_SameRule.tab12 : rtab .any (opsOf Try.f24 12) = pentaglotref33_SameRule.T12 := by kernel_rfl
theorem pentaglotref33_SameRule.bits12 : waitsOk pentaglotref33_SameRule.T12.2 pentaglotref33_SameRule.B12 = true := by kernel_rfl
set_option maxHeartbeats 8000000 in
set_option maxRecDepth 100000 in
theorem pentaglotref33_SameRule.calls (k : Nat) (a0_0 : ByteArray) (A0_1 : Option Addr) (c0_1 : Nat) (l0_1 : List (List (S37))) (A0_2 : Option Addr) (c0_2 : Nat) (l0_2 : List (S37)) (A0_3 : Option Addr) (c0_3 : Nat) (l0_3 : List (S88)) (a1_0 : ByteArray) (A1_1 : Option Addr) (c1_1 : Nat) (l1_1 : List (List (S37))) (A1_2 : Option Addr) (c1_2 : Nat) (l1_2 : List (S37)) (A1_3 : Option Addr) (c1_3 : Nat) (l1_3 : List (S88)) (r : Bool) (w : World) (hr0_1 : Kd.C (Kd.slice 37 k37) w A0_1 l0_1.length l0_1) (hc0_1 : l0_1.length ≤ c0_1) (hr0_2 : Kd.C k37 w A0_2 l0_2.length l0_2) (hc0_2 : l0_2.length ≤ c0_2) (hr0_3 : Kd.C k88 w A0_3 l0_3.length l0_3) (hc0_3 : l0_3.length ≤ c0_3) (hr1_1 : Kd.C (Kd.slice 37 k37) w A1_1 l1_1.length l1_1) (hc1_1 : l1_1.length ≤ c1_1) (hr1_2 : Kd.C k37 w A1_2 l1_2.length l1_2) (hc1_2 : l1_2.length ≤ c1_2) (hr1_3 : Kd.C k88 w A1_3 l1_3.length l1_3) (hc1_3 : l1_3.length ≤ c1_3) (h : pentaglotref33_SameRule.f k a0_0 l0_1 l0_2 l0_3 a1_0 l1_1 l1_2 l1_3 = some r) :
 Calls Try.prog 24 #[.agg #[.string a0_0, .slice A0_1 l0_1.length c0_1, .slice A0_2 l0_2.length c0_2, .slice A0_3 l0_3.length c0_3], .agg #[.string a1_0, .slice A1_1 l1_1.length c1_1, .slice A1_2 l1_2.length c1_2, .slice A1_3 l1_3.length c1_3]] w fun e w' => e = .returned (.bool r) ∧ Below w.heap.size w w' := by
 have hu33 := Try.underlying33
 have hu88 := Try.underlying88
 have hu94 := Try.underlying94
 have HR0_1 := Aside0.mk hr0_1
 have HC0_1 := Aside0.mk hc0_1
 clear hr0_1 hc0_1
 have HR0_2 := Aside0.mk hr0_2
 have HC0_2 := Aside0.mk hc0_2
 clear hr0_2 hc0_2
 have HR0_3 := Aside0.mk hr0_3
 have HC0_3 := Aside0.mk hc0_3
 clear hr0_3 hc0_3
 have HR1_1 := Aside0.mk hr1_1
 have HC1_1 := Aside0.mk hc1_1
 clear hr1_1 hc1_1
 have HR1_2 := Aside0.mk hr1_2
 have HC1_2 := Aside0.mk hc1_2
 clear hr1_2 hc1_2
 have HR1_3 := Aside0.mk hr1_3
 have HC1_3 := Aside0.mk hc1_3
 clear hr1_3 hc1_3
 have HB := Aside0.mk (Below.refl w.heap.size w)
 have H : (if a0_0.toList = a1_0.toList then (if (l0_1.length : Int) = (l1_1.length : Int) then ((pentaglotref02_Same.f k l0_2 l1_2).bind fun t291 => (if t291 = true then (if (l0_3.length : Int) = (l1_3.length : Int) then ((pentaglotref02_SameAll.f k l0_1 l1_1).bind fun t292 => (pentaglotref33_SameRule.j0 k (!t292) a0_0 l0_1 l0_2 l0_3 a1_0 l1_1 l1_2 l1_3)) else (pentaglotref33_SameRule.j0 k true a0_0 l0_1 l0_2 l0_3 a1_0 l1_1 l1_2 l1_3)) else (pentaglotref33_SameRule.j0 k true a0_0 l0_1 l0_2 l0_3 a1_0 l1_1 l1_2 l1_3))) else (pentaglotref33_SameRule.j0 k true a0_0 l0_1 l0_2 l0_3 a1_0 l1_1 l1_2 l1_3)) else (pentaglotref33_SameRule.j0 k true a0_0 l0_1 l0_2 l0_3 a1_0 l1_1 l1_2 l1_3)) = some r := h
 clear h
 have HC3 := Aside0.mk H
 clear H
 go_enter Try.func24, Try.ntmps24
 go_upto_region 1 with (first | ((with_reducible refine gate_dst (N := 2) rfl ?_); (try (refine gate_guard (by rfl) ?_; dsimp only)); refine box_event ?hg (N := 2) ?hd (cs := #[.string a0_0, .slice A0_1 l0_1.length c0_1, .slice A0_2 l0_2.length c0_2, .slice A0_3 l0_3.length c0_3]) (t := 33) ?hr ?_; (case hd => rfl); (case hg => rfl); (case hr => first | (go_simp; done) | (go_simp; rfl)); intro gb289 hg w4 hbox hb; have n0_ := Aside0.mk (below_step (tB HB) hb); have n1_ := Aside0.mk (hbox); have n2_ := tZ hg (tS HB); have n3_ := tZ hg (tS HB); revert n0_ n1_ n2_ n3_; clear HB; intro HB BK289 GW289 GE289; clear hb hbox hg) | ((with_reducible refine gate_dst (N := 3) rfl ?_); (try (refine gate_guard (by rfl) ?_; dsimp only)); refine box_event ?hg (N := 3) ?hd (cs := #[.string a1_0, .slice A1_1 l1_1.length c1_1, .slice A1_2 l1_2.length c1_2, .slice A1_3 l1_3.length c1_3]) (t := 33) ?hr ?_; (case hd => rfl); (case hg => rfl); (case hr => first | (go_simp; done) | (go_simp; rfl)); intro gb290 hg w5 hbox hb; have n0_ := Aside0.mk (blk_below (tK BK289) hb); have n1_ := Aside0.mk (below_step (tB HB) hb); have n2_ := Aside0.mk (hbox); have n3_ := tZ hg (tS HB); have n4_ := tZ hg (tS HB); have n5_ := tL hg (tK BK289); have n6_ := tG hg (tK BK289); revert n0_ n1_ n2_ n3_ n4_ n5_ n6_; clear BK289 HB; intro BK289 HB BK290 GW290 GE290 NB289_290 NB290_289; clear hb hbox hg))
 (try simp only [Act.put, List.setIfInBounds_toArray, List.set_cons_zero, List.set_cons_succ])
 go_cut [47] (fun v47 wc => ∃ (kq : Nat) (x47_2 : Bool), v47 = .bool x47_2 ∧ Aside0 (pentaglotref33_SameRule.j0 kq x47_2 a0_0 l0_1 l0_2 l0_3 a1_0 l1_1 l1_2 l1_3 = some r) ∧ Aside0 (kq ≤ k) ∧ Aside0 (wc.heap[gb289]? = some (.cells #[.string a0_0, (.slice A0_1 l0_1.length c0_1), (.slice A0_2 l0_2.length c0_2), (.slice A0_3 l0_3.length c0_3)] 33 (0, 0))) ∧ Aside0 (wc.heap[gb290]? = some (.cells #[.string a1_0, (.slice A1_1 l1_1.length c1_1), (.slice A1_2 l1_2.length c1_2), (.slice A1_3 l1_3.length c1_3)] 33 (0, 0))) ∧ Aside0 (Below w.heap.size w wc))
 case first =>
  have H := HC3.out
  clear HC3
  by_cases c6 : a0_0.toList = a1_0.toList
  ·
   rw [if_pos c6] at H
   have c6b0 := beq_iff_eq.mpr c6
   have c6b1 := bne_eq_false_iff_eq.mpr c6
   clear c6
   (first | rw [c6b0] | (simp only [i64_w, i32_w]; rw [c6b0]) | skip)
   by_cases c7 : (l0_1.length : Int) = (l1_1.length : Int)
   ·
    rw [if_pos c7] at H
    have c7b0 := beq_iff_eq.mpr c7
    have c7b1 := bne_eq_false_iff_eq.mpr c7
    obtain ⟨_, _, c7b2⟩ := eP2 c7
    clear c7
    replace H := Option.bind_eq_some_iff.mp H
    obtain ⟨t291, A80, H⟩ := H
    (try dsimp only at H)
    have A8 := Aside0.mk A80
    clear A80
    by_cases c9 : t291 = true
    ·
     subst c9
     rw [if_pos rfl] at H
     by_cases c10 : (l0_3.length : Int) = (l1_3.length : Int)
     ·
      rw [if_pos c10] at H
      have c10b0 := beq_iff_eq.mpr c10
      have c10b1 := bne_eq_false_iff_eq.mpr c10
      obtain ⟨_, _, c10b2⟩ := eP2 c10
      clear c10
      replace H := Option.bind_eq_some_iff.mp H
      obtain ⟨t292, A110, H⟩ := H
      (try dsimp only at H)
      have A11 := Aside0.mk A110
      clear A110
      have H' := Aside0.mk H
      clear H
      have hnb12 := NB289_290.out
      have hnc12 := NB290_289.out
      obtain ⟨hcz13_0, hcz13_1, hcz13_2, hcz13_3, hfz13_0, hfz13_1, hfz13_2, hfz13_3⟩ := bx4 BK289
      obtain ⟨hcz14_0, hcz14_1, hcz14_2, hcz14_3, hfz14_0, hfz14_1, hfz14_2, hfz14_3⟩ := bx4 BK290
      go_wp2_with (first | (go_at_call 20; (with_reducible refine (pentaglotref02_Same.calls k _ _ l0_2 _ _ l1_2 true _ ?s1 ?s2 ?s3 ?s4 A8.out).mono ?_); (case s1 => exact tC HR0_2 HB); (case s2 => exact HC0_2.out); (case s3 => exact tC HR1_2 HB); (case s4 => exact HC1_2.out); rintro e w' ⟨rfl, ⟨nd, rfl⟩⟩) | (go_at_call 29; (with_reducible refine (pentaglotref02_SameAll.calls k _ _ l0_1 _ _ l1_1 t292 _ ?s1 ?s2 ?s3 ?s4 A11.out).mono ?_); (case s1 => repeat (first | exact (Kd.C_below HR0_1.out (tB HB)) | (with_reducible refine Kd.C_alloc ?_ _) | (with_reducible refine Kd.C_drewN ?_ _) | (with_reducible refine Kd.C_drew ?_))); (case s2 => exact HC0_1.out); (case s3 => repeat (first | exact (Kd.C_below HR1_1.out (tB HB)) | (with_reducible refine Kd.C_alloc ?_ _) | (with_reducible refine Kd.C_drewN ?_ _) | (with_reducible refine Kd.C_drew ?_))); (case s4 => exact HC1_1.out); rintro e w' ⟨rfl, ⟨nd, rfl⟩⟩))
      go_meet
      case rel => exact ⟨_, (!t292), tV1, H', ⟨tU⟩, ⟨tK BK289⟩, ⟨tK BK290⟩, ⟨tB HB⟩⟩
     ·
      rw [if_neg c10] at H
      have c10b0 := beq_eq_false_iff_ne.mpr c10
      have c10b1 := bne_iff_ne.mpr c10
      obtain ⟨_, _, c10b2⟩ := eN2 c10
      have H' := Aside0.mk H
      clear H
      have hnb15 := NB289_290.out
      have hnc15 := NB290_289.out
      obtain ⟨hcz16_0, hcz16_1, hcz16_2, hcz16_3, hfz16_0, hfz16_1, hfz16_2, hfz16_3⟩ := bx4 BK289
      obtain ⟨hcz17_0, hcz17_1, hcz17_2, hcz17_3, hfz17_0, hfz17_1, hfz17_2, hfz17_3⟩ := bx4 BK290
      go_wp2_with (first | (go_at_call 20; (with_reducible refine (pentaglotref02_Same.calls k _ _ l0_2 _ _ l1_2 true _ ?s1 ?s2 ?s3 ?s4 A8.out).mono ?_); (case s1 => exact tC HR0_2 HB); (case s2 => exact HC0_2.out); (case s3 => exact tC HR1_2 HB); (case s4 => exact HC1_2.out); rintro e w' ⟨rfl, ⟨nd, rfl⟩⟩))
      go_meet
      case rel => exact ⟨_, (true), tV1, H', ⟨tU⟩, ⟨tK BK289⟩, ⟨tK BK290⟩, ⟨tB HB⟩⟩
    ·
     replace c9 := Bool.eq_false_iff.mpr c9
     subst c9
     rw [if_neg (show ¬ (false = true) by decide)] at H
     have H' := Aside0.mk H
     clear H
     have hnb18 := NB289_290.out
     have hnc18 := NB290_289.out
     obtain ⟨hcz19_0, hcz19_1, hcz19_2, hcz19_3, hfz19_0, hfz19_1, hfz19_2, hfz19_3⟩ := bx4 BK289
     obtain ⟨hcz20_0, hcz20_1, hcz20_2, hcz20_3, hfz20_0, hfz20_1, hfz20_2, hfz20_3⟩ := bx4 BK290
     go_wp2_with (first | (go_at_call 20; (with_reducible refine (pentaglotref02_Same.calls k _ _ l0_2 _ _ l1_2 false _ ?s1 ?s2 ?s3 ?s4 A8.out).mono ?_); (case s1 => exact tC HR0_2 HB); (case s2 => exact HC0_2.out); (case s3 => exact tC HR1_2 HB); (case s4 => exact HC1_2.out); rintro e w' ⟨rfl, ⟨nd, rfl⟩⟩))
     go_meet
     case rel => exact ⟨_, (true), tV1, H', ⟨tU⟩, ⟨tK BK289⟩, ⟨tK BK290⟩, ⟨tB HB⟩⟩
   ·
    rw [if_neg c7] at H
    have c7b0 := beq_eq_false_iff_ne.mpr c7
    have c7b1 := bne_iff_ne.mpr c7
    obtain ⟨_, _, c7b2⟩ := eN2 c7
    have H' := Aside0.mk H
    clear H
    have hnb21 := NB289_290.out
    have hnc21 := NB290_289.out
    obtain ⟨hcz22_0, hcz22_1, hcz22_2, hcz22_3, hfz22_0, hfz22_1, hfz22_2, hfz22_3⟩ := bx4 BK289
    obtain ⟨hcz23_0, hcz23_1, hcz23_2, hcz23_3, hfz23_0, hfz23_1, hfz23_2, hfz23_3⟩ := bx4 BK290
    go_wp2
    go_meet
    case rel => exact ⟨_, (true), tV1, H', ⟨tU⟩, ⟨tK BK289⟩, ⟨tK BK290⟩, ⟨tB HB⟩⟩
  ·
   rw [if_neg c6] at H
   have c6b0 := beq_eq_false_iff_ne.mpr c6
   have c6b1 := bne_iff_ne.mpr c6
   (first | rw [c6b0] | (simp only [i64_w, i32_w]; rw [c6b0]) | skip)
   have H' := Aside0.mk H
   clear H
   have hnb24 := NB289_290.out
   have hnc24 := NB290_289.out
   obtain ⟨hcz25_0, hcz25_1, hcz25_2, hcz25_3, hfz25_0, hfz25_1, hfz25_2, hfz25_3⟩ := bx4 BK289
   obtain ⟨hcz26_0, hcz26_1, hcz26_2, hcz26_3, hfz26_0, hfz26_1, hfz26_2, hfz26_3⟩ := bx4 BK290
   go_wp2
   go_meet
   case rel => exact ⟨_, (true), tV1, H', ⟨tU⟩, ⟨tK BK289⟩, ⟨tK BK290⟩, ⟨tB HB⟩⟩
 case rest =>
  clear HC3
  obtain ⟨kq, x47_2, rfl, HA, HJ2, BK289, BK290, HB⟩ := hcut
  cases kq with
  | zero => exact absurd HA.out (by simp [pentaglotref33_SameRule.j0])
  | succ kj2 =>
   have H := HA.out
   clear HA
   simp only [pentaglotref33_SameRule.j0] at H
   by_cases c27 : x47_2 = true
   ·
    subst c27
    rw [if_pos rfl] at H
    obtain rfl := Option.some.inj H
    go_wp2
    go_ret
    exact ⟨tE, by repeat (first | (with_reducible first | exact HB.out | apply below_alloc | apply pw_below_drewN | apply below_drew1 | refine below_set ?_ GE289.out | refine below_set ?_ GE290.out) | exact HB.out)⟩
   ·
    replace c27 := Bool.eq_false_iff.mpr c27
    subst c27
    rw [if_neg (show ¬ (false = true) by decide)] at H
    have H' := Aside0.mk H
    clear H
    have hnb28 := NB289_290.out
    have hnc28 := NB290_289.out
    obtain ⟨hcz29_0, hcz29_1, hcz29_2, hcz29_3, hfz29_0, hfz29_1, hfz29_2, hfz29_3⟩ := bx4 BK289
    go_wp2
    go_loopg [51] kj2 (fun kq v51 w' => ∃ (x51_2 : Int), v51 = .int .i64 x51_2 ∧ Aside0 (pentaglotref33_SameRule.l0 kq (l0_3.length : Int) x51_2 a0_0 l0_1 l0_2 l0_3 a1_0 l1_1 l1_2 l1_3 = some r) ∧ Aside0 (kq ≤ kj2) ∧ Aside0 (w'.heap[gb289]? = some (.cells #[.string a0_0, (.slice A0_1 l0_1.length c0_1), (.slice A0_2 l0_2.length c0_2), (.slice A0_3 l0_3.length c0_3)] 33 (0, 0))) ∧ Aside0 (w'.heap[gb290]? = some (.cells #[.string a1_0, (.slice A1_1 l1_1.length c1_1), (.slice A1_2 l1_2.length c1_2), (.slice A1_3 l1_3.length c1_3)] 33 (0, 0))) ∧ Aside0 (Below w.heap.size w w'))
    case atStart => exact ⟨(0), tV1, H', ⟨Nat.le_refl _⟩, ⟨tK BK289⟩, ⟨tK BK290⟩, ⟨tB HB⟩⟩
    case round =>
     clear H'; (try clear c27); (try clear hcz29_0); (try clear hcz29_1); (try clear hcz29_2); (try clear hcz29_3); (try clear hfz29_0); (try clear hfz29_1); (try clear hfz29_2); (try clear hfz29_3)
     obtain ⟨x51_2, rfl, HA, HK2, BK289, BK290, HB⟩ := hrel
     cases gk with
     | zero => exact absurd HA.out (by simp [pentaglotref33_SameRule.l0])
     | succ k2 =>
      have H := HA.out
      clear HA
      simp only [pentaglotref33_SameRule.l0] at H
      by_cases c30 : x51_2 < (l0_3.length : Int)
      ·
       rw [if_pos c30] at H
       have c30b0 : decide (x51_2 < (l0_3.length : Int)) = true := decide_eq_true c30
       clear c30
       by_cases c31 : 0 ≤ x51_2
       ·
        rw [if_pos c31] at H
        have c31b0 : decide (0 ≤ x51_2) = true := decide_eq_true c31
        clear c31
        by_cases c32 : x51_2 < (l0_3.length : Int)
        ·
         rw [if_pos c32] at H
         have c32b0 : decide (x51_2 < (l0_3.length : Int)) = true := decide_eq_true c32
         clear c32
         by_cases c33 : x51_2 < (l1_3.length : Int)
         ·
          rw [if_pos c33] at H
          have c33b0 : decide (x51_2 < (l1_3.length : Int)) = true := decide_eq_true c33
          clear c33
          have HC34 := Aside0.mk H
          clear H
          try go_wp2
          have n0_ := Aside0.mk (blk_drew BK289.out)
          have n1_ := Aside0.mk (blk_drew BK290.out)
          have n2_ := Aside0.mk (below_drew1 HB.out)
          revert n0_ n1_ n2_
          clear BK289 BK290 HB
          intro BK289 BK290 HB
          have p293 : 0 ≤ (x51_2 : Int) := oD
          have q293 : x51_2 < (l0_3.length : Int) := oD
          obtain ⟨ad293, A293_1, c293_1, e293, hx293_0, hx293_1, hl293_1, hi293_1⟩ := at_T88 HR0_3.out x51_2 p293 q293
          have hw293_1 := hx293_1
          have hw293_0 := hx293_0
          cases e293
          replace hx293_0 := celB HB hx293_0
          replace hx293_1 := celB HB hx293_1
          have HR293_1 := Aside0.mk hi293_1
          have HC293_1 := Aside0.mk hl293_1
          clear hi293_1 hl293_1
          replace p293 := eq_true p293
          replace q293 := eq_true q293
          have p294 : 0 ≤ (x51_2 : Int) := oD
          have q294 : x51_2 < (l1_3.length : Int) := oD
          obtain ⟨ad294, A294_1, c294_1, e294, hx294_0, hx294_1, hl294_1, hi294_1⟩ := at_T88 HR1_3.out x51_2 p294 q294
          have hw294_1 := hx294_1
          have hw294_0 := hx294_0
          cases e294
          replace hx294_0 := celB HB hx294_0
          replace hx294_1 := celB HB hx294_1
          have HR294_1 := Aside0.mk hi294_1
          have HC294_1 := Aside0.mk hl294_1
          clear hi294_1 hl294_1
          replace p294 := eq_true p294
          replace q294 := eq_true q294
          refine start_ (n := 14) (S := fun w' => w'.cell? ⟨gb289, 0, none⟩ = some (.string a0_0) ∧ w'.cell? ⟨gb289, 1, none⟩ = some (.slice A0_1 l0_1.length c0_1) ∧ w'.cell? ⟨gb289, 2, none⟩ = some (.slice A0_2 l0_2.length c0_2) ∧ w'.cell? ⟨gb289, 3, none⟩ = some (.slice (some ad293) l0_3.length c0_3) ∧ w'.cell? ⟨gb290, 0, none⟩ = some (.string a1_0) ∧ w'.cell? ⟨gb290, 1, none⟩ = some (.slice A1_1 l1_1.length c1_1) ∧ w'.cell? ⟨gb290, 2, none⟩ = some (.slice A1_2 l1_2.length c1_2) ∧ w'.cell? ⟨gb290, 3, none⟩ = some (.slice (some ad294) l1_3.length c1_3) ∧ w'.cell? (ad293.add ((x51_2).toNat * 2)) = some (.string ((rd_T88 l0_3 x51_2).f0)) ∧ w'.cell? ⟨(ad293.add ((x51_2).toNat * 2)).block, (ad293.add ((x51_2).toNat * 2)).off + 1, none⟩ = some (.slice A293_1 ((rd_T88 l0_3 x51_2).f1).length c293_1) ∧ w'.cell? (ad294.add ((x51_2).toNat * 2)) = some (.string ((rd_T88 l1_3 x51_2).f0)) ∧ w'.cell? ⟨(ad294.add ((x51_2).toNat * 2)).block, (ad294.add ((x51_2).toNat * 2)).off + 1, none⟩ = some (.slice A294_1 ((rd_T88 l1_3 x51_2).f1).length c294_1)) (ds := []) #[false, false, false, false, false, false, false, false, false, false, false, false, false, false] (by kernel_rfl) rfl rfl ⟨(blk_cell BK289.out 0).trans rfl, (blk_cell BK289.out 1).trans rfl, (blk_cell BK289.out 2).trans rfl, (blk_cell BK289.out 3).trans rfl, (blk_cell BK290.out 0).trans rfl, (blk_cell BK290.out 1).trans rfl, (blk_cell BK290.out 2).trans rfl, (blk_cell BK290.out 3).trans rfl, ((HB.out.cell (World.block_lt_of_cell? w _ hw293_0)).trans hw293_0), ((HB.out.cell (World.block_lt_of_cell? w _ hw293_1)).trans hw293_1), ((HB.out.cell (World.block_lt_of_cell? w _ hw294_0)).trans hw294_0), ((HB.out.cell (World.block_lt_of_cell? w _ hw294_1)).trans hw294_1)⟩ (fun hHeld => ?_); refine with_tabW pentaglotref33_SameRule.tab6 pentaglotref33_SameRule.bits6 (fun HT_ HW_ => ?_)
          generalize wr.drew = w35 at BK289 BK290 HB HR293_1 HR294_1 hx293_0 hx293_1 hx294_0 hx294_1 hHeld ⊢
          refine pure_ (i := 0) (N := some 54) (v := ?_) (a' := ?_) #[true, false, false, false, false, false, false, false, false, false, false, false, false, false] rfl rfl (any_of HT_.out (by kernel_rfl)) (fun _ _ _ h => h) (Or.inl ⟨by rfl, ?_⟩) ?_ ?_
          rotate_left
          ·
           intro w'
           go_simp
           with_reducible rfl
          rotate_left
          ·
           simp only [Act.put, List.setIfInBounds_toArray, List.set_cons_zero, List.set_cons_succ, i64_w, i32_w]
           rfl
          refine pure_ (i := 2) (N := some 56) (v := ?_) (a' := ?_) #[true, false, true, false, false, false, false, false, false, false, false, false, false, false] rfl rfl (any_of HT_.out (by kernel_rfl)) (fun _ _ _ h => h) (Or.inl ⟨by rfl, ?_⟩) ?_ ?_
          rotate_left
          ·
           intro w'
           go_simp
           with_reducible rfl
          rotate_left
          ·
           simp only [Act.put, List.setIfInBounds_toArray, List.set_cons_zero, List.set_cons_succ, i64_w, i32_w]
           rfl
          refine pure_ (i := 5) (N := some 59) (v := ?_) (a' := ?_) #[true, false, true, false, false, true, false, false, false, false, false, false, false, false] rfl rfl (any_of HT_.out (by kernel_rfl)) (fun _ _ _ h => h) (Or.inl ⟨by rfl, ?_⟩) ?_ ?_
          rotate_left
          ·
           intro w'
           go_simp
           with_reducible rfl
          rotate_left
          ·
           simp only [Act.put, List.setIfInBounds_toArray, List.set_cons_zero, List.set_cons_succ, i64_w, i32_w]
           rfl
          refine pure_ (i := 7) (N := some 61) (v := ?_) (a' := ?_) #[true, false, true, false, false, true, false, true, false, false, false, false, false, false] rfl rfl (any_of HT_.out (by kernel_rfl)) (fun _ _ _ h => h) (Or.inl ⟨by rfl, ?_⟩) ?_ ?_
          rotate_left
          ·
           intro w'
           go_simp
           with_reducible rfl
          rotate_left
          ·
           simp only [Act.put, List.setIfInBounds_toArray, List.set_cons_zero, List.set_cons_succ, i64_w, i32_w]
           rfl
          refine take_ (i := 1) (N := some 55) (v := ?_) (a' := ?_) #[true, true, true, false, false, true, false, true, false, false, false, false, false, false] rfl rfl (take_ofW HT_.out HW_.out (by kernel_rfl)) (fun _ _ _ h => h) (Or.inl ⟨by rfl, ?_⟩) hHeld ?_ ?_
          rotate_left
          ·
           rintro w' ⟨s0, s1, s2, s3, s4, s5, s6, s7, s8, s9, s10, s11⟩
           go_simp
           with_reducible rfl
          rotate_left
          ·
           simp only [Act.put, List.setIfInBounds_toArray, List.set_cons_zero, List.set_cons_succ, i64_w, i32_w]
           rfl
          refine pure_ (i := 3) (N := some 57) (v := ?_) (a' := ?_) #[true, true, true, true, false, true, false, true, false, false, false, false, false, false] rfl rfl (any_of HT_.out (by kernel_rfl)) (fun _ _ _ h => h) (Or.inl ⟨by rfl, ?_⟩) ?_ ?_
          rotate_left
          ·
           intro w'
           go_simp
           with_reducible rfl
          rotate_left
          ·
           simp only [Act.put, List.setIfInBounds_toArray, List.set_cons_zero, List.set_cons_succ, i64_w, i32_w]
           rfl
          refine take_ (i := 4) (N := some 58) (v := ?_) (a' := ?_) #[true, true, true, true, true, true, false, true, false, false, false, false, false, false] rfl rfl (take_ofW HT_.out HW_.out (by kernel_rfl)) (fun _ _ _ h => h) (Or.inl ⟨by rfl, ?_⟩) hHeld ?_ ?_
          rotate_left
          ·
           rintro w' ⟨s0, s1, s2, s3, s4, s5, s6, s7, s8, s9, s10, s11⟩
           go_simp
           with_reducible rfl
          rotate_left
          ·
           simp only [Act.put, List.setIfInBounds_toArray, List.set_cons_zero, List.set_cons_succ, i64_w, i32_w]
           rfl
          refine take_ (i := 6) (N := some 60) (v := ?_) (a' := ?_) #[true, true, true, true, true, true, true, true, false, false, false, false, false, false] rfl rfl (take_ofW HT_.out HW_.out (by kernel_rfl)) (fun _ _ _ h => h) (Or.inl ⟨by rfl, ?_⟩) hHeld ?_ ?_
          rotate_left
          ·
           rintro w' ⟨s0, s1, s2, s3, s4, s5, s6, s7, s8, s9, s10, s11⟩
           go_simp
           with_reducible rfl
          rotate_left
          ·
           simp only [Act.put, List.setIfInBounds_toArray, List.set_cons_zero, List.set_cons_succ, i64_w, i32_w]
           rfl
          refine pure_ (i := 8) (N := some 62) (v := ?_) (a' := ?_) #[true, true, true, true, true, true, true, true, true, false, false, false, false, false] rfl rfl (any_of HT_.out (by kernel_rfl)) (fun _ _ _ h => h) (Or.inl ⟨by rfl, ?_⟩) ?_ ?_
          rotate_left
          ·
           intro w'
           go_simp
           with_reducible rfl
          rotate_left
          ·
           simp only [Act.put, List.setIfInBounds_toArray, List.set_cons_zero, List.set_cons_succ, i64_w, i32_w]
           rfl
          refine take_ (i := 9) (N := some 63) (v := ?_) (a' := ?_) #[true, true, true, true, true, true, true, true, true, true, false, false, false, false] rfl rfl (take_ofW HT_.out HW_.out (by kernel_rfl)) (fun _ _ _ h => h) (Or.inl ⟨by rfl, ?_⟩) hHeld ?_ ?_
          rotate_left
          ·
           rintro w' ⟨s0, s1, s2, s3, s4, s5, s6, s7, s8, s9, s10, s11⟩
           go_simp
           with_reducible rfl
          rotate_left
          ·
           simp only [Act.put, List.setIfInBounds_toArray, List.set_cons_zero, List.set_cons_succ, i64_w, i32_w]
           rfl
          refine join_ (σ := Nat × Nat) 2 #[true, true, true, true, true, true, true, true, true, true, true, true, false, false] (fun s_ => [(6, .pointer (some ⟨s_.1, 0, none⟩)), (7, .pointer (some ⟨s_.2, 0, none⟩))]) (fun s_ w' => (w'.cell? ⟨gb289, 0, none⟩ = some (.string a0_0) ∧ w'.cell? ⟨gb289, 1, none⟩ = some (.slice A0_1 l0_1.length c0_1) ∧ w'.cell? ⟨gb289, 2, none⟩ = some (.slice A0_2 l0_2.length c0_2) ∧ w'.cell? ⟨gb289, 3, none⟩ = some (.slice (some ad293) l0_3.length c0_3) ∧ w'.cell? ⟨gb290, 0, none⟩ = some (.string a1_0) ∧ w'.cell? ⟨gb290, 1, none⟩ = some (.slice A1_1 l1_1.length c1_1) ∧ w'.cell? ⟨gb290, 2, none⟩ = some (.slice A1_2 l1_2.length c1_2) ∧ w'.cell? ⟨gb290, 3, none⟩ = some (.slice (some ad294) l1_3.length c1_3) ∧ w'.cell? (ad293.add ((x51_2).toNat * 2)) = some (.string ((rd_T88 l0_3 x51_2).f0)) ∧ w'.cell? ⟨(ad293.add ((x51_2).toNat * 2)).block, (ad293.add ((x51_2).toNat * 2)).off + 1, none⟩ = some (.slice A293_1 ((rd_T88 l0_3 x51_2).f1).length c293_1) ∧ w'.cell? (ad294.add ((x51_2).toNat * 2)) = some (.string ((rd_T88 l1_3 x51_2).f0)) ∧ w'.cell? ⟨(ad294.add ((x51_2).toNat * 2)).block, (ad294.add ((x51_2).toNat * 2)).off + 1, none⟩ = some (.slice A294_1 ((rd_T88 l1_3 x51_2).f1).length c294_1)) ∧ (w'.heap[gb289]? = some (.cells #[.string a0_0, .slice A0_1 l0_1.length c0_1, .slice A0_2 l0_2.length c0_2, .slice (some ad293) l0_3.length c0_3] 33 (0, 0))) ∧ (w'.heap[gb290]? = some (.cells #[.string a1_0, .slice A1_1 l1_1.length c1_1, .slice A1_2 l1_2.length c1_2, .slice (some ad294) l1_3.length c1_3] 33 (0, 0))) ∧ (w'.heap[s_.1]? = some (.cells #[.string (⟨#[]⟩ : ByteArray), .slice none 0 0] 88 (0, 0))) ∧ (w'.heap[s_.2]? = some (.cells #[.string (⟨#[]⟩ : ByteArray), .slice none 0 0] 88 (0, 0))) ∧ (w.heap.size ≤ s_.1) ∧ (w.heap.size ≤ s_.1) ∧ (gb289 ≠ s_.1) ∧ (s_.1 ≠ gb289) ∧ (gb290 ≠ s_.1) ∧ (s_.1 ≠ gb290) ∧ (s_.2 ≠ s_.1) ∧ (s_.1 ≠ s_.2) ∧ (w.heap.size ≤ s_.2) ∧ (w.heap.size ≤ s_.2) ∧ (gb289 ≠ s_.2) ∧ (s_.2 ≠ gb289) ∧ (gb290 ≠ s_.2) ∧ (s_.2 ≠ gb290) ∧ (Below w.heap.size w w')) ?_ ?_
          rotate_left
          ·
           intro hCont
           refine two_ (i := 10) (j := 11) (Ni := some 6) (Nj := some 7) #[true, true, true, true, true, true, true, true, true, true, true, false, false, false] #[true, true, true, true, true, true, true, true, true, true, false, true, false, false] rfl rfl rfl rfl (two_of HT_.out (by kernel_rfl)) (by decide) (by decide) (fun K hK => ?_) (fun K hK => ?_)
           ·
            skip
            refine box_step ?hg (N := 6) ?hd (cs := #[.string (⟨#[]⟩ : ByteArray), .slice none 0 0]) (t := 88) ?hr ?_; (case hd => rfl); (case hg => rfl); (case hr => first | (go_simp; done) | (go_simp; rfl))
            intro gb295 hg w36 hbox hb
            have n0_ := Aside0.mk (blk_below (tK BK289) hb)
            have n1_ := Aside0.mk (blk_below (tK BK290) hb)
            have n2_ := Aside0.mk (below_step (tB HB) hb)
            have n3_ := Aside0.mk (hbox)
            have n4_ := tZ hg (tS HB)
            have n5_ := tZ hg (tS HB)
            have n6_ := tL hg (tK BK289)
            have n7_ := tG hg (tK BK289)
            have n8_ := tL hg (tK BK290)
            have n9_ := tG hg (tK BK290)
            revert n0_ n1_ n2_ n3_ n4_ n5_ n6_ n7_ n8_ n9_
            clear BK289 BK290 HB
            intro BK289 BK290 HB BK295 GW295 GE295 NB289_295 NB295_289 NB290_295 NB295_290
            clear hb hbox hg
            refine hK.out _ _ ⟨(blk_cell BK289.out 0).trans rfl, (blk_cell BK289.out 1).trans rfl, (blk_cell BK289.out 2).trans rfl, (blk_cell BK289.out 3).trans rfl, (blk_cell BK290.out 0).trans rfl, (blk_cell BK290.out 1).trans rfl, (blk_cell BK290.out 2).trans rfl, (blk_cell BK290.out 3).trans rfl, ((HB.out.cell (World.block_lt_of_cell? w _ hw293_0)).trans hw293_0), ((HB.out.cell (World.block_lt_of_cell? w _ hw293_1)).trans hw293_1), ((HB.out.cell (World.block_lt_of_cell? w _ hw294_0)).trans hw294_0), ((HB.out.cell (World.block_lt_of_cell? w _ hw294_1)).trans hw294_1)⟩ (fun hHeld => ?_)
            clear hK K
            refine norm_ (a' := ?_) ?_ ?_
            rotate_left
            ·
             show Act.put _ (some 6) _ = _
             simp only [Act.put, List.setIfInBounds_toArray, List.set_cons_zero, List.set_cons_succ, i64_w, i32_w]
             rfl
            refine one_ (i := 11) (N := some 7) #[true, true, true, true, true, true, true, true, true, true, true, true, false, false] rfl rfl (one_of HT_.out (by kernel_rfl)) (by decide) (fun K hK => ?_)
            refine box_step ?hg (N := 7) ?hd (cs := #[.string (⟨#[]⟩ : ByteArray), .slice none 0 0]) (t := 88) ?hr ?_; (case hd => rfl); (case hg => rfl); (case hr => first | (go_simp; done) | (go_simp; rfl))
            intro gb296 hg w37 hbox hb
            have n0_ := Aside0.mk (blk_below (tK BK289) hb)
            have n1_ := Aside0.mk (blk_below (tK BK290) hb)
            have n2_ := Aside0.mk (blk_below (tK BK295) hb)
            have n3_ := Aside0.mk (below_step (tB HB) hb)
            have n4_ := Aside0.mk (hbox)
            have n5_ := tZ hg (tS HB)
            have n6_ := tZ hg (tS HB)
            have n7_ := tL hg (tK BK289)
            have n8_ := tG hg (tK BK289)
            have n9_ := tL hg (tK BK290)
            have n10_ := tG hg (tK BK290)
            have n11_ := tL hg (tK BK295)
            have n12_ := tG hg (tK BK295)
            revert n0_ n1_ n2_ n3_ n4_ n5_ n6_ n7_ n8_ n9_ n10_ n11_ n12_
            clear BK289 BK290 BK295 HB
            intro BK289 BK290 BK295 HB BK296 GW296 GE296 NB289_296 NB296_289 NB290_296 NB296_290 NB295_296 NB296_295
            clear hb hbox hg
            refine hK.out _ _ ⟨(blk_cell BK289.out 0).trans rfl, (blk_cell BK289.out 1).trans rfl, (blk_cell BK289.out 2).trans rfl, (blk_cell BK289.out 3).trans rfl, (blk_cell BK290.out 0).trans rfl, (blk_cell BK290.out 1).trans rfl, (blk_cell BK290.out 2).trans rfl, (blk_cell BK290.out 3).trans rfl, ((HB.out.cell (World.block_lt_of_cell? w _ hw293_0)).trans hw293_0), ((HB.out.cell (World.block_lt_of_cell? w _ hw293_1)).trans hw293_1), ((HB.out.cell (World.block_lt_of_cell? w _ hw294_0)).trans hw294_0), ((HB.out.cell (World.block_lt_of_cell? w _ hw294_1)).trans hw294_1)⟩ (fun hHeld => ?_)
            clear hK K
            refine norm_ (a' := ?_) ?_ ?_
            rotate_left
            ·
             show Act.put _ (some 7) _ = _
             simp only [Act.put, List.setIfInBounds_toArray, List.set_cons_zero, List.set_cons_succ, i64_w, i32_w]
             rfl
            exact norm_ (by simp only [putAll, Act.put, List.setIfInBounds_toArray, List.set_cons_zero, List.set_cons_succ]) (hCont (gb295, gb296) _ ⟨hHeld, (tK BK289), (tK BK290), (tK BK295), (tK BK296), GW295.out, GE295.out, NB289_295.out, NB295_289.out, NB290_295.out, NB295_290.out, NB296_295.out, NB295_296.out, GW296.out, GE296.out, NB289_296.out, NB296_289.out, NB290_296.out, NB296_290.out, (tB HB)⟩)
           ·
            skip
            refine box_step ?hg (N := 7) ?hd (cs := #[.string (⟨#[]⟩ : ByteArray), .slice none 0 0]) (t := 88) ?hr ?_; (case hd => rfl); (case hg => rfl); (case hr => first | (go_simp; done) | (go_simp; rfl))
            intro gb296 hg w36 hbox hb
            have n0_ := Aside0.mk (blk_below (tK BK289) hb)
            have n1_ := Aside0.mk (blk_below (tK BK290) hb)
            have n2_ := Aside0.mk (below_step (tB HB) hb)
            have n3_ := Aside0.mk (hbox)
            have n4_ := tZ hg (tS HB)
            have n5_ := tZ hg (tS HB)
            have n6_ := tL hg (tK BK289)
            have n7_ := tG hg (tK BK289)
            have n8_ := tL hg (tK BK290)
            have n9_ := tG hg (tK BK290)
            revert n0_ n1_ n2_ n3_ n4_ n5_ n6_ n7_ n8_ n9_
            clear BK289 BK290 HB
            intro BK289 BK290 HB BK296 GW296 GE296 NB289_296 NB296_289 NB290_296 NB296_290
            clear hb hbox hg
            refine hK.out _ _ ⟨(blk_cell BK289.out 0).trans rfl, (blk_cell BK289.out 1).trans rfl, (blk_cell BK289.out 2).trans rfl, (blk_cell BK289.out 3).trans rfl, (blk_cell BK290.out 0).trans rfl, (blk_cell BK290.out 1).trans rfl, (blk_cell BK290.out 2).trans rfl, (blk_cell BK290.out 3).trans rfl, ((HB.out.cell (World.block_lt_of_cell? w _ hw293_0)).trans hw293_0), ((HB.out.cell (World.block_lt_of_cell? w _ hw293_1)).trans hw293_1), ((HB.out.cell (World.block_lt_of_cell? w _ hw294_0)).trans hw294_0), ((HB.out.cell (World.block_lt_of_cell? w _ hw294_1)).trans hw294_1)⟩ (fun hHeld => ?_)
            clear hK K
            refine norm_ (a' := ?_) ?_ ?_
            rotate_left
            ·
             show Act.put _ (some 7) _ = _
             simp only [Act.put, List.setIfInBounds_toArray, List.set_cons_zero, List.set_cons_succ, i64_w, i32_w]
             rfl
            refine one_ (i := 10) (N := some 6) #[true, true, true, true, true, true, true, true, true, true, true, true, false, false] rfl rfl (one_of HT_.out (by kernel_rfl)) (by decide) (fun K hK => ?_)
            refine box_step ?hg (N := 6) ?hd (cs := #[.string (⟨#[]⟩ : ByteArray), .slice none 0 0]) (t := 88) ?hr ?_; (case hd => rfl); (case hg => rfl); (case hr => first | (go_simp; done) | (go_simp; rfl))
            intro gb295 hg w37 hbox hb
            have n0_ := Aside0.mk (blk_below (tK BK289) hb)
            have n1_ := Aside0.mk (blk_below (tK BK290) hb)
            have n2_ := Aside0.mk (blk_below (tK BK296) hb)
            have n3_ := Aside0.mk (below_step (tB HB) hb)
            have n4_ := Aside0.mk (hbox)
            have n5_ := tZ hg (tS HB)
            have n6_ := tZ hg (tS HB)
            have n7_ := tL hg (tK BK289)
            have n8_ := tG hg (tK BK289)
            have n9_ := tL hg (tK BK290)
            have n10_ := tG hg (tK BK290)
            have n11_ := tL hg (tK BK296)
            have n12_ := tG hg (tK BK296)
            revert n0_ n1_ n2_ n3_ n4_ n5_ n6_ n7_ n8_ n9_ n10_ n11_ n12_
            clear BK289 BK290 BK296 HB
            intro BK289 BK290 BK296 HB BK295 GW295 GE295 NB289_295 NB295_289 NB290_295 NB295_290 NB296_295 NB295_296
            clear hb hbox hg
            refine hK.out _ _ ⟨(blk_cell BK289.out 0).trans rfl, (blk_cell BK289.out 1).trans rfl, (blk_cell BK289.out 2).trans rfl, (blk_cell BK289.out 3).trans rfl, (blk_cell BK290.out 0).trans rfl, (blk_cell BK290.out 1).trans rfl, (blk_cell BK290.out 2).trans rfl, (blk_cell BK290.out 3).trans rfl, ((HB.out.cell (World.block_lt_of_cell? w _ hw293_0)).trans hw293_0), ((HB.out.cell (World.block_lt_of_cell? w _ hw293_1)).trans hw293_1), ((HB.out.cell (World.block_lt_of_cell? w _ hw294_0)).trans hw294_0), ((HB.out.cell (World.block_lt_of_cell? w _ hw294_1)).trans hw294_1)⟩ (fun hHeld => ?_)
            clear hK K
            refine norm_ (a' := ?_) ?_ ?_
            rotate_left
            ·
             show Act.put _ (some 6) _ = _
             simp only [Act.put, List.setIfInBounds_toArray, List.set_cons_zero, List.set_cons_succ, i64_w, i32_w]
             rfl
            exact norm_ (by simp only [putAll, Act.put, List.setIfInBounds_toArray, List.set_cons_zero, List.set_cons_succ]) (hCont (gb295, gb296) _ ⟨hHeld, (tK BK289), (tK BK290), (tK BK295), (tK BK296), GW295.out, GE295.out, NB289_295.out, NB295_289.out, NB290_295.out, NB295_290.out, NB296_295.out, NB295_296.out, GW296.out, GE296.out, NB289_296.out, NB296_289.out, NB290_296.out, NB296_290.out, (tB HB)⟩)
          rintro ⟨gb295, gb296⟩ w38 ⟨hS_, h0_, h1_, h2_, h3_, h4_, h5_, h6_, h7_, h8_, h9_, h10_, h11_, h12_, h13_, h14_, h15_, h16_, h17_, h18_⟩
          have n0_ : Aside0 (w38.heap[gb289]? = some (.cells #[.string a0_0, .slice A0_1 l0_1.length c0_1, .slice A0_2 l0_2.length c0_2, .slice (some ad293) l0_3.length c0_3] 33 (0, 0))) := ⟨h0_⟩
          have n1_ : Aside0 (w38.heap[gb290]? = some (.cells #[.string a1_0, .slice A1_1 l1_1.length c1_1, .slice A1_2 l1_2.length c1_2, .slice (some ad294) l1_3.length c1_3] 33 (0, 0))) := ⟨h1_⟩
          have n2_ : Aside0 (w38.heap[gb295]? = some (.cells #[.string (⟨#[]⟩ : ByteArray), .slice none 0 0] 88 (0, 0))) := ⟨h2_⟩
          have n3_ : Aside0 (w38.heap[gb296]? = some (.cells #[.string (⟨#[]⟩ : ByteArray), .slice none 0 0] 88 (0, 0))) := ⟨h3_⟩
          have n4_ : Aside0 (w.heap.size ≤ gb295) := ⟨h4_⟩
          have n5_ : Aside0 (w.heap.size ≤ gb295) := ⟨h5_⟩
          have n6_ : Aside0 (gb289 ≠ gb295) := ⟨h6_⟩
          have n7_ : Aside0 (gb295 ≠ gb289) := ⟨h7_⟩
          have n8_ : Aside0 (gb290 ≠ gb295) := ⟨h8_⟩
          have n9_ : Aside0 (gb295 ≠ gb290) := ⟨h9_⟩
          have n10_ : Aside0 (gb296 ≠ gb295) := ⟨h10_⟩
          have n11_ : Aside0 (gb295 ≠ gb296) := ⟨h11_⟩
          have n12_ : Aside0 (w.heap.size ≤ gb296) := ⟨h12_⟩
          have n13_ : Aside0 (w.heap.size ≤ gb296) := ⟨h13_⟩
          have n14_ : Aside0 (gb289 ≠ gb296) := ⟨h14_⟩
          have n15_ : Aside0 (gb296 ≠ gb289) := ⟨h15_⟩
          have n16_ : Aside0 (gb290 ≠ gb296) := ⟨h16_⟩
          have n17_ : Aside0 (gb296 ≠ gb290) := ⟨h17_⟩
          have n18_ : Aside0 (Below w.heap.size w w38) := ⟨h18_⟩
          clear BK289; clear BK290; clear HB; clear h0_ h1_ h2_ h3_ h4_ h5_ h6_ h7_ h8_ h9_ h10_ h11_ h12_ h13_ h14_ h15_ h16_ h17_ h18_
          have BK289 := n0_
          have BK290 := n1_
          have BK295 := n2_
          have BK296 := n3_
          have GW295 := n4_
          have GE295 := n5_
          have NB289_295 := n6_
          have NB295_289 := n7_
          have NB290_295 := n8_
          have NB295_290 := n9_
          have NB296_295 := n10_
          have NB295_296 := n11_
          have GW296 := n12_
          have GE296 := n13_
          have NB289_296 := n14_
          have NB296_289 := n15_
          have NB290_296 := n16_
          have NB296_290 := n17_
          have HB := n18_
          clear n0_ n1_ n2_ n3_ n4_ n5_ n6_ n7_ n8_ n9_ n10_ n11_ n12_ n13_ n14_ n15_ n16_ n17_ n18_
          have hHeld : w38.cell? ⟨gb289, 0, none⟩ = some (.string a0_0) ∧ w38.cell? ⟨gb289, 1, none⟩ = some (.slice A0_1 l0_1.length c0_1) ∧ w38.cell? ⟨gb289, 2, none⟩ = some (.slice A0_2 l0_2.length c0_2) ∧ w38.cell? ⟨gb289, 3, none⟩ = some (.slice (some ad293) l0_3.length c0_3) ∧ w38.cell? ⟨gb290, 0, none⟩ = some (.string a1_0) ∧ w38.cell? ⟨gb290, 1, none⟩ = some (.slice A1_1 l1_1.length c1_1) ∧ w38.cell? ⟨gb290, 2, none⟩ = some (.slice A1_2 l1_2.length c1_2) ∧ w38.cell? ⟨gb290, 3, none⟩ = some (.slice (some ad294) l1_3.length c1_3) ∧ w38.cell? (ad293.add ((x51_2).toNat * 2)) = some (.string ((rd_T88 l0_3 x51_2).f0)) ∧ w38.cell? ⟨(ad293.add ((x51_2).toNat * 2)).block, (ad293.add ((x51_2).toNat * 2)).off + 1, none⟩ = some (.slice A293_1 ((rd_T88 l0_3 x51_2).f1).length c293_1) ∧ w38.cell? (ad294.add ((x51_2).toNat * 2)) = some (.string ((rd_T88 l1_3 x51_2).f0)) ∧ w38.cell? ⟨(ad294.add ((x51_2).toNat * 2)).block, (ad294.add ((x51_2).toNat * 2)).off + 1, none⟩ = some (.slice A294_1 ((rd_T88 l1_3 x51_2).f1).length c294_1) := hS_
          refine norm_ (a' := ?_) ?_ ?_
          rotate_left
          ·
           simp only [putAll, Act.put, List.setIfInBounds_toArray, List.set_cons_zero, List.set_cons_succ]
           rfl
          refine one_ (i := 12) (N := none) #[true, true, true, true, true, true, true, true, true, true, true, true, true, false] rfl rfl (one_of HT_.out (by kernel_rfl)) (by decide) (fun K hK => ?_)
          have hs39 : w38.cell? ⟨gb295, 0, none⟩ = some (.string (⟨#[]⟩ : ByteArray)) := (blk_cell BK295.out 0).trans rfl
          have hfs39 := blk_frozen BK295.out 0
          have hns39_0 := NB289_295.out
          have hns39_1 := NB290_295.out
          have hns39_3 := NB296_295.out
          have hms39_0 := NB295_289.out
          have hms39_1 := NB295_290.out
          have hms39_3 := NB295_296.out
          have hs40 : w38.cell? ⟨gb295, 1, none⟩ = some (.slice none 0 0) := (blk_cell BK295.out 1).trans rfl
          have hfs40 := blk_frozen BK295.out 1
          have hns40_0 := NB289_295.out
          have hns40_1 := NB290_295.out
          have hns40_3 := NB296_295.out
          have hms40_0 := NB295_289.out
          have hms40_1 := NB295_290.out
          have hms40_3 := NB295_296.out
          refine skip_ (w1 := ?_) (by rfl) rfl ?_ ?_
          rotate_left
          ·
           go_simp
           rfl
          refine hK.out _ _ ⟨((cell_far (p := ⟨gb295, _, none⟩) NB289_295.out _).trans (((cell_far (p := ⟨gb295, _, none⟩) NB289_295.out _).trans (hHeld.1)))), ((cell_far (p := ⟨gb295, _, none⟩) NB289_295.out _).trans (((cell_far (p := ⟨gb295, _, none⟩) NB289_295.out _).trans (hHeld.2.1)))), ((cell_far (p := ⟨gb295, _, none⟩) NB289_295.out _).trans (((cell_far (p := ⟨gb295, _, none⟩) NB289_295.out _).trans (hHeld.2.2.1)))), ((cell_far (p := ⟨gb295, _, none⟩) NB289_295.out _).trans (((cell_far (p := ⟨gb295, _, none⟩) NB289_295.out _).trans (hHeld.2.2.2.1)))), ((cell_far (p := ⟨gb295, _, none⟩) NB290_295.out _).trans (((cell_far (p := ⟨gb295, _, none⟩) NB290_295.out _).trans (hHeld.2.2.2.2.1)))), ((cell_far (p := ⟨gb295, _, none⟩) NB290_295.out _).trans (((cell_far (p := ⟨gb295, _, none⟩) NB290_295.out _).trans (hHeld.2.2.2.2.2.1)))), ((cell_far (p := ⟨gb295, _, none⟩) NB290_295.out _).trans (((cell_far (p := ⟨gb295, _, none⟩) NB290_295.out _).trans (hHeld.2.2.2.2.2.2.1)))), ((cell_far (p := ⟨gb295, _, none⟩) NB290_295.out _).trans (((cell_far (p := ⟨gb295, _, none⟩) NB290_295.out _).trans (hHeld.2.2.2.2.2.2.2.1)))), ((cell_far (p := ⟨gb295, _, none⟩) (by first | exact Nat.ne_of_lt (Nat.lt_of_lt_of_le (by have := World.block_lt_of_cell? _ _ hw293_0; first | rwa [add_block] at this | exact this) GW295.out) | (rw [add_block]; exact Nat.ne_of_lt (Nat.lt_of_lt_of_le (by have := World.block_lt_of_cell? _ _ hw293_0; first | rwa [add_block] at this | exact this) GW295.out)) | (show (Addr.add _ _).block ≠ _; rw [add_block]; exact Nat.ne_of_lt (Nat.lt_of_lt_of_le (by have := World.block_lt_of_cell? _ _ hw293_0; first | rwa [add_block] at this | exact this) GW295.out)) | (dsimp only; exact Nat.ne_of_lt (Nat.lt_of_lt_of_le (by have := World.block_lt_of_cell? _ _ hw293_0; first | rwa [add_block] at this | exact this) GW295.out))) _).trans (((cell_far (p := ⟨gb295, _, none⟩) (by first | exact Nat.ne_of_lt (Nat.lt_of_lt_of_le (by have := World.block_lt_of_cell? _ _ hw293_0; first | rwa [add_block] at this | exact this) GW295.out) | (rw [add_block]; exact Nat.ne_of_lt (Nat.lt_of_lt_of_le (by have := World.block_lt_of_cell? _ _ hw293_0; first | rwa [add_block] at this | exact this) GW295.out)) | (show (Addr.add _ _).block ≠ _; rw [add_block]; exact Nat.ne_of_lt (Nat.lt_of_lt_of_le (by have := World.block_lt_of_cell? _ _ hw293_0; first | rwa [add_block] at this | exact this) GW295.out)) | (dsimp only; exact Nat.ne_of_lt (Nat.lt_of_lt_of_le (by have := World.block_lt_of_cell? _ _ hw293_0; first | rwa [add_block] at this | exact this) GW295.out))) _).trans (hHeld.2.2.2.2.2.2.2.2.1)))), ((cell_far (p := ⟨gb295, _, none⟩) (by first | exact Nat.ne_of_lt (Nat.lt_of_lt_of_le (by have := World.block_lt_of_cell? _ _ hw293_1; first | rwa [add_block] at this | exact this) GW295.out) | (rw [add_block]; exact Nat.ne_of_lt (Nat.lt_of_lt_of_le (by have := World.block_lt_of_cell? _ _ hw293_1; first | rwa [add_block] at this | exact this) GW295.out)) | (show (Addr.add _ _).block ≠ _; rw [add_block]; exact Nat.ne_of_lt (Nat.lt_of_lt_of_le (by have := World.block_lt_of_cell? _ _ hw293_1; first | rwa [add_block] at this | exact this) GW295.out)) | (dsimp only; exact Nat.ne_of_lt (Nat.lt_of_lt_of_le (by have := World.block_lt_of_cell? _ _ hw293_1; first | rwa [add_block] at this | exact this) GW295.out))) _).trans (((cell_far (p := ⟨gb295, _, none⟩) (by first | exact Nat.ne_of_lt (Nat.lt_of_lt_of_le (by have := World.block_lt_of_cell? _ _ hw293_1; first | rwa [add_block] at this | exact this) GW295.out) | (rw [add_block]; exact Nat.ne_of_lt (Nat.lt_of_lt_of_le (by have := World.block_lt_of_cell? _ _ hw293_1; first | rwa [add_block] at this | exact this) GW295.out)) | (show (Addr.add _ _).block ≠ _; rw [add_block]; exact Nat.ne_of_lt (Nat.lt_of_lt_of_le (by have := World.block_lt_of_cell? _ _ hw293_1; first | rwa [add_block] at this | exact this) GW295.out)) | (dsimp only; exact Nat.ne_of_lt (Nat.lt_of_lt_of_le (by have := World.block_lt_of_cell? _ _ hw293_1; first | rwa [add_block] at this | exact this) GW295.out))) _).trans (hHeld.2.2.2.2.2.2.2.2.2.1)))), ((cell_far (p := ⟨gb295, _, none⟩) (by first | exact Nat.ne_of_lt (Nat.lt_of_lt_of_le (by have := World.block_lt_of_cell? _ _ hw294_0; first | rwa [add_block] at this | exact this) GW295.out) | (rw [add_block]; exact Nat.ne_of_lt (Nat.lt_of_lt_of_le (by have := World.block_lt_of_cell? _ _ hw294_0; first | rwa [add_block] at this | exact this) GW295.out)) | (show (Addr.add _ _).block ≠ _; rw [add_block]; exact Nat.ne_of_lt (Nat.lt_of_lt_of_le (by have := World.block_lt_of_cell? _ _ hw294_0; first | rwa [add_block] at this | exact this) GW295.out)) | (dsimp only; exact Nat.ne_of_lt (Nat.lt_of_lt_of_le (by have := World.block_lt_of_cell? _ _ hw294_0; first | rwa [add_block] at this | exact this) GW295.out))) _).trans (((cell_far (p := ⟨gb295, _, none⟩) (by first | exact Nat.ne_of_lt (Nat.lt_of_lt_of_le (by have := World.block_lt_of_cell? _ _ hw294_0; first | rwa [add_block] at this | exact this) GW295.out) | (rw [add_block]; exact Nat.ne_of_lt (Nat.lt_of_lt_of_le (by have := World.block_lt_of_cell? _ _ hw294_0; first | rwa [add_block] at this | exact this) GW295.out)) | (show (Addr.add _ _).block ≠ _; rw [add_block]; exact Nat.ne_of_lt (Nat.lt_of_lt_of_le (by have := World.block_lt_of_cell? _ _ hw294_0; first | rwa [add_block] at this | exact this) GW295.out)) | (dsimp only; exact Nat.ne_of_lt (Nat.lt_of_lt_of_le (by have := World.block_lt_of_cell? _ _ hw294_0; first | rwa [add_block] at this | exact this) GW295.out))) _).trans (hHeld.2.2.2.2.2.2.2.2.2.2.1)))), ((cell_far (p := ⟨gb295, _, none⟩) (by first | exact Nat.ne_of_lt (Nat.lt_of_lt_of_le (by have := World.block_lt_of_cell? _ _ hw294_1; first | rwa [add_block] at this | exact this) GW295.out) | (rw [add_block]; exact Nat.ne_of_lt (Nat.lt_of_lt_of_le (by have := World.block_lt_of_cell? _ _ hw294_1; first | rwa [add_block] at this | exact this) GW295.out)) | (show (Addr.add _ _).block ≠ _; rw [add_block]; exact Nat.ne_of_lt (Nat.lt_of_lt_of_le (by have := World.block_lt_of_cell? _ _ hw294_1; first | rwa [add_block] at this | exact this) GW295.out)) | (dsimp only; exact Nat.ne_of_lt (Nat.lt_of_lt_of_le (by have := World.block_lt_of_cell? _ _ hw294_1; first | rwa [add_block] at this | exact this) GW295.out))) _).trans (((cell_far (p := ⟨gb295, _, none⟩) (by first | exact Nat.ne_of_lt (Nat.lt_of_lt_of_le (by have := World.block_lt_of_cell? _ _ hw294_1; first | rwa [add_block] at this | exact this) GW295.out) | (rw [add_block]; exact Nat.ne_of_lt (Nat.lt_of_lt_of_le (by have := World.block_lt_of_cell? _ _ hw294_1; first | rwa [add_block] at this | exact this) GW295.out)) | (show (Addr.add _ _).block ≠ _; rw [add_block]; exact Nat.ne_of_lt (Nat.lt_of_lt_of_le (by have := World.block_lt_of_cell? _ _ hw294_1; first | rwa [add_block] at this | exact this) GW295.out)) | (dsimp only; exact Nat.ne_of_lt (Nat.lt_of_lt_of_le (by have := World.block_lt_of_cell? _ _ hw294_1; first | rwa [add_block] at this | exact this) GW295.out))) _).trans (hHeld.2.2.2.2.2.2.2.2.2.2.2))))⟩ (fun hHeld => ?_)
          clear hK K
          refine one_ (i := 13) (N := none) #[true, true, true, true, true, true, true, true, true, true, true, true, true, true] rfl rfl (one_of HT_.out (by kernel_rfl)) (by decide) (fun K hK => ?_)
          have hs41 : w38.cell? ⟨gb296, 0, none⟩ = some (.string (⟨#[]⟩ : ByteArray)) := (blk_cell BK296.out 0).trans rfl
          have hfs41 := blk_frozen BK296.out 0
          have hns41_0 := NB289_296.out
          have hns41_1 := NB290_296.out
          have hns41_2 := NB295_296.out
          have hms41_0 := NB296_289.out
          have hms41_1 := NB296_290.out
          have hms41_2 := NB296_295.out
          have hs42 : w38.cell? ⟨gb296, 1, none⟩ = some (.slice none 0 0) := (blk_cell BK296.out 1).trans rfl
          have hfs42 := blk_frozen BK296.out 1
          have hns42_0 := NB289_296.out
          have hns42_1 := NB290_296.out
          have hns42_2 := NB295_296.out
          have hms42_0 := NB296_289.out
          have hms42_1 := NB296_290.out
          have hms42_2 := NB296_295.out
          refine skip_ (w1 := ?_) (by rfl) rfl ?_ ?_
          rotate_left
          ·
           go_simp
           rfl
          refine hK.out _ _ ⟨((cell_far (p := ⟨gb296, _, none⟩) NB289_296.out _).trans (((cell_far (p := ⟨gb296, _, none⟩) NB289_296.out _).trans (hHeld.1)))), ((cell_far (p := ⟨gb296, _, none⟩) NB289_296.out _).trans (((cell_far (p := ⟨gb296, _, none⟩) NB289_296.out _).trans (hHeld.2.1)))), ((cell_far (p := ⟨gb296, _, none⟩) NB289_296.out _).trans (((cell_far (p := ⟨gb296, _, none⟩) NB289_296.out _).trans (hHeld.2.2.1)))), ((cell_far (p := ⟨gb296, _, none⟩) NB289_296.out _).trans (((cell_far (p := ⟨gb296, _, none⟩) NB289_296.out _).trans (hHeld.2.2.2.1)))), ((cell_far (p := ⟨gb296, _, none⟩) NB290_296.out _).trans (((cell_far (p := ⟨gb296, _, none⟩) NB290_296.out _).trans (hHeld.2.2.2.2.1)))), ((cell_far (p := ⟨gb296, _, none⟩) NB290_296.out _).trans (((cell_far (p := ⟨gb296, _, none⟩) NB290_296.out _).trans (hHeld.2.2.2.2.2.1)))), ((cell_far (p := ⟨gb296, _, none⟩) NB290_296.out _).trans (((cell_far (p := ⟨gb296, _, none⟩) NB290_296.out _).trans (hHeld.2.2.2.2.2.2.1)))), ((cell_far (p := ⟨gb296, _, none⟩) NB290_296.out _).trans (((cell_far (p := ⟨gb296, _, none⟩) NB290_296.out _).trans (hHeld.2.2.2.2.2.2.2.1)))), ((cell_far (p := ⟨gb296, _, none⟩) (by first | exact Nat.ne_of_lt (Nat.lt_of_lt_of_le (by have := World.block_lt_of_cell? _ _ hw293_0; first | rwa [add_block] at this | exact this) GW296.out) | (rw [add_block]; exact Nat.ne_of_lt (Nat.lt_of_lt_of_le (by have := World.block_lt_of_cell? _ _ hw293_0; first | rwa [add_block] at this | exact this) GW296.out)) | (show (Addr.add _ _).block ≠ _; rw [add_block]; exact Nat.ne_of_lt (Nat.lt_of_lt_of_le (by have := World.block_lt_of_cell? _ _ hw293_0; first | rwa [add_block] at this | exact this) GW296.out)) | (dsimp only; exact Nat.ne_of_lt (Nat.lt_of_lt_of_le (by have := World.block_lt_of_cell? _ _ hw293_0; first | rwa [add_block] at this | exact this) GW296.out))) _).trans (((cell_far (p := ⟨gb296, _, none⟩) (by first | exact Nat.ne_of_lt (Nat.lt_of_lt_of_le (by have := World.block_lt_of_cell? _ _ hw293_0; first | rwa [add_block] at this | exact this) GW296.out) | (rw [add_block]; exact Nat.ne_of_lt (Nat.lt_of_lt_of_le (by have := World.block_lt_of_cell? _ _ hw293_0; first | rwa [add_block] at this | exact this) GW296.out)) | (show (Addr.add _ _).block ≠ _; rw [add_block]; exact Nat.ne_of_lt (Nat.lt_of_lt_of_le (by have := World.block_lt_of_cell? _ _ hw293_0; first | rwa [add_block] at this | exact this) GW296.out)) | (dsimp only; exact Nat.ne_of_lt (Nat.lt_of_lt_of_le (by have := World.block_lt_of_cell? _ _ hw293_0; first | rwa [add_block] at this | exact this) GW296.out))) _).trans (hHeld.2.2.2.2.2.2.2.2.1)))), ((cell_far (p := ⟨gb296, _, none⟩) (by first | exact Nat.ne_of_lt (Nat.lt_of_lt_of_le (by have := World.block_lt_of_cell? _ _ hw293_1; first | rwa [add_block] at this | exact this) GW296.out) | (rw [add_block]; exact Nat.ne_of_lt (Nat.lt_of_lt_of_le (by have := World.block_lt_of_cell? _ _ hw293_1; first | rwa [add_block] at this | exact this) GW296.out)) | (show (Addr.add _ _).block ≠ _; rw [add_block]; exact Nat.ne_of_lt (Nat.lt_of_lt_of_le (by have := World.block_lt_of_cell? _ _ hw293_1; first | rwa [add_block] at this | exact this) GW296.out)) | (dsimp only; exact Nat.ne_of_lt (Nat.lt_of_lt_of_le (by have := World.block_lt_of_cell? _ _ hw293_1; first | rwa [add_block] at this | exact this) GW296.out))) _).trans (((cell_far (p := ⟨gb296, _, none⟩) (by first | exact Nat.ne_of_lt (Nat.lt_of_lt_of_le (by have := World.block_lt_of_cell? _ _ hw293_1; first | rwa [add_block] at this | exact this) GW296.out) | (rw [add_block]; exact Nat.ne_of_lt (Nat.lt_of_lt_of_le (by have := World.block_lt_of_cell? _ _ hw293_1; first | rwa [add_block] at this | exact this) GW296.out)) | (show (Addr.add _ _).block ≠ _; rw [add_block]; exact Nat.ne_of_lt (Nat.lt_of_lt_of_le (by have := World.block_lt_of_cell? _ _ hw293_1; first | rwa [add_block] at this | exact this) GW296.out)) | (dsimp only; exact Nat.ne_of_lt (Nat.lt_of_lt_of_le (by have := World.block_lt_of_cell? _ _ hw293_1; first | rwa [add_block] at this | exact this) GW296.out))) _).trans (hHeld.2.2.2.2.2.2.2.2.2.1)))), ((cell_far (p := ⟨gb296, _, none⟩) (by first | exact Nat.ne_of_lt (Nat.lt_of_lt_of_le (by have := World.block_lt_of_cell? _ _ hw294_0; first | rwa [add_block] at this | exact this) GW296.out) | (rw [add_block]; exact Nat.ne_of_lt (Nat.lt_of_lt_of_le (by have := World.block_lt_of_cell? _ _ hw294_0; first | rwa [add_block] at this | exact this) GW296.out)) | (show (Addr.add _ _).block ≠ _; rw [add_block]; exact Nat.ne_of_lt (Nat.lt_of_lt_of_le (by have := World.block_lt_of_cell? _ _ hw294_0; first | rwa [add_block] at this | exact this) GW296.out)) | (dsimp only; exact Nat.ne_of_lt (Nat.lt_of_lt_of_le (by have := World.block_lt_of_cell? _ _ hw294_0; first | rwa [add_block] at this | exact this) GW296.out))) _).trans (((cell_far (p := ⟨gb296, _, none⟩) (by first | exact Nat.ne_of_lt (Nat.lt_of_lt_of_le (by have := World.block_lt_of_cell? _ _ hw294_0; first | rwa [add_block] at this | exact this) GW296.out) | (rw [add_block]; exact Nat.ne_of_lt (Nat.lt_of_lt_of_le (by have := World.block_lt_of_cell? _ _ hw294_0; first | rwa [add_block] at this | exact this) GW296.out)) | (show (Addr.add _ _).block ≠ _; rw [add_block]; exact Nat.ne_of_lt (Nat.lt_of_lt_of_le (by have := World.block_lt_of_cell? _ _ hw294_0; first | rwa [add_block] at this | exact this) GW296.out)) | (dsimp only; exact Nat.ne_of_lt (Nat.lt_of_lt_of_le (by have := World.block_lt_of_cell? _ _ hw294_0; first | rwa [add_block] at this | exact this) GW296.out))) _).trans (hHeld.2.2.2.2.2.2.2.2.2.2.1)))), ((cell_far (p := ⟨gb296, _, none⟩) (by first | exact Nat.ne_of_lt (Nat.lt_of_lt_of_le (by have := World.block_lt_of_cell? _ _ hw294_1; first | rwa [add_block] at this | exact this) GW296.out) | (rw [add_block]; exact Nat.ne_of_lt (Nat.lt_of_lt_of_le (by have := World.block_lt_of_cell? _ _ hw294_1; first | rwa [add_block] at this | exact this) GW296.out)) | (show (Addr.add _ _).block ≠ _; rw [add_block]; exact Nat.ne_of_lt (Nat.lt_of_lt_of_le (by have := World.block_lt_of_cell? _ _ hw294_1; first | rwa [add_block] at this | exact this) GW296.out)) | (dsimp only; exact Nat.ne_of_lt (Nat.lt_of_lt_of_le (by have := World.block_lt_of_cell? _ _ hw294_1; first | rwa [add_block] at this | exact this) GW296.out))) _).trans (((cell_far (p := ⟨gb296, _, none⟩) (by first | exact Nat.ne_of_lt (Nat.lt_of_lt_of_le (by have := World.block_lt_of_cell? _ _ hw294_1; first | rwa [add_block] at this | exact this) GW296.out) | (rw [add_block]; exact Nat.ne_of_lt (Nat.lt_of_lt_of_le (by have := World.block_lt_of_cell? _ _ hw294_1; first | rwa [add_block] at this | exact this) GW296.out)) | (show (Addr.add _ _).block ≠ _; rw [add_block]; exact Nat.ne_of_lt (Nat.lt_of_lt_of_le (by have := World.block_lt_of_cell? _ _ hw294_1; first | rwa [add_block] at this | exact this) GW296.out)) | (dsimp only; exact Nat.ne_of_lt (Nat.lt_of_lt_of_le (by have := World.block_lt_of_cell? _ _ hw294_1; first | rwa [add_block] at this | exact this) GW296.out))) _).trans (hHeld.2.2.2.2.2.2.2.2.2.2.2))))⟩ (fun hHeld => ?_)
          clear hK K
          refine done_ (done_of HT_.out (by kernel_rfl)) ?_
          go_upto_region 7 with (fail)
          go_cut [77] (fun v77 wc => ∃ (kq : Nat) (x77_33 : Bool), v77 = .bool x77_33 ∧ Aside0 (pentaglotref33_SameRule.j2 kq (l0_3.length : Int) x51_2 x77_33 a0_0 l0_1 l0_2 l0_3 a1_0 l1_1 l1_2 l1_3 ((rd_T88 l0_3 x51_2).f0) ((rd_T88 l0_3 x51_2).f1) ((rd_T88 l1_3 x51_2).f0) ((rd_T88 l1_3 x51_2).f1) = some r) ∧ Aside0 (kq ≤ k2) ∧ Aside0 (wc.heap[gb289]? = some (.cells #[.string a0_0, (.slice A0_1 l0_1.length c0_1), (.slice A0_2 l0_2.length c0_2), (.slice (some ad293) l0_3.length c0_3)] 33 (0, 0))) ∧ Aside0 (wc.heap[gb290]? = some (.cells #[.string a1_0, (.slice A1_1 l1_1.length c1_1), (.slice A1_2 l1_2.length c1_2), (.slice (some ad294) l1_3.length c1_3)] 33 (0, 0))) ∧ Aside0 (wc.heap[gb295]? = some (.cells #[.string ((rd_T88 l0_3 x51_2).f0), (.slice A293_1 ((rd_T88 l0_3 x51_2).f1).length c293_1)] 88 (0, 0))) ∧ Aside0 (wc.heap[gb296]? = some (.cells #[.string ((rd_T88 l1_3 x51_2).f0), (.slice A294_1 ((rd_T88 l1_3 x51_2).f1).length c294_1)] 88 (0, 0))) ∧ Aside0 (Below w.heap.size w wc))
          case first =>
           have H := HC34.out
           clear HC34
           by_cases c43 : ((rd_T88 l0_3 x51_2).f0).toList = ((rd_T88 l1_3 x51_2).f0).toList
           ·
            rw [if_pos c43] at H
            have c43b0 := beq_iff_eq.mpr c43
            have c43b1 := bne_eq_false_iff_eq.mpr c43
            clear c43
            (first | rw [c43b0] | (simp only [i64_w, i32_w]; rw [c43b0]) | skip)
            have H' := Aside0.mk H
            clear H
            have hnb44 := NB295_289.out
            have hnc44 := NB289_295.out
            have hnb45 := NB295_290.out
            have hnc45 := NB290_295.out
            have hnb46 := NB295_296.out
            have hnc46 := NB296_295.out
            obtain ⟨hcz47_0, hcz47_1, hfz47_0, hfz47_1⟩ := bx2 BK295
            have hnb48 := NB296_289.out
            have hnc48 := NB289_296.out
            have hnb49 := NB296_290.out
            have hnc49 := NB290_296.out
            obtain ⟨hcz50_0, hcz50_1, hfz50_0, hfz50_1⟩ := bx2 BK296
            go_wp2
            go_meet
            case rel => exact ⟨_, (((((rd_T88 l0_3 x51_2).f1).length : Int) != (((rd_T88 l1_3 x51_2).f1).length : Int))), tV1, H', ⟨by have := HJ2.out; have := HK2.out; first | omega | exact Nat.le_refl _⟩, ⟨tK BK289⟩, ⟨tK BK290⟩, ⟨tKp BK295⟩, ⟨tKp BK296⟩, ⟨tB HB⟩⟩
           ·
            rw [if_neg c43] at H
            have c43b0 := beq_eq_false_iff_ne.mpr c43
            have c43b1 := bne_iff_ne.mpr c43
            (first | rw [c43b0] | (simp only [i64_w, i32_w]; rw [c43b0]) | skip)
            have H' := Aside0.mk H
            clear H
            have hnb51 := NB295_289.out
            have hnc51 := NB289_295.out
            have hnb52 := NB295_290.out
            have hnc52 := NB290_295.out
            have hnb53 := NB295_296.out
            have hnc53 := NB296_295.out
            obtain ⟨hcz54_0, hcz54_1, hfz54_0, hfz54_1⟩ := bx2 BK295
            have hnb55 := NB296_289.out
            have hnc55 := NB289_296.out
            have hnb56 := NB296_290.out
            have hnc56 := NB290_296.out
            obtain ⟨hcz57_0, hcz57_1, hfz57_0, hfz57_1⟩ := bx2 BK296
            go_wp2
            go_meet
            case rel => exact ⟨_, (true), tV1, H', ⟨by have := HJ2.out; have := HK2.out; first | omega | exact Nat.le_refl _⟩, ⟨tK BK289⟩, ⟨tK BK290⟩, ⟨tKp BK295⟩, ⟨tKp BK296⟩, ⟨tB HB⟩⟩
          case rest =>
           clear HC34; (try clear c27); (try clear c30); (try clear c30b0); (try clear c31); (try clear c31b0); (try clear c32); (try clear c32b0); (try clear c33); (try clear c33b0); (try clear hcz29_0); (try clear hcz29_1); (try clear hcz29_2); (try clear hcz29_3); (try clear hfz29_0); (try clear hfz29_1); (try clear hfz29_2); (try clear hfz29_3); (try clear hx293_0); (try clear hx293_1); (try clear hx294_0); (try clear hx294_1); (try clear p293); (try clear p294); (try clear q293); (try clear q294)
           obtain ⟨kq, x77_33, rfl, HA, HJ33, BK289, BK290, BK295, BK296, HB⟩ := hcut
           cases kq with
           | zero => exact absurd HA.out (by simp [pentaglotref33_SameRule.j2])
           | succ kj33 =>
            have H := HA.out
            clear HA
            simp only [pentaglotref33_SameRule.j2] at H
            by_cases c58 : x77_33 = true
            ·
             subst c58
             rw [if_pos rfl] at H
             obtain rfl := Option.some.inj H
             go_wp2
             go_ret
             exact ⟨tE, by repeat (first | (with_reducible first | exact HB.out | apply below_alloc | apply pw_below_drewN | apply below_drew1 | refine below_set ?_ GE289.out | refine below_set ?_ GE290.out | refine below_set ?_ GE295.out | refine below_set ?_ GE296.out) | exact HB.out)⟩
            ·
             replace c58 := Bool.eq_false_iff.mpr c58
             subst c58
             rw [if_neg (show ¬ (false = true) by decide)] at H
             have H' := Aside0.mk H
             clear H
             have hnb59 := NB295_289.out
             have hnc59 := NB289_295.out
             have hnb60 := NB295_290.out
             have hnc60 := NB290_295.out
             have hnb61 := NB295_296.out
             have hnc61 := NB296_295.out
             obtain ⟨hcz62_0, hcz62_1, hfz62_0, hfz62_1⟩ := bx2 BK295
             go_wp2
             go_loopg [81] kj33 (fun kq v81 w' => ∃ (x81_4 : Int), v81 = .int .i64 x81_4 ∧ Aside0 (pentaglotref33_SameRule.l1 kq (l0_3.length : Int) x51_2 (((rd_T88 l0_3 x51_2).f1).length : Int) x81_4 a0_0 l0_1 l0_2 l0_3 a1_0 l1_1 l1_2 l1_3 ((rd_T88 l0_3 x51_2).f0) ((rd_T88 l0_3 x51_2).f1) ((rd_T88 l1_3 x51_2).f0) ((rd_T88 l1_3 x51_2).f1) = some r) ∧ Aside0 (kq ≤ kj33) ∧ Aside0 (w'.heap[gb289]? = some (.cells #[.string a0_0, (.slice A0_1 l0_1.length c0_1), (.slice A0_2 l0_2.length c0_2), (.slice (some ad293) l0_3.length c0_3)] 33 (0, 0))) ∧ Aside0 (w'.heap[gb290]? = some (.cells #[.string a1_0, (.slice A1_1 l1_1.length c1_1), (.slice A1_2 l1_2.length c1_2), (.slice (some ad294) l1_3.length c1_3)] 33 (0, 0))) ∧ Aside0 (w'.heap[gb295]? = some (.cells #[.string ((rd_T88 l0_3 x51_2).f0), (.slice A293_1 ((rd_T88 l0_3 x51_2).f1).length c293_1)] 88 (0, 0))) ∧ Aside0 (w'.heap[gb296]? = some (.cells #[.string ((rd_T88 l1_3 x51_2).f0), (.slice A294_1 ((rd_T88 l1_3 x51_2).f1).length c294_1)] 88 (0, 0))) ∧ Aside0 (Below w.heap.size w w'))
             case atStart => exact ⟨(0), tV1, H', ⟨Nat.le_refl _⟩, ⟨tK BK289⟩, ⟨tK BK290⟩, ⟨tK BK295⟩, ⟨tK BK296⟩, ⟨tB HB⟩⟩
             case round =>
              clear H'; (try clear c27); (try clear c30); (try clear c30b0); (try clear c31); (try clear c31b0); (try clear c32); (try clear c32b0); (try clear c33); (try clear c33b0); (try clear c58); (try clear hcz29_0); (try clear hcz29_1); (try clear hcz29_2); (try clear hcz29_3); (try clear hcz62_0); (try clear hcz62_1); (try clear hfz29_0); (try clear hfz29_1); (try clear hfz29_2); (try clear hfz29_3); (try clear hfz62_0); (try clear hfz62_1); (try clear hx293_0); (try clear hx293_1); (try clear hx294_0); (try clear hx294_1); (try clear p293); (try clear p294); (try clear q293); (try clear q294)
              obtain ⟨x81_4, rfl, HA, HK4, BK289, BK290, BK295, BK296, HB⟩ := hrel
              cases gk with
              | zero => exact absurd HA.out (by simp [pentaglotref33_SameRule.l1])
              | succ k4 =>
               have H := HA.out
               clear HA
               simp only [pentaglotref33_SameRule.l1] at H
               by_cases c63 : x81_4 < (((rd_T88 l0_3 x51_2).f1).length : Int)
               ·
                rw [if_pos c63] at H
                have c63b0 : decide (x81_4 < (((rd_T88 l0_3 x51_2).f1).length : Int)) = true := decide_eq_true c63
                clear c63
                by_cases c64 : 0 ≤ x81_4
                ·
                 rw [if_pos c64] at H
                 have c64b0 : decide (0 ≤ x81_4) = true := decide_eq_true c64
                 clear c64
                 by_cases c65 : x81_4 < (((rd_T88 l0_3 x51_2).f1).length : Int)
                 ·
                  rw [if_pos c65] at H
                  have c65b0 : decide (x81_4 < (((rd_T88 l0_3 x51_2).f1).length : Int)) = true := decide_eq_true c65
                  clear c65
                  by_cases c66 : x81_4 < (((rd_T88 l1_3 x51_2).f1).length : Int)
                  ·
                   rw [if_pos c66] at H
                   have c66b0 : decide (x81_4 < (((rd_T88 l1_3 x51_2).f1).length : Int)) = true := decide_eq_true c66
                   clear c66
                   replace H := Option.bind_eq_some_iff.mp H
                   obtain ⟨t299, A670, H⟩ := H
                   (try dsimp only at H)
                   have A67 := Aside0.mk A670
                   clear A670
                   by_cases c68 : t299 = true
                   ·
                    subst c68
                    rw [if_pos rfl] at H
                    have H' := Aside0.mk H
                    clear H
                    try go_wp2
                    have n0_ := Aside0.mk (blk_drew BK289.out)
                    have n1_ := Aside0.mk (blk_drew BK290.out)
                    have n2_ := Aside0.mk (blk_drew BK295.out)
                    have n3_ := Aside0.mk (blk_drew BK296.out)
                    have n4_ := Aside0.mk (below_drew1 HB.out)
                    revert n0_ n1_ n2_ n3_ n4_
                    clear BK289 BK290 BK295 BK296 HB
                    intro BK289 BK290 BK295 BK296 HB
                    have p297 : 0 ≤ (x81_4 : Int) := oD
                    have q297 : x81_4 < (((rd_T88 l0_3 x51_2).f1).length : Int) := oD
                    obtain ⟨ad297, A297_4, c297_4, e297, hx297_0, hx297_1, hx297_2, hx297_3, hx297_4, hl297_4, hi297_4⟩ := at_T94 HR293_1.out x81_4 p297 q297
                    have hw297_4 := hx297_4
                    have hw297_3 := hx297_3
                    have hw297_2 := hx297_2
                    have hw297_1 := hx297_1
                    have hw297_0 := hx297_0
                    cases e297
                    replace hx297_0 := celB HB hx297_0
                    replace hx297_1 := celB HB hx297_1
                    replace hx297_2 := celB HB hx297_2
                    replace hx297_3 := celB HB hx297_3
                    replace hx297_4 := celB HB hx297_4
                    have HR297_4 := Aside0.mk hi297_4
                    have HC297_4 := Aside0.mk hl297_4
                    clear hi297_4 hl297_4
                    replace p297 := eq_true p297
                    replace q297 := eq_true q297
                    have p298 : 0 ≤ (x81_4 : Int) := oD
                    have q298 : x81_4 < (((rd_T88 l1_3 x51_2).f1).length : Int) := oD
                    obtain ⟨ad298, A298_4, c298_4, e298, hx298_0, hx298_1, hx298_2, hx298_3, hx298_4, hl298_4, hi298_4⟩ := at_T94 HR294_1.out x81_4 p298 q298
                    have hw298_4 := hx298_4
                    have hw298_3 := hx298_3
                    have hw298_2 := hx298_2
                    have hw298_1 := hx298_1
                    have hw298_0 := hx298_0
                    cases e298
                    replace hx298_0 := celB HB hx298_0
                    replace hx298_1 := celB HB hx298_1
                    replace hx298_2 := celB HB hx298_2
                    replace hx298_3 := celB HB hx298_3
                    replace hx298_4 := celB HB hx298_4
                    have HR298_4 := Aside0.mk hi298_4
                    have HC298_4 := Aside0.mk hl298_4
                    clear hi298_4 hl298_4
                    replace p298 := eq_true p298
                    replace q298 := eq_true q298
                    refine start_ (n := 12) (S := fun w' => w'.cell? ⟨gb295, 0, none⟩ = some (.string ((rd_T88 l0_3 x51_2).f0)) ∧ w'.cell? ⟨gb295, 1, none⟩ = some (.slice (some ad297) ((rd_T88 l0_3 x51_2).f1).length c293_1) ∧ w'.cell? ⟨gb296, 0, none⟩ = some (.string ((rd_T88 l1_3 x51_2).f0)) ∧ w'.cell? ⟨gb296, 1, none⟩ = some (.slice (some ad298) ((rd_T88 l1_3 x51_2).f1).length c294_1) ∧ w'.cell? (ad297.add ((x81_4).toNat * 5)) = some (.int .i64 ((rd_T94 ((rd_T88 l0_3 x51_2).f1) x81_4).f0)) ∧ w'.cell? ⟨(ad297.add ((x81_4).toNat * 5)).block, (ad297.add ((x81_4).toNat * 5)).off + 1, none⟩ = some (.string ((rd_T94 ((rd_T88 l0_3 x51_2).f1) x81_4).f1)) ∧ w'.cell? ⟨(ad297.add ((x81_4).toNat * 5)).block, (ad297.add ((x81_4).toNat * 5)).off + 2, none⟩ = some (.int .i64 ((rd_T94 ((rd_T88 l0_3 x51_2).f1) x81_4).f2)) ∧ w'.cell? ⟨(ad297.add ((x81_4).toNat * 5)).block, (ad297.add ((x81_4).toNat * 5)).off + 3, none⟩ = some (.string ((rd_T94 ((rd_T88 l0_3 x51_2).f1) x81_4).f3)) ∧ w'.cell? ⟨(ad297.add ((x81_4).toNat * 5)).block, (ad297.add ((x81_4).toNat * 5)).off + 4, none⟩ = some (.slice A297_4 ((rd_T94 ((rd_T88 l0_3 x51_2).f1) x81_4).f4).length c297_4) ∧ w'.cell? (ad298.add ((x81_4).toNat * 5)) = some (.int .i64 ((rd_T94 ((rd_T88 l1_3 x51_2).f1) x81_4).f0)) ∧ w'.cell? ⟨(ad298.add ((x81_4).toNat * 5)).block, (ad298.add ((x81_4).toNat * 5)).off + 1, none⟩ = some (.string ((rd_T94 ((rd_T88 l1_3 x51_2).f1) x81_4).f1)) ∧ w'.cell? ⟨(ad298.add ((x81_4).toNat * 5)).block, (ad298.add ((x81_4).toNat * 5)).off + 2, none⟩ = some (.int .i64 ((rd_T94 ((rd_T88 l1_3 x51_2).f1) x81_4).f2)) ∧ w'.cell? ⟨(ad298.add ((x81_4).toNat * 5)).block, (ad298.add ((x81_4).toNat * 5)).off + 3, none⟩ = some (.string ((rd_T94 ((rd_T88 l1_3 x51_2).f1) x81_4).f3)) ∧ w'.cell? ⟨(ad298.add ((x81_4).toNat * 5)).block, (ad298.add ((x81_4).toNat * 5)).off + 4, none⟩ = some (.slice A298_4 ((rd_T94 ((rd_T88 l1_3 x51_2).f1) x81_4).f4).length c298_4)) (ds := []) #[false, false, false, false, false, false, false, false, false, false, false, false] (by kernel_rfl) rfl rfl ⟨(blk_cell BK295.out 0).trans rfl, (blk_cell BK295.out 1).trans rfl, (blk_cell BK296.out 0).trans rfl, (blk_cell BK296.out 1).trans rfl, ((HB.out.cell (World.block_lt_of_cell? w _ hw297_0)).trans hw297_0), ((HB.out.cell (World.block_lt_of_cell? w _ hw297_1)).trans hw297_1), ((HB.out.cell (World.block_lt_of_cell? w _ hw297_2)).trans hw297_2), ((HB.out.cell (World.block_lt_of_cell? w _ hw297_3)).trans hw297_3), ((HB.out.cell (World.block_lt_of_cell? w _ hw297_4)).trans hw297_4), ((HB.out.cell (World.block_lt_of_cell? w _ hw298_0)).trans hw298_0), ((HB.out.cell (World.block_lt_of_cell? w _ hw298_1)).trans hw298_1), ((HB.out.cell (World.block_lt_of_cell? w _ hw298_2)).trans hw298_2), ((HB.out.cell (World.block_lt_of_cell? w _ hw298_3)).trans hw298_3), ((HB.out.cell (World.block_lt_of_cell? w _ hw298_4)).trans hw298_4)⟩ (fun hHeld => ?_); refine with_tabW pentaglotref33_SameRule.tab12 pentaglotref33_SameRule.bits12 (fun HT_ HW_ => ?_)
                    generalize wr.drew = w69 at BK289 BK290 BK295 BK296 HB HR297_4 HR298_4 hx297_0 hx297_1 hx297_2 hx297_3 hx297_4 hx298_0 hx298_1 hx298_2 hx298_3 hx298_4 hHeld ⊢
                    refine pure_ (i := 0) (N := some 84) (v := ?_) (a' := ?_) #[true, false, false, false, false, false, false, false, false, false, false, false] rfl rfl (any_of HT_.out (by kernel_rfl)) (fun _ _ _ h => h) (Or.inl ⟨by rfl, ?_⟩) ?_ ?_
                    rotate_left
                    ·
                     intro w'
                     go_simp
                     with_reducible rfl
                    rotate_left
                    ·
                     simp only [Act.put, List.setIfInBounds_toArray, List.set_cons_zero, List.set_cons_succ, i64_w, i32_w]
                     rfl
                    refine pure_ (i := 2) (N := some 86) (v := ?_) (a' := ?_) #[true, false, true, false, false, false, false, false, false, false, false, false] rfl rfl (any_of HT_.out (by kernel_rfl)) (fun _ _ _ h => h) (Or.inl ⟨by rfl, ?_⟩) ?_ ?_
                    rotate_left
                    ·
                     intro w'
                     go_simp
                     with_reducible rfl
                    rotate_left
                    ·
                     simp only [Act.put, List.setIfInBounds_toArray, List.set_cons_zero, List.set_cons_succ, i64_w, i32_w]
                     rfl
                    refine pure_ (i := 5) (N := some 89) (v := ?_) (a' := ?_) #[true, false, true, false, false, true, false, false, false, false, false, false] rfl rfl (any_of HT_.out (by kernel_rfl)) (fun _ _ _ h => h) (Or.inl ⟨by rfl, ?_⟩) ?_ ?_
                    rotate_left
                    ·
                     intro w'
                     go_simp
                     with_reducible rfl
                    rotate_left
                    ·
                     simp only [Act.put, List.setIfInBounds_toArray, List.set_cons_zero, List.set_cons_succ, i64_w, i32_w]
                     rfl
                    refine pure_ (i := 7) (N := some 91) (v := ?_) (a' := ?_) #[true, false, true, false, false, true, false, true, false, false, false, false] rfl rfl (any_of HT_.out (by kernel_rfl)) (fun _ _ _ h => h) (Or.inl ⟨by rfl, ?_⟩) ?_ ?_
                    rotate_left
                    ·
                     intro w'
                     go_simp
                     with_reducible rfl
                    rotate_left
                    ·
                     simp only [Act.put, List.setIfInBounds_toArray, List.set_cons_zero, List.set_cons_succ, i64_w, i32_w]
                     rfl
                    refine take_ (i := 1) (N := some 85) (v := ?_) (a' := ?_) #[true, true, true, false, false, true, false, true, false, false, false, false] rfl rfl (take_ofW HT_.out HW_.out (by kernel_rfl)) (fun _ _ _ h => h) (Or.inl ⟨by rfl, ?_⟩) hHeld ?_ ?_
                    rotate_left
                    ·
                     rintro w' ⟨s0, s1, s2, s3, s4, s5, s6, s7, s8, s9, s10, s11, s12, s13⟩
                     go_simp
                     with_reducible rfl
                    rotate_left
                    ·
                     simp only [Act.put, List.setIfInBounds_toArray, List.set_cons_zero, List.set_cons_succ, i64_w, i32_w]
                     rfl
                    refine pure_ (i := 3) (N := some 87) (v := ?_) (a' := ?_) #[true, true, true, true, false, true, false, true, false, false, false, false] rfl rfl (any_of HT_.out (by kernel_rfl)) (fun _ _ _ h => h) (Or.inl ⟨by rfl, ?_⟩) ?_ ?_
                    rotate_left
                    ·
                     intro w'
                     go_simp
                     with_reducible rfl
                    rotate_left
                    ·
                     simp only [Act.put, List.setIfInBounds_toArray, List.set_cons_zero, List.set_cons_succ, i64_w, i32_w]
                     rfl
                    refine take_ (i := 4) (N := some 88) (v := ?_) (a' := ?_) #[true, true, true, true, true, true, false, true, false, false, false, false] rfl rfl (take_ofW HT_.out HW_.out (by kernel_rfl)) (fun _ _ _ h => h) (Or.inl ⟨by rfl, ?_⟩) hHeld ?_ ?_
                    rotate_left
                    ·
                     rintro w' ⟨s0, s1, s2, s3, s4, s5, s6, s7, s8, s9, s10, s11, s12, s13⟩
                     go_simp
                     with_reducible rfl
                    rotate_left
                    ·
                     simp only [Act.put, List.setIfInBounds_toArray, List.set_cons_zero, List.set_cons_succ, i64_w, i32_w]
                     rfl
                    refine take_ (i := 6) (N := some 90) (v := ?_) (a' := ?_) #[true, true, true, true, true, true, true, true, false, false, false, false] rfl rfl (take_ofW HT_.out HW_.out (by kernel_rfl)) (fun _ _ _ h => h) (Or.inl ⟨by rfl, ?_⟩) hHeld ?_ ?_
                    rotate_left
                    ·
                     rintro w' ⟨s0, s1, s2, s3, s4, s5, s6, s7, s8, s9, s10, s11, s12, s13⟩
                     go_simp
                     with_reducible rfl
                    rotate_left
                    ·
                     simp only [Act.put, List.setIfInBounds_toArray, List.set_cons_zero, List.set_cons_succ, i64_w, i32_w]
                     rfl
                    refine pure_ (i := 8) (N := some 92) (v := ?_) (a' := ?_) #[true, true, true, true, true, true, true, true, true, false, false, false] rfl rfl (any_of HT_.out (by kernel_rfl)) (fun _ _ _ h => h) (Or.inl ⟨by rfl, ?_⟩) ?_ ?_
                    rotate_left
                    ·
                     intro w'
                     go_simp
                     with_reducible rfl
                    rotate_left
                    ·
                     simp only [Act.put, List.setIfInBounds_toArray, List.set_cons_zero, List.set_cons_succ, i64_w, i32_w]
                     rfl
                    refine take_ (i := 9) (N := some 93) (v := ?_) (a' := ?_) #[true, true, true, true, true, true, true, true, true, true, false, false] rfl rfl (take_ofW HT_.out HW_.out (by kernel_rfl)) (fun _ _ _ h => h) (Or.inl ⟨by rfl, ?_⟩) hHeld ?_ ?_
                    rotate_left
                    ·
                     rintro w' ⟨s0, s1, s2, s3, s4, s5, s6, s7, s8, s9, s10, s11, s12, s13⟩
                     go_simp
                     with_reducible rfl
                    rotate_left
                    ·
                     simp only [Act.put, List.setIfInBounds_toArray, List.set_cons_zero, List.set_cons_succ, i64_w, i32_w]
                     rfl
                    refine one_ (i := 10) (N := some 94) #[true, true, true, true, true, true, true, true, true, true, true, false] rfl rfl (one_of HT_.out (by kernel_rfl)) (by decide) (fun K hK => ?_)
                    refine goes_ Try.func42 (by kernel_rfl) rfl #[.agg #[.int .i64 ((rd_T94 ((rd_T88 l0_3 x51_2).f1) x81_4).f0), .string ((rd_T94 ((rd_T88 l0_3 x51_2).f1) x81_4).f1), .int .i64 ((rd_T94 ((rd_T88 l0_3 x51_2).f1) x81_4).f2), .string ((rd_T94 ((rd_T88 l0_3 x51_2).f1) x81_4).f3), .slice A297_4 ((rd_T94 ((rd_T88 l0_3 x51_2).f1) x81_4).f4).length c297_4], .agg #[.int .i64 ((rd_T94 ((rd_T88 l1_3 x51_2).f1) x81_4).f0), .string ((rd_T94 ((rd_T88 l1_3 x51_2).f1) x81_4).f1), .int .i64 ((rd_T94 ((rd_T88 l1_3 x51_2).f1) x81_4).f2), .string ((rd_T94 ((rd_T88 l1_3 x51_2).f1) x81_4).f3), .slice A298_4 ((rd_T94 ((rd_T88 l1_3 x51_2).f1) x81_4).f4).length c298_4]] (by rfl) rfl rfl (by (try simp only [List.map_toArray, List.map_cons, List.map_nil]); first | done | rfl | (simp only [List.length_drop, List.length_take]; rfl)) ?_
                    with_reducible refine (pentaglotref33_SamePiece.calls k4 ((rd_T94 ((rd_T88 l0_3 x51_2).f1) x81_4).f0) ((rd_T94 ((rd_T88 l0_3 x51_2).f1) x81_4).f1) ((rd_T94 ((rd_T88 l0_3 x51_2).f1) x81_4).f2) ((rd_T94 ((rd_T88 l0_3 x51_2).f1) x81_4).f3) _ _ ((rd_T94 ((rd_T88 l0_3 x51_2).f1) x81_4).f4) ((rd_T94 ((rd_T88 l1_3 x51_2).f1) x81_4).f0) ((rd_T94 ((rd_T88 l1_3 x51_2).f1) x81_4).f1) ((rd_T94 ((rd_T88 l1_3 x51_2).f1) x81_4).f2) ((rd_T94 ((rd_T88 l1_3 x51_2).f1) x81_4).f3) _ _ ((rd_T94 ((rd_T88 l1_3 x51_2).f1) x81_4).f4) true _ ?s1 ?s2 ?s3 ?s4 A67.out).mono ?_
                    (case s1 => exact tC HR297_4 HB)
                    (case s2 => exact HC297_4.out)
                    (case s3 => exact tC HR298_4 HB)
                    (case s4 => exact HC298_4.out)
                    rintro e w70 ⟨rfl, hb⟩
                    refine ⟨_, rfl, ?_⟩
                    have n0_ := Aside0.mk (blk_below (tK BK289) hb)
                    have n1_ := Aside0.mk (blk_below (tK BK290) hb)
                    have n2_ := Aside0.mk (blk_below (tK BK295) hb)
                    have n3_ := Aside0.mk (blk_below (tK BK296) hb)
                    have n4_ := Aside0.mk (below_step (tB HB) hb)
                    revert n0_ n1_ n2_ n3_ n4_
                    clear BK289 BK290 BK295 BK296 HB
                    intro BK289 BK290 BK295 BK296 HB
                    (try clear hb)
                    refine hK.out _ _ ⟨(blk_cell BK295.out 0).trans rfl, (blk_cell BK295.out 1).trans rfl, (blk_cell BK296.out 0).trans rfl, (blk_cell BK296.out 1).trans rfl, ((HB.out.cell (World.block_lt_of_cell? w _ hw297_0)).trans hw297_0), ((HB.out.cell (World.block_lt_of_cell? w _ hw297_1)).trans hw297_1), ((HB.out.cell (World.block_lt_of_cell? w _ hw297_2)).trans hw297_2), ((HB.out.cell (World.block_lt_of_cell? w _ hw297_3)).trans hw297_3), ((HB.out.cell (World.block_lt_of_cell? w _ hw297_4)).trans hw297_4), ((HB.out.cell (World.block_lt_of_cell? w _ hw298_0)).trans hw298_0), ((HB.out.cell (World.block_lt_of_cell? w _ hw298_1)).trans hw298_1), ((HB.out.cell (World.block_lt_of_cell? w _ hw298_2)).trans hw298_2), ((HB.out.cell (World.block_lt_of_cell? w _ hw298_3)).trans hw298_3), ((HB.out.cell (World.block_lt_of_cell? w _ hw298_4)).trans hw298_4)⟩ (fun hHeld => ?_)
                    clear hK K
                    refine norm_ (a' := ?_) ?_ ?_
                    rotate_left
                    ·
                     show Act.put _ (some 94) _ = _
                     simp only [Act.put, List.setIfInBounds_toArray, List.set_cons_zero, List.set_cons_succ, i64_w, i32_w]
                     rfl
                    refine pure_ (i := 11) (N := some 95) (v := ?_) (a' := ?_) #[true, true, true, true, true, true, true, true, true, true, true, true] rfl rfl (any_of HT_.out (by kernel_rfl)) (fun _ _ _ h => h) (Or.inl ⟨by rfl, ?_⟩) ?_ ?_
                    rotate_left
                    ·
                     intro w'
                     go_simp
                     with_reducible rfl
                    rotate_left
                    ·
                     simp only [Act.put, List.setIfInBounds_toArray, List.set_cons_zero, List.set_cons_succ, i64_w, i32_w]
                     rfl
                    refine done_ (done_of HT_.out (by kernel_rfl)) ?_
                    try go_wp2
                    go_roundg k4
                    case measure => have := HJ2.out; have := HK2.out; have := HJ33.out; have := HK4.out; omega
                    case rel => exact ⟨(wrap64 (x81_4 + 1)), tV1, H', ⟨by have := HJ2.out; have := HK2.out; have := HJ33.out; have := HK4.out; omega⟩, ⟨tK BK289⟩, ⟨tK BK290⟩, ⟨tK BK295⟩, ⟨tK BK296⟩, ⟨tB HB⟩⟩
                   ·
                    replace c68 := Bool.eq_false_iff.mpr c68
                    subst c68
                    rw [if_neg (show ¬ (false = true) by decide)] at H
                    obtain rfl := Option.some.inj H
                    try go_wp2
                    have n0_ := Aside0.mk (blk_drew BK289.out)
                    have n1_ := Aside0.mk (blk_drew BK290.out)
                    have n2_ := Aside0.mk (blk_drew BK295.out)
                    have n3_ := Aside0.mk (blk_drew BK296.out)
                    have n4_ := Aside0.mk (below_drew1 HB.out)
                    revert n0_ n1_ n2_ n3_ n4_
                    clear BK289 BK290 BK295 BK296 HB
                    intro BK289 BK290 BK295 BK296 HB
                    have p297 : 0 ≤ (x81_4 : Int) := oD
                    have q297 : x81_4 < (((rd_T88 l0_3 x51_2).f1).length : Int) := oD
                    obtain ⟨ad297, A297_4, c297_4, e297, hx297_0, hx297_1, hx297_2, hx297_3, hx297_4, hl297_4, hi297_4⟩ := at_T94 HR293_1.out x81_4 p297 q297
                    have hw297_4 := hx297_4
                    have hw297_3 := hx297_3
                    have hw297_2 := hx297_2
                    have hw297_1 := hx297_1
                    have hw297_0 := hx297_0
                    cases e297
                    replace hx297_0 := celB HB hx297_0
                    replace hx297_1 := celB HB hx297_1
                    replace hx297_2 := celB HB hx297_2
                    replace hx297_3 := celB HB hx297_3
                    replace hx297_4 := celB HB hx297_4
                    have HR297_4 := Aside0.mk hi297_4
                    have HC297_4 := Aside0.mk hl297_4
                    clear hi297_4 hl297_4
                    replace p297 := eq_true p297
                    replace q297 := eq_true q297
                    have p298 : 0 ≤ (x81_4 : Int) := oD
                    have q298 : x81_4 < (((rd_T88 l1_3 x51_2).f1).length : Int) := oD
                    obtain ⟨ad298, A298_4, c298_4, e298, hx298_0, hx298_1, hx298_2, hx298_3, hx298_4, hl298_4, hi298_4⟩ := at_T94 HR294_1.out x81_4 p298 q298
                    have hw298_4 := hx298_4
                    have hw298_3 := hx298_3
                    have hw298_2 := hx298_2
                    have hw298_1 := hx298_1
                    have hw298_0 := hx298_0
                    cases e298
                    replace hx298_0 := celB HB hx298_0
                    replace hx298_1 := celB HB hx298_1
                    replace hx298_2 := celB HB hx298_2
                    replace hx298_3 := celB HB hx298_3
                    replace hx298_4 := celB HB hx298_4
                    have HR298_4 := Aside0.mk hi298_4
                    have HC298_4 := Aside0.mk hl298_4
                    clear hi298_4 hl298_4
                    replace p298 := eq_true p298
                    replace q298 := eq_true q298
                    refine start_ (n := 12) (S := fun w' => w'.cell? ⟨gb295, 0, none⟩ = some (.string ((rd_T88 l0_3 x51_2).f0)) ∧ w'.cell? ⟨gb295, 1, none⟩ = some (.slice (some ad297) ((rd_T88 l0_3 x51_2).f1).length c293_1) ∧ w'.cell? ⟨gb296, 0, none⟩ = some (.string ((rd_T88 l1_3 x51_2).f0)) ∧ w'.cell? ⟨gb296, 1, none⟩ = some (.slice (some ad298) ((rd_T88 l1_3 x51_2).f1).length c294_1) ∧ w'.cell? (ad297.add ((x81_4).toNat * 5)) = some (.int .i64 ((rd_T94 ((rd_T88 l0_3 x51_2).f1) x81_4).f0)) ∧ w'.cell? ⟨(ad297.add ((x81_4).toNat * 5)).block, (ad297.add ((x81_4).toNat * 5)).off + 1, none⟩ = some (.string ((rd_T94 ((rd_T88 l0_3 x51_2).f1) x81_4).f1)) ∧ w'.cell? ⟨(ad297.add ((x81_4).toNat * 5)).block, (ad297.add ((x81_4).toNat * 5)).off + 2, none⟩ = some (.int .i64 ((rd_T94 ((rd_T88 l0_3 x51_2).f1) x81_4).f2)) ∧ w'.cell? ⟨(ad297.add ((x81_4).toNat * 5)).block, (ad297.add ((x81_4).toNat * 5)).off + 3, none⟩ = some (.string ((rd_T94 ((rd_T88 l0_3 x51_2).f1) x81_4).f3)) ∧ w'.cell? ⟨(ad297.add ((x81_4).toNat * 5)).block, (ad297.add ((x81_4).toNat * 5)).off + 4, none⟩ = some (.slice A297_4 ((rd_T94 ((rd_T88 l0_3 x51_2).f1) x81_4).f4).length c297_4) ∧ w'.cell? (ad298.add ((x81_4).toNat * 5)) = some (.int .i64 ((rd_T94 ((rd_T88 l1_3 x51_2).f1) x81_4).f0)) ∧ w'.cell? ⟨(ad298.add ((x81_4).toNat * 5)).block, (ad298.add ((x81_4).toNat * 5)).off + 1, none⟩ = some (.string ((rd_T94 ((rd_T88 l1_3 x51_2).f1) x81_4).f1)) ∧ w'.cell? ⟨(ad298.add ((x81_4).toNat * 5)).block, (ad298.add ((x81_4).toNat * 5)).off + 2, none⟩ = some (.int .i64 ((rd_T94 ((rd_T88 l1_3 x51_2).f1) x81_4).f2)) ∧ w'.cell? ⟨(ad298.add ((x81_4).toNat * 5)).block, (ad298.add ((x81_4).toNat * 5)).off + 3, none⟩ = some (.string ((rd_T94 ((rd_T88 l1_3 x51_2).f1) x81_4).f3)) ∧ w'.cell? ⟨(ad298.add ((x81_4).toNat * 5)).block, (ad298.add ((x81_4).toNat * 5)).off + 4, none⟩ = some (.slice A298_4 ((rd_T94 ((rd_T88 l1_3 x51_2).f1) x81_4).f4).length c298_4)) (ds := []) #[false, false, false, false, false, false, false, false, false, false, false, false] (by kernel_rfl) rfl rfl ⟨(blk_cell BK295.out 0).trans rfl, (blk_cell BK295.out 1).trans rfl, (blk_cell BK296.out 0).trans rfl, (blk_cell BK296.out 1).trans rfl, ((HB.out.cell (World.block_lt_of_cell? w _ hw297_0)).trans hw297_0), ((HB.out.cell (World.block_lt_of_cell? w _ hw297_1)).trans hw297_1), ((HB.out.cell (World.block_lt_of_cell? w _ hw297_2)).trans hw297_2), ((HB.out.cell (World.block_lt_of_cell? w _ hw297_3)).trans hw297_3), ((HB.out.cell (World.block_lt_of_cell? w _ hw297_4)).trans hw297_4), ((HB.out.cell (World.block_lt_of_cell? w _ hw298_0)).trans hw298_0), ((HB.out.cell (World.block_lt_of_cell? w _ hw298_1)).trans hw298_1), ((HB.out.cell (World.block_lt_of_cell? w _ hw298_2)).trans hw298_2), ((HB.out.cell (World.block_lt_of_cell? w _ hw298_3)).trans hw298_3), ((HB.out.cell (World.block_lt_of_cell? w _ hw298_4)).trans hw298_4)⟩ (fun hHeld => ?_); refine with_tabW pentaglotref33_SameRule.tab12 pentaglotref33_SameRule.bits12 (fun HT_ HW_ => ?_)
                    generalize wr.drew = w71 at BK289 BK290 BK295 BK296 HB HR297_4 HR298_4 hx297_0 hx297_1 hx297_2 hx297_3 hx297_4 hx298_0 hx298_1 hx298_2 hx298_3 hx298_4 hHeld ⊢
                    refine pure_ (i := 0) (N := some 84) (v := ?_) (a' := ?_) #[true, false, false, false, false, false, false, false, false, false, false, false] rfl rfl (any_of HT_.out (by kernel_rfl)) (fun _ _ _ h => h) (Or.inl ⟨by rfl, ?_⟩) ?_ ?_
                    rotate_left
                    ·
                     intro w'
                     go_simp
                     with_reducible rfl
                    rotate_left
                    ·
                     simp only [Act.put, List.setIfInBounds_toArray, List.set_cons_zero, List.set_cons_succ, i64_w, i32_w]
                     rfl
                    refine pure_ (i := 2) (N := some 86) (v := ?_) (a' := ?_) #[true, false, true, false, false, false, false, false, false, false, false, false] rfl rfl (any_of HT_.out (by kernel_rfl)) (fun _ _ _ h => h) (Or.inl ⟨by rfl, ?_⟩) ?_ ?_
                    rotate_left
                    ·
                     intro w'
                     go_simp
                     with_reducible rfl
                    rotate_left
                    ·
                     simp only [Act.put, List.setIfInBounds_toArray, List.set_cons_zero, List.set_cons_succ, i64_w, i32_w]
                     rfl
                    refine pure_ (i := 5) (N := some 89) (v := ?_) (a' := ?_) #[true, false, true, false, false, true, false, false, false, false, false, false] rfl rfl (any_of HT_.out (by kernel_rfl)) (fun _ _ _ h => h) (Or.inl ⟨by rfl, ?_⟩) ?_ ?_
                    rotate_left
                    ·
                     intro w'
                     go_simp
                     with_reducible rfl
                    rotate_left
                    ·
                     simp only [Act.put, List.setIfInBounds_toArray, List.set_cons_zero, List.set_cons_succ, i64_w, i32_w]
                     rfl
                    refine pure_ (i := 7) (N := some 91) (v := ?_) (a' := ?_) #[true, false, true, false, false, true, false, true, false, false, false, false] rfl rfl (any_of HT_.out (by kernel_rfl)) (fun _ _ _ h => h) (Or.inl ⟨by rfl, ?_⟩) ?_ ?_
                    rotate_left
                    ·
                     intro w'
                     go_simp
                     with_reducible rfl
                    rotate_left
                    ·
                     simp only [Act.put, List.setIfInBounds_toArray, List.set_cons_zero, List.set_cons_succ, i64_w, i32_w]
                     rfl
                    refine take_ (i := 1) (N := some 85) (v := ?_) (a' := ?_) #[true, true, true, false, false, true, false, true, false, false, false, false] rfl rfl (take_ofW HT_.out HW_.out (by kernel_rfl)) (fun _ _ _ h => h) (Or.inl ⟨by rfl, ?_⟩) hHeld ?_ ?_
                    rotate_left
                    ·
                     rintro w' ⟨s0, s1, s2, s3, s4, s5, s6, s7, s8, s9, s10, s11, s12, s13⟩
                     go_simp
                     with_reducible rfl
                    rotate_left
                    ·
                     simp only [Act.put, List.setIfInBounds_toArray, List.set_cons_zero, List.set_cons_succ, i64_w, i32_w]
                     rfl
                    refine pure_ (i := 3) (N := some 87) (v := ?_) (a' := ?_) #[true, true, true, true, false, true, false, true, false, false, false, false] rfl rfl (any_of HT_.out (by kernel_rfl)) (fun _ _ _ h => h) (Or.inl ⟨by rfl, ?_⟩) ?_ ?_
                    rotate_left
                    ·
                     intro w'
                     go_simp
                     with_reducible rfl
                    rotate_left
                    ·
                     simp only [Act.put, List.setIfInBounds_toArray, List.set_cons_zero, List.set_cons_succ, i64_w, i32_w]
                     rfl
                    refine take_ (i := 4) (N := some 88) (v := ?_) (a' := ?_) #[true, true, true, true, true, true, false, true, false, false, false, false] rfl rfl (take_ofW HT_.out HW_.out (by kernel_rfl)) (fun _ _ _ h => h) (Or.inl ⟨by rfl, ?_⟩) hHeld ?_ ?_
                    rotate_left
                    ·
                     rintro w' ⟨s0, s1, s2, s3, s4, s5, s6, s7, s8, s9, s10, s11, s12, s13⟩
                     go_simp
                     with_reducible rfl
                    rotate_left
                    ·
                     simp only [Act.put, List.setIfInBounds_toArray, List.set_cons_zero, List.set_cons_succ, i64_w, i32_w]
                     rfl
                    refine take_ (i := 6) (N := some 90) (v := ?_) (a' := ?_) #[true, true, true, true, true, true, true, true, false, false, false, false] rfl rfl (take_ofW HT_.out HW_.out (by kernel_rfl)) (fun _ _ _ h => h) (Or.inl ⟨by rfl, ?_⟩) hHeld ?_ ?_
                    rotate_left
                    ·
                     rintro w' ⟨s0, s1, s2, s3, s4, s5, s6, s7, s8, s9, s10, s11, s12, s13⟩
                     go_simp
                     with_reducible rfl
                    rotate_left
                    ·
                     simp only [Act.put, List.setIfInBounds_toArray, List.set_cons_zero, List.set_cons_succ, i64_w, i32_w]
                     rfl
                    refine pure_ (i := 8) (N := some 92) (v := ?_) (a' := ?_) #[true, true, true, true, true, true, true, true, true, false, false, false] rfl rfl (any_of HT_.out (by kernel_rfl)) (fun _ _ _ h => h) (Or.inl ⟨by rfl, ?_⟩) ?_ ?_
                    rotate_left
                    ·
                     intro w'
                     go_simp
                     with_reducible rfl
                    rotate_left
                    ·
                     simp only [Act.put, List.setIfInBounds_toArray, List.set_cons_zero, List.set_cons_succ, i64_w, i32_w]
                     rfl
                    refine take_ (i := 9) (N := some 93) (v := ?_) (a' := ?_) #[true, true, true, true, true, true, true, true, true, true, false, false] rfl rfl (take_ofW HT_.out HW_.out (by kernel_rfl)) (fun _ _ _ h => h) (Or.inl ⟨by rfl, ?_⟩) hHeld ?_ ?_
                    rotate_left
                    ·
                     rintro w' ⟨s0, s1, s2, s3, s4, s5, s6, s7, s8, s9, s10, s11, s12, s13⟩
                     go_simp
                     with_reducible rfl
                    rotate_left
                    ·
                     simp only [Act.put, List.setIfInBounds_toArray, List.set_cons_zero, List.set_cons_succ, i64_w, i32_w]
                     rfl
                    refine one_ (i := 10) (N := some 94) #[true, true, true, true, true, true, true, true, true, true, true, false] rfl rfl (one_of HT_.out (by kernel_rfl)) (by decide) (fun K hK => ?_)
                    refine goes_ Try.func42 (by kernel_rfl) rfl #[.agg #[.int .i64 ((rd_T94 ((rd_T88 l0_3 x51_2).f1) x81_4).f0), .string ((rd_T94 ((rd_T88 l0_3 x51_2).f1) x81_4).f1), .int .i64 ((rd_T94 ((rd_T88 l0_3 x51_2).f1) x81_4).f2), .string ((rd_T94 ((rd_T88 l0_3 x51_2).f1) x81_4).f3), .slice A297_4 ((rd_T94 ((rd_T88 l0_3 x51_2).f1) x81_4).f4).length c297_4], .agg #[.int .i64 ((rd_T94 ((rd_T88 l1_3 x51_2).f1) x81_4).f0), .string ((rd_T94 ((rd_T88 l1_3 x51_2).f1) x81_4).f1), .int .i64 ((rd_T94 ((rd_T88 l1_3 x51_2).f1) x81_4).f2), .string ((rd_T94 ((rd_T88 l1_3 x51_2).f1) x81_4).f3), .slice A298_4 ((rd_T94 ((rd_T88 l1_3 x51_2).f1) x81_4).f4).length c298_4]] (by rfl) rfl rfl (by (try simp only [List.map_toArray, List.map_cons, List.map_nil]); first | done | rfl | (simp only [List.length_drop, List.length_take]; rfl)) ?_
                    with_reducible refine (pentaglotref33_SamePiece.calls k4 ((rd_T94 ((rd_T88 l0_3 x51_2).f1) x81_4).f0) ((rd_T94 ((rd_T88 l0_3 x51_2).f1) x81_4).f1) ((rd_T94 ((rd_T88 l0_3 x51_2).f1) x81_4).f2) ((rd_T94 ((rd_T88 l0_3 x51_2).f1) x81_4).f3) _ _ ((rd_T94 ((rd_T88 l0_3 x51_2).f1) x81_4).f4) ((rd_T94 ((rd_T88 l1_3 x51_2).f1) x81_4).f0) ((rd_T94 ((rd_T88 l1_3 x51_2).f1) x81_4).f1) ((rd_T94 ((rd_T88 l1_3 x51_2).f1) x81_4).f2) ((rd_T94 ((rd_T88 l1_3 x51_2).f1) x81_4).f3) _ _ ((rd_T94 ((rd_T88 l1_3 x51_2).f1) x81_4).f4) false _ ?s1 ?s2 ?s3 ?s4 A67.out).mono ?_
                    (case s1 => exact tC HR297_4 HB)
                    (case s2 => exact HC297_4.out)
                    (case s3 => exact tC HR298_4 HB)
                    (case s4 => exact HC298_4.out)
                    rintro e w72 ⟨rfl, hb⟩
                    refine ⟨_, rfl, ?_⟩
                    have n0_ := Aside0.mk (blk_below (tK BK289) hb)
                    have n1_ := Aside0.mk (blk_below (tK BK290) hb)
                    have n2_ := Aside0.mk (blk_below (tK BK295) hb)
                    have n3_ := Aside0.mk (blk_below (tK BK296) hb)
                    have n4_ := Aside0.mk (below_step (tB HB) hb)
                    revert n0_ n1_ n2_ n3_ n4_
                    clear BK289 BK290 BK295 BK296 HB
                    intro BK289 BK290 BK295 BK296 HB
                    (try clear hb)
                    refine hK.out _ _ ⟨(blk_cell BK295.out 0).trans rfl, (blk_cell BK295.out 1).trans rfl, (blk_cell BK296.out 0).trans rfl, (blk_cell BK296.out 1).trans rfl, ((HB.out.cell (World.block_lt_of_cell? w _ hw297_0)).trans hw297_0), ((HB.out.cell (World.block_lt_of_cell? w _ hw297_1)).trans hw297_1), ((HB.out.cell (World.block_lt_of_cell? w _ hw297_2)).trans hw297_2), ((HB.out.cell (World.block_lt_of_cell? w _ hw297_3)).trans hw297_3), ((HB.out.cell (World.block_lt_of_cell? w _ hw297_4)).trans hw297_4), ((HB.out.cell (World.block_lt_of_cell? w _ hw298_0)).trans hw298_0), ((HB.out.cell (World.block_lt_of_cell? w _ hw298_1)).trans hw298_1), ((HB.out.cell (World.block_lt_of_cell? w _ hw298_2)).trans hw298_2), ((HB.out.cell (World.block_lt_of_cell? w _ hw298_3)).trans hw298_3), ((HB.out.cell (World.block_lt_of_cell? w _ hw298_4)).trans hw298_4)⟩ (fun hHeld => ?_)
                    clear hK K
                    refine norm_ (a' := ?_) ?_ ?_
                    rotate_left
                    ·
                     show Act.put _ (some 94) _ = _
                     simp only [Act.put, List.setIfInBounds_toArray, List.set_cons_zero, List.set_cons_succ, i64_w, i32_w]
                     rfl
                    refine pure_ (i := 11) (N := some 95) (v := ?_) (a' := ?_) #[true, true, true, true, true, true, true, true, true, true, true, true] rfl rfl (any_of HT_.out (by kernel_rfl)) (fun _ _ _ h => h) (Or.inl ⟨by rfl, ?_⟩) ?_ ?_
                    rotate_left
                    ·
                     intro w'
                     go_simp
                     with_reducible rfl
                    rotate_left
                    ·
                     simp only [Act.put, List.setIfInBounds_toArray, List.set_cons_zero, List.set_cons_succ, i64_w, i32_w]
                     rfl
                    refine done_ (done_of HT_.out (by kernel_rfl)) ?_
                    try go_wp2
                    go_ret
                    exact ⟨tE, by repeat (first | (with_reducible first | exact HB.out | apply below_alloc | apply pw_below_drewN | apply below_drew1 | refine below_set ?_ GE289.out | refine below_set ?_ GE290.out | refine below_set ?_ GE295.out | refine below_set ?_ GE296.out) | exact HB.out)⟩
                  ·
                   rw [if_neg c66] at H
                   exact absurd H (by simp)
                 ·
                  rw [if_neg c65] at H
                  exact absurd H (by simp)
                ·
                 rw [if_neg c64] at H
                 exact absurd H (by simp)
               ·
                rw [if_neg c63] at H
                have c63b0 : decide (x81_4 < (((rd_T88 l0_3 x51_2).f1).length : Int)) = false := decide_eq_false c63
                clear c63
                have H' := Aside0.mk H
                clear H
                go_wp2
                go_roundg k4
                case measure => have := HJ2.out; have := HK2.out; have := HJ33.out; have := HK4.out; omega
                case rel => exact ⟨(wrap64 (x51_2 + 1)), tV1, H', ⟨by have := HJ2.out; have := HK2.out; have := HJ33.out; have := HK4.out; omega⟩, ⟨tK BK289⟩, ⟨tK BK290⟩, ⟨tB HB⟩⟩
         ·
          rw [if_neg c33] at H
          exact absurd H (by simp)
        ·
         rw [if_neg c32] at H
         exact absurd H (by simp)
       ·
        rw [if_neg c31] at H
        exact absurd H (by simp)
      ·
       rw [if_neg c30] at H
       have c30b0 : decide (x51_2 < (l0_3.length : Int)) = false := decide_eq_false c30
       clear c30
       obtain rfl := Option.some.inj H
       go_wp2
       go_ret
       exact ⟨tE, by repeat (first | (with_reducible first | exact HB.out | apply below_alloc | apply pw_below_drewN | apply below_drew1 | refine below_set ?_ GE289.out | refine below_set ?_ GE290.out) | exact HB.out)⟩

end Go.Proofs.Ytfbfopfhfeijdaa.Pr
