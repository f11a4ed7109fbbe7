-- Written by a program of this session (ownprint.py, over the kit's printer). Not trusted: Lean checks it.
import Derived.Test.YtfbfopfhfeijdaaPr0
import Derived.Test.YtfbfopfhfeijdaaCt
import Derived.Test.YtfbfopfhfeijdaaPrF41
namespace Go.Proofs.Ytfbfopfhfeijdaa.Pr
open Go.Proofs.Ytfbfopfhfeijdaa.Ct Go.RowKit Go.Proofs.YtfbfopfhfeijdaaW.PrintWords Go.Proofs.YtfbfopfhfeijdaaW.PrintLast Go.Proofs.YtfbfopfhfeijdaaW.PrintMore
attribute [local go_sem] max2_int min2_int max_two min_two max_three min_three max_four min_four   -- for this text's walks alone
set_option linter.unusedVariables false
set_option linter.unusedSimpArgs false

/-! ### concrete_Rules: function 27 -/
def concrete_Rules.l0 : Nat → ByteArray → List (S33) → List (S33) → Int → Int → Option ((List (S33)))
 | 0, _, _, _, _, _ => none
 | k + 1, x1, x5, x9, x10, x11 => if x11 < x10 then (if 0 ≤ x11 then (if x11 < (x9.length : Int) then (if ((rd_T33 x9 x11).f0).toList = x1.toList then ((concrete_copiedRule.f k ((rd_T33 x9 x11).f0) ((rd_T33 x9 x11).f1) ((rd_T33 x9 x11).f2) ((rd_T33 x9 x11).f3)).bind fun bt376 => (if x5.length < 1599289640401 then (concrete_Rules.l0 k x1 (x5 ++ [(⟨bt376.1, bt376.2.1, bt376.2.2.1, bt376.2.2.2⟩ : S33)]) x9 x10 (wrap64 (x11 + 1))) else (none))) else (concrete_Rules.l0 k x1 x5 x9 x10 (wrap64 (x11 + 1)))) else (none)) else (none)) else (some x5)
def concrete_Rules.f (k : Nat) (a0_0 : ByteArray) (a0_1 : Bool) (l0_2 : List (S173)) (l0_3 : List (S176)) (l0_4 : List (S179)) (l0_5 : List (S181)) (l0_6 : List (List Int)) (a0_7 : Int) (a0_8 : Int) (l0_9 : List (S176)) (a0_10 : Int) (l0_11 : List ByteArray) (l0_12 : List ByteArray) (a0_13 : Bool) (a0_14 : ByteArray) (a0_15 : Int) (a0_16 : ByteArray) (a0_17 : Bool) (a0_18 : Int) (a0_19 : Int) (l0_20 : List (S184)) (l0_21 : List (S184)) (l0_22 : List ByteArray) (l0_23 : List ByteArray) (l0_24 : List ByteArray) (a0_25 : Bool) (l0_26 : List (S186)) (l0_27 : List (S68)) (l0_28 : List (S33)) (a0_29 : ByteArray) (a1 : ByteArray) : Option ((List (S33))) := concrete_Rules.l0 k a1 ([] : List (S33)) l0_28 (l0_28.length : Int) 0
set_option maxHeartbeats 8000000 in
set_option maxRecDepth 100000 in
theorem concrete_Rules.calls (k : Nat) (a0_0 : ByteArray) (a0_1 : Bool) (A0_2 : Option Addr) (c0_2 : Nat) (l0_2 : List (S173)) (A0_3 : Option Addr) (c0_3 : Nat) (l0_3 : List (S176)) (A0_4 : Option Addr) (c0_4 : Nat) (l0_4 : List (S179)) (A0_5 : Option Addr) (c0_5 : Nat) (l0_5 : List (S181)) (A0_6 : Option Addr) (c0_6 : Nat) (l0_6 : List (List Int)) (a0_7 : Int) (a0_8 : Int) (A0_9 : Option Addr) (c0_9 : Nat) (l0_9 : List (S176)) (a0_10 : Int) (A0_11 : Option Addr) (c0_11 : Nat) (l0_11 : List ByteArray) (A0_12 : Option Addr) (c0_12 : Nat) (l0_12 : List ByteArray) (a0_13 : Bool) (a0_14 : ByteArray) (a0_15 : Int) (a0_16 : ByteArray) (a0_17 : Bool) (a0_18 : Int) (a0_19 : Int) (A0_20 : Option Addr) (c0_20 : Nat) (l0_20 : List (S184)) (A0_21 : Option Addr) (c0_21 : Nat) (l0_21 : List (S184)) (A0_22 : Option Addr) (c0_22 : Nat) (l0_22 : List ByteArray) (A0_23 : Option Addr) (c0_23 : Nat) (l0_23 : List ByteArray) (A0_24 : Option Addr) (c0_24 : Nat) (l0_24 : List ByteArray) (a0_25 : Bool) (A0_26 : Option Addr) (c0_26 : Nat) (l0_26 : List (S186)) (A0_27 : Option Addr) (c0_27 : Nat) (l0_27 : List (S68)) (A0_28 : Option Addr) (c0_28 : Nat) (l0_28 : List (S33)) (a0_29 : ByteArray) (a1 : ByteArray) (r : List (S33)) (w : World) (hr0_2 : Kd.C k173 w A0_2 l0_2.length l0_2) (hc0_2 : l0_2.length ≤ c0_2) (hr0_3 : Kd.C k176 w A0_3 l0_3.length l0_3) (hc0_3 : l0_3.length ≤ c0_3) (hr0_4 : Kd.C k179 w A0_4 l0_4.length l0_4) (hc0_4 : l0_4.length ≤ c0_4) (hr0_5 : Kd.C k181 w A0_5 l0_5.length l0_5) (hc0_5 : l0_5.length ≤ c0_5) (hr0_6 : Kd.C (Kd.slice 143 (Kd.int .u32)) w A0_6 l0_6.length l0_6) (hc0_6 : l0_6.length ≤ c0_6) (hr0_9 : Kd.C k176 w A0_9 l0_9.length l0_9) (hc0_9 : l0_9.length ≤ c0_9) (hr0_11 : Kd.C Kd.string w A0_11 l0_11.length l0_11) (hc0_11 : l0_11.length ≤ c0_11) (hr0_12 : Kd.C Kd.string w A0_12 l0_12.length l0_12) (hc0_12 : l0_12.length ≤ c0_12) (hr0_20 : Kd.C k184 w A0_20 l0_20.length l0_20) (hc0_20 : l0_20.length ≤ c0_20) (hr0_21 : Kd.C k184 w A0_21 l0_21.length l0_21) (hc0_21 : l0_21.length ≤ c0_21) (hr0_22 : Kd.C Kd.string w A0_22 l0_22.length l0_22) (hc0_22 : l0_22.length ≤ c0_22) (hr0_23 : Kd.C Kd.string w A0_23 l0_23.length l0_23) (hc0_23 : l0_23.length ≤ c0_23) (hr0_24 : Kd.C Kd.string w A0_24 l0_24.length l0_24) (hc0_24 : l0_24.length ≤ c0_24) (hr0_26 : Kd.C k186 w A0_26 l0_26.length l0_26) (hc0_26 : l0_26.length ≤ c0_26) (hr0_27 : Kd.C k68 w A0_27 l0_27.length l0_27) (hc0_27 : l0_27.length ≤ c0_27) (hr0_28 : Kd.C k33 w A0_28 l0_28.length l0_28) (hc0_28 : l0_28.length ≤ c0_28) (h : concrete_Rules.f k a0_0 a0_1 l0_2 l0_3 l0_4 l0_5 l0_6 a0_7 a0_8 l0_9 a0_10 l0_11 l0_12 a0_13 a0_14 a0_15 a0_16 a0_17 a0_18 a0_19 l0_20 l0_21 l0_22 l0_23 l0_24 a0_25 l0_26 l0_27 l0_28 a0_29 a1 = some r) :
 Calls Try.prog 27 #[.agg #[.string a0_0, .bool a0_1, .slice A0_2 l0_2.length c0_2, .slice A0_3 l0_3.length c0_3, .slice A0_4 l0_4.length c0_4, .slice A0_5 l0_5.length c0_5, .slice A0_6 l0_6.length c0_6, .int .i64 a0_7, .int .i64 a0_8, .slice A0_9 l0_9.length c0_9, .int .i64 a0_10, .slice A0_11 l0_11.length c0_11, .slice A0_12 l0_12.length c0_12, .bool a0_13, .string a0_14, .int .i64 a0_15, .string a0_16, .bool a0_17, .int .i64 a0_18, .int .i64 a0_19, .slice A0_20 l0_20.length c0_20, .slice A0_21 l0_21.length c0_21, .slice A0_22 l0_22.length c0_22, .slice A0_23 l0_23.length c0_23, .slice A0_24 l0_24.length c0_24, .bool a0_25, .slice A0_26 l0_26.length c0_26, .slice A0_27 l0_27.length c0_27, .slice A0_28 l0_28.length c0_28, .string a0_29], .string a1] w fun e w' => ∃ v0_ : Value, e = .returned (v0_) ∧ Kd.N k33 33 w' w.heap.size (fun k_ => (w.heap.size ≤ k_)) v0_ r ∧ Below w.heap.size w w' := by
 have hu60 := Try.underlying60
 have hu33 := Try.underlying33
 have HR0_2 := Aside0.mk hr0_2
 have HC0_2 := Aside0.mk hc0_2
 clear hr0_2 hc0_2
 have HR0_3 := Aside0.mk hr0_3
 have HC0_3 := Aside0.mk hc0_3
 clear hr0_3 hc0_3
 have HR0_4 := Aside0.mk hr0_4
 have HC0_4 := Aside0.mk hc0_4
 clear hr0_4 hc0_4
 have HR0_5 := Aside0.mk hr0_5
 have HC0_5 := Aside0.mk hc0_5
 clear hr0_5 hc0_5
 have HR0_6 := Aside0.mk hr0_6
 have HC0_6 := Aside0.mk hc0_6
 clear hr0_6 hc0_6
 have HR0_9 := Aside0.mk hr0_9
 have HC0_9 := Aside0.mk hc0_9
 clear hr0_9 hc0_9
 have HR0_11 := Aside0.mk hr0_11
 have HC0_11 := Aside0.mk hc0_11
 clear hr0_11 hc0_11
 have HR0_12 := Aside0.mk hr0_12
 have HC0_12 := Aside0.mk hc0_12
 clear hr0_12 hc0_12
 have HR0_20 := Aside0.mk hr0_20
 have HC0_20 := Aside0.mk hc0_20
 clear hr0_20 hc0_20
 have HR0_21 := Aside0.mk hr0_21
 have HC0_21 := Aside0.mk hc0_21
 clear hr0_21 hc0_21
 have HR0_22 := Aside0.mk hr0_22
 have HC0_22 := Aside0.mk hc0_22
 clear hr0_22 hc0_22
 have HR0_23 := Aside0.mk hr0_23
 have HC0_23 := Aside0.mk hc0_23
 clear hr0_23 hc0_23
 have HR0_24 := Aside0.mk hr0_24
 have HC0_24 := Aside0.mk hc0_24
 clear hr0_24 hc0_24
 have HR0_26 := Aside0.mk hr0_26
 have HC0_26 := Aside0.mk hc0_26
 clear hr0_26 hc0_26
 have HR0_27 := Aside0.mk hr0_27
 have HC0_27 := Aside0.mk hc0_27
 clear hr0_27 hc0_27
 have HR0_28 := Aside0.mk hr0_28
 have HC0_28 := Aside0.mk hc0_28
 clear hr0_28 hc0_28
 have HB := Aside0.mk (Below.refl w.heap.size w)
 have H : (concrete_Rules.l0 k a1 ([] : List (S33)) l0_28 (l0_28.length : Int) 0) = some r := h
 clear h
 have H' := Aside0.mk H
 clear H
 go_enter Try.func27, Try.ntmps27
 go_wp2_with (first | ((with_reducible refine gate_load (t := 60) (p := 2) rfl ?_); (try (refine gate_guard (by rfl) ?_; dsimp only)); refine wpList_load_row rfl 60 (.tmp 2) rfl gb373 rfl 60 _ (0, 0) _ (tK BK373) Try.underlying60 rfl (by kernel_rfl) ?_) | ((with_reducible refine gate_dst (N := 2) rfl ?_); refine box_event ?hg (N := 2) ?hd (cs := #[.string a0_0, .bool a0_1, .slice A0_2 l0_2.length c0_2, .slice A0_3 l0_3.length c0_3, .slice A0_4 l0_4.length c0_4, .slice A0_5 l0_5.length c0_5, .slice A0_6 l0_6.length c0_6, .int .i64 a0_7, .int .i64 a0_8, .slice A0_9 l0_9.length c0_9, .int .i64 a0_10, .slice A0_11 l0_11.length c0_11, .slice A0_12 l0_12.length c0_12, .bool a0_13, .string a0_14, .int .i64 a0_15, .string a0_16, .bool a0_17, .int .i64 a0_18, .int .i64 a0_19, .slice A0_20 l0_20.length c0_20, .slice A0_21 l0_21.length c0_21, .slice A0_22 l0_22.length c0_22, .slice A0_23 l0_23.length c0_23, .slice A0_24 l0_24.length c0_24, .bool a0_25, .slice A0_26 l0_26.length c0_26, .slice A0_27 l0_27.length c0_27, .slice A0_28 l0_28.length c0_28, .string a0_29]) (t := 60) ?hr ?_; (case hd => rfl); (case hg => rfl); (case hr => first | (go_simp; done) | (go_simp; rfl)); intro gb373 hg w3 hbox hb; have n0_ := Aside0.mk (below_step (tB HB) hb); have n1_ := Aside0.mk (hbox); have n2_ := tZ hg (tS HB); have n3_ := tZ hg (tS HB); revert n0_ n1_ n2_ n3_; clear HB; intro HB BK373 GW373 GE373; clear hb hbox hg; have hcz4_28 := cel2 BK373 28 rfl; have hfz4_28 := blk_frozen BK373.out 28))
 go_loopg [5, 11] k (fun kq v5 v11 w' => ∃ (x5_1 : List (S33)) (x11_1 : Int), v11 = .int .i64 x11_1 ∧ Aside0 (concrete_Rules.l0 kq a1 x5_1 l0_28 (l0_28.length : Int) x11_1 = some r) ∧ Aside0 (kq ≤ k) ∧ Aside0 (Kd.N k33 33 w' w.heap.size (fun k_ => (w.heap.size ≤ k_) ∧ k_ ≠ gb373) v5 x5_1) ∧ Aside0 (w'.heap[gb373]? = some (.cells #[.string a0_0, .bool a0_1, (.slice A0_2 l0_2.length c0_2), (.slice A0_3 l0_3.length c0_3), (.slice A0_4 l0_4.length c0_4), (.slice A0_5 l0_5.length c0_5), (.slice A0_6 l0_6.length c0_6), .int .i64 a0_7, .int .i64 a0_8, (.slice A0_9 l0_9.length c0_9), .int .i64 a0_10, (.slice A0_11 l0_11.length c0_11), (.slice A0_12 l0_12.length c0_12), .bool a0_13, .string a0_14, .int .i64 a0_15, .string a0_16, .bool a0_17, .int .i64 a0_18, .int .i64 a0_19, (.slice A0_20 l0_20.length c0_20), (.slice A0_21 l0_21.length c0_21), (.slice A0_22 l0_22.length c0_22), (.slice A0_23 l0_23.length c0_23), (.slice A0_24 l0_24.length c0_24), .bool a0_25, (.slice A0_26 l0_26.length c0_26), (.slice A0_27 l0_27.length c0_27), (.slice A0_28 l0_28.length c0_28), .string a0_29] 60 (0, 0))) ∧ Aside0 (Below w.heap.size w w'))
 case atStart => exact ⟨(([] : List (S33))), (0), tV1, H', ⟨Nat.le_refl _⟩, ⟨by first | exact Kd.R_nil _ _ _ _ _ | exact Kd.N_nil _ _ _ _ _ | exact Kd.V_nil _ _ _ _ _ | exact Kd.Q_nil _ _ _ _ _ | exact Kd.S_nil _ _ _ _ _⟩, ⟨tK BK373⟩, ⟨tB HB⟩⟩
 case round =>
  clear H'; (try clear hcz4_28); (try clear hfz4_28)
  obtain ⟨x5_1, x11_1, rfl, HA, HK1, HO_5, BK373, HB⟩ := hrel
  cases gk with
  | zero => exact absurd HA.out (by simp [concrete_Rules.l0])
  | succ k1 =>
   have H := HA.out
   clear HA
   simp only [concrete_Rules.l0] at H
   by_cases c5 : x11_1 < (l0_28.length : Int)
   ·
    rw [if_pos c5] at H
    have c5b0 : decide (x11_1 < (l0_28.length : Int)) = true := decide_eq_true c5
    clear c5
    by_cases c6 : 0 ≤ x11_1
    ·
     rw [if_pos c6] at H
     have c6b0 : decide (0 ≤ x11_1) = true := decide_eq_true c6
     clear c6
     by_cases c7 : x11_1 < (l0_28.length : Int)
     ·
      rw [if_pos c7] at H
      have c7b0 : decide (x11_1 < (l0_28.length : Int)) = true := decide_eq_true c7
      clear c7
      by_cases c8 : ((rd_T33 l0_28 x11_1).f0).toList = a1.toList
      ·
       rw [if_pos c8] at H
       have c8b0 := beq_iff_eq.mpr c8
       have c8b1 := bne_eq_false_iff_eq.mpr c8
       clear c8
       replace H := Option.bind_eq_some_iff.mp H
       obtain ⟨⟨t376, t377, t380, t383⟩, A90, H⟩ := H
       (try dsimp only at H)
       have A9 := Aside0.mk A90
       clear A90
       by_cases c10 : x5_1.length < 1599289640401
       ·
        rw [if_pos c10] at H
        have LMc10 := Aside0.mk c10
        clear c10
        obtain ⟨y386, hy386⟩ : ∃ y_ : List (S33), y_ = (x5_1 ++ [(⟨t376, t377, t380, t383⟩ : S33)]) := ⟨_, rfl⟩
        replace H : (concrete_Rules.l0 k1 a1 y386 l0_28 (l0_28.length : Int) (wrap64 (x11_1 + 1))) = some r := by first | (rw [hy386]; with_reducible exact H) | (have H2_ := (Option.bind_some _ _).symm.trans H; rw [hy386]; with_reducible exact H2_) | (have H2_ := (Option.bind_some _ _).symm.trans H; with_reducible exact H2_) | with_reducible exact H | (rw [hy386]; exact H) | exact H
        have Ny386 := Aside0.mk hy386
        clear hy386
        have H' := Aside0.mk H
        clear H
        have p374 : 0 ≤ (x11_1 : Int) := oD
        have q374 : x11_1 < (l0_28.length : Int) := oD
        obtain ⟨ad374, A374_1, c374_1, A374_2, c374_2, A374_3, c374_3, e374, hx374_0, hx374_1, hx374_2, hx374_3, hl374_1, hi374_1, hl374_2, hi374_2, hl374_3, hi374_3⟩ := at_T33 HR0_28.out x11_1 p374 q374
        cases e374
        replace hx374_0 := celB HB hx374_0
        replace hx374_1 := celB HB hx374_1
        replace hx374_2 := celB HB hx374_2
        replace hx374_3 := celB HB hx374_3
        have HR374_1 := Aside0.mk hi374_1
        have HC374_1 := Aside0.mk hl374_1
        clear hi374_1 hl374_1
        have HR374_2 := Aside0.mk hi374_2
        have HC374_2 := Aside0.mk hl374_2
        clear hi374_2 hl374_2
        have HR374_3 := Aside0.mk hi374_3
        have HC374_3 := Aside0.mk hl374_3
        clear hi374_3 hl374_3
        replace p374 := eq_true p374
        replace q374 := eq_true q374
        go_wp2_with (first | ((with_reducible refine gate_load (t := 60) (p := 2) rfl ?_); (try (refine gate_guard (by rfl) ?_; dsimp only)); refine wpList_load_row rfl 60 (.tmp 2) rfl gb373 rfl 60 _ (0, 0) _ (tK BK373) Try.underlying60 rfl (by kernel_rfl) ?_) | ((with_reducible refine gate_dst (N := 7) rfl ?_); refine box_event ?hg (N := 7) ?hd (cs := #[.string (⟨#[]⟩ : ByteArray), .slice none 0 0, .slice none 0 0, .slice none 0 0]) (t := 33) ?hr ?_; (case hd => rfl); (case hg => rfl); (case hr => first | (go_simp; done) | (go_simp; rfl)); intro gb375 hg w11 hbox hb; have n0_ := Aside0.mk (Kd.N_below (Kd.N_elderB (dN HO_5) gb375 (Nat.le_of_eq hg.symm)) hb); have n1_ := Aside0.mk (blk_below (tK BK373) hb); have n2_ := Aside0.mk (below_step (tB HB) hb); have n3_ := Aside0.mk (hbox); have n4_ := tZ hg (tS HB); have n5_ := tZ hg (tS HB); have n6_ := tL hg (tK BK373); have n7_ := tG hg (tK BK373); revert n0_ n1_ n2_ n3_ n4_ n5_ n6_ n7_; clear HO_5 BK373 HB; intro HO_5 BK373 HB BK375 GW375 GE375 NB373_375 NB375_373; clear hb hbox hg; have hnb12 := NB375_373.out; have hnc12 := NB373_375.out; have hcz13_0 := cel2 BK375 0 rfl; have hcz13_1 := cel2 BK375 1 rfl; have hcz13_2 := cel2 BK375 2 rfl; have hcz13_3 := cel2 BK375 3 rfl; have hfz13_0 := blk_frozen BK375.out 0; have hfz13_1 := blk_frozen BK375.out 1; have hfz13_2 := blk_frozen BK375.out 2; have hfz13_3 := blk_frozen BK375.out 3) | ((with_reducible refine gate_callee (f := 41) rfl ?_); refine goesL_ (some 21) rfl rfl Try.func41 (by kernel_rfl) rfl #[.agg #[.string ((rd_T33 l0_28 x11_1).f0), .slice A374_1 ((rd_T33 l0_28 x11_1).f1).length c374_1, .slice A374_2 ((rd_T33 l0_28 x11_1).f2).length c374_2, .slice A374_3 ((rd_T33 l0_28 x11_1).f3).length c374_3]] rfl (by (try simp only [List.map_toArray, List.map_cons, List.map_nil]); first | done | rfl | (simp only [List.length_drop, List.length_take]; rfl)) ?_; (with_reducible refine (concrete_copiedRule.calls k1 ((rd_T33 l0_28 x11_1).f0) _ _ ((rd_T33 l0_28 x11_1).f1) _ _ ((rd_T33 l0_28 x11_1).f2) _ _ ((rd_T33 l0_28 x11_1).f3) t376 t377 t380 t383 _ ?s1 ?s2 ?s3 ?s4 ?s5 ?s6 A9.out).mono ?_); (case s1 => exact Kd.C_below HR374_1.out (tB HB)); (case s2 => exact HC374_1.out); (case s3 => exact Kd.C_below HR374_2.out (tB HB)); (case s4 => exact HC374_2.out); (case s5 => exact Kd.C_below HR374_3.out (tB HB)); (case s6 => exact HC374_3.out); rintro e w14 ⟨v378, v381, v384, rfl, ho0, ho1, ho2, hb⟩; refine ⟨_, rfl, ?_⟩; have n0_ := Aside0.mk (Kd.N_mono (Kd.N_told (Kd.N_told (Kd.N_old (dN HO_5) hb) (Kd.N_base ho0)) (Kd.N_base ho2)) (fun _ h_ => h_.1)); have n1_ := Aside0.mk (Kd.N_lower (Kd.N_mono (ok' := fun k_ => (w.heap.size ≤ k_) ∧ some k_ ≠ (v384 : Value).ownBlock ∧ some k_ ≠ (u5 : Value).ownBlock ∧ k_ ≠ gb373 ∧ k_ ≠ gb375) ho0 (fun k_ hk_ => ⟨(Nat.le_trans (tS HB) hk_.1), hk_.2, (Kd.fresh' (Kd.N_lt (dN HO_5)) k_ hk_.1), (Kd.freshB (tK BK373) k_ hk_.1), (Kd.freshB (g := gb375) (o := .cells #[.string ((rd_T33 l0_28 x11_1).f0), .slice A374_1 ((rd_T33 l0_28 x11_1).f1).length c374_1, .slice A374_2 ((rd_T33 l0_28 x11_1).f2).length c374_2, .slice A374_3 ((rd_T33 l0_28 x11_1).f3).length c374_3] 33 (0, 0)) (tKp BK375) k_ hk_.1)⟩)) (tS HB)); have n2_ := Aside0.mk (Kd.V_lower (Kd.V_mono (ok' := fun k_ => (w.heap.size ≤ k_) ∧ some k_ ≠ (v378 : Value).ownBlock ∧ some k_ ≠ (v384 : Value).ownBlock ∧ some k_ ≠ (u5 : Value).ownBlock ∧ k_ ≠ gb373 ∧ k_ ≠ gb375) ho1 (fun k_ hk_ => ⟨(Nat.le_trans (tS HB) hk_.1), hk_.2.1, hk_.2.2, (Kd.fresh' (Kd.N_lt (dN HO_5)) k_ hk_.1), (Kd.freshB (tK BK373) k_ hk_.1), (Kd.freshB (g := gb375) (o := .cells #[.string ((rd_T33 l0_28 x11_1).f0), .slice A374_1 ((rd_T33 l0_28 x11_1).f1).length c374_1, .slice A374_2 ((rd_T33 l0_28 x11_1).f2).length c374_2, .slice A374_3 ((rd_T33 l0_28 x11_1).f3).length c374_3] 33 (0, 0)) (tKp BK375) k_ hk_.1)⟩)) (tS HB)); have n3_ := Aside0.mk (Kd.N_lower (Kd.N_mono (ok' := fun k_ => (w.heap.size ≤ k_) ∧ some k_ ≠ (v378 : Value).ownBlock ∧ some k_ ≠ (u5 : Value).ownBlock ∧ k_ ≠ gb373 ∧ k_ ≠ gb375) ho2 (fun k_ hk_ => ⟨(Nat.le_trans (tS HB) hk_.1), hk_.2, (Kd.fresh' (Kd.N_lt (dN HO_5)) k_ hk_.1), (Kd.freshB (tK BK373) k_ hk_.1), (Kd.freshB (g := gb375) (o := .cells #[.string ((rd_T33 l0_28 x11_1).f0), .slice A374_1 ((rd_T33 l0_28 x11_1).f1).length c374_1, .slice A374_2 ((rd_T33 l0_28 x11_1).f2).length c374_2, .slice A374_3 ((rd_T33 l0_28 x11_1).f3).length c374_3] 33 (0, 0)) (tKp BK375) k_ hk_.1)⟩)) (tS HB)); have n4_ := Aside0.mk (blk_below (tK BK373) hb); have n5_ := Aside0.mk (blk_below (g := gb375) (o := .cells #[.string ((rd_T33 l0_28 x11_1).f0), .slice A374_1 ((rd_T33 l0_28 x11_1).f1).length c374_1, .slice A374_2 ((rd_T33 l0_28 x11_1).f2).length c374_2, .slice A374_3 ((rd_T33 l0_28 x11_1).f3).length c374_3] 33 (0, 0)) (tKp BK375) hb); have n6_ := Aside0.mk (below_step (tB HB) hb); revert n0_ n1_ n2_ n3_ n4_ n5_ n6_; clear HO_5 BK373 BK375 HB; intro HO_5 HO379 HO382 HO385 BK373 BK375 HB; (try clear hb); (try clear hb2); (try clear hk); (try clear hi); (try clear ho0); (try clear ho1); (try clear ho2); obtain ⟨Ao16, co16, eo16⟩ := Kd.N_slice HO379.out; subst eo16; obtain ⟨Ao17, co17, eo17⟩ := Kd.V_slice HO382.out; subst eo17; obtain ⟨Ao18, co18, eo18⟩ := Kd.N_slice HO385.out; subst eo18) | ((with_reducible refine gate_builtin (b := .append) (xs := #[.tmp 19, .tmp 22]) rfl ?_); at_builtin; refine Kd.N_append k33 (w0 := w) w.heap.size rfl (.tmp 19) (.tmp 22) 58 33 (.agg #[(.string ⟨#[]⟩), (.slice none 0 0), (.slice none 0 0), (.slice none 0 0)]) 88 rfl Try.underlying58 info33 rfl (by decide) (by omega) u5 x5_1 (⟨t376, t377, t380, t383⟩ : S33) [.string t376, .slice Ao16 t377.length co16, .slice Ao17 t380.length co17, .slice Ao18 t383.length co18] (fun k_ => (w.heap.size ≤ k_) ∧ k_ ≠ gb373 ∧ k_ ≠ gb375) (fun k_ => ((fun k_ => (w.heap.size ≤ k_) ∧ k_ ≠ gb373 ∧ k_ ≠ gb375)) k_ ∧ some k_ ≠ (u5 : Value).ownBlock) rfl rfl ?aP (fun _ hk => hk) ?aF ?aO ?aB ?aS ?aL ?_; (case aP => exact (k33_mkF _ _ (⟨t376, t377, t380, t383⟩ : S33) (Kd.N_reads' (Kd.N_mono (ok' := (fun k_ => ((fun k_ => (w.heap.size ≤ k_) ∧ k_ ≠ gb373 ∧ k_ ≠ gb375)) k_ ∧ some k_ ≠ (u5 : Value).ownBlock)) (HO379.out) (fun k_ hk => ⟨⟨hk.1, ⟨hk.2.2.2.1, hk.2.2.2.2⟩⟩, hk.2.2.1⟩))).2.1 (Kd.N_F (Kd.N_mono (ok' := (fun k_ => ((fun k_ => (w.heap.size ≤ k_) ∧ k_ ≠ gb373 ∧ k_ ≠ gb375)) k_ ∧ some k_ ≠ (u5 : Value).ownBlock)) (HO379.out) (fun k_ hk => ⟨⟨hk.1, ⟨hk.2.2.2.1, hk.2.2.2.2⟩⟩, hk.2.2.1⟩))) (Kd.V_reads' (Kd.V_mono (ok' := (fun k_ => ((fun k_ => (w.heap.size ≤ k_) ∧ k_ ≠ gb373 ∧ k_ ≠ gb375)) k_ ∧ some k_ ≠ (u5 : Value).ownBlock)) (HO382.out) (fun k_ hk => ⟨⟨hk.1, ⟨hk.2.2.2.2.1, hk.2.2.2.2.2⟩⟩, hk.2.2.2.1⟩))).2.1 (Kd.V_F (Kd.V_mono (ok' := (fun k_ => ((fun k_ => (w.heap.size ≤ k_) ∧ k_ ≠ gb373 ∧ k_ ≠ gb375)) k_ ∧ some k_ ≠ (u5 : Value).ownBlock)) (HO382.out) (fun k_ hk => ⟨⟨hk.1, ⟨hk.2.2.2.2.1, hk.2.2.2.2.2⟩⟩, hk.2.2.2.1⟩))) (Kd.N_reads' (Kd.N_mono (ok' := (fun k_ => ((fun k_ => (w.heap.size ≤ k_) ∧ k_ ≠ gb373 ∧ k_ ≠ gb375)) k_ ∧ some k_ ≠ (u5 : Value).ownBlock)) (HO385.out) (fun k_ hk => ⟨⟨hk.1, ⟨hk.2.2.2.1, hk.2.2.2.2⟩⟩, hk.2.2.1⟩))).2.1 (Kd.N_F (Kd.N_mono (ok' := (fun k_ => ((fun k_ => (w.heap.size ≤ k_) ∧ k_ ≠ gb373 ∧ k_ ≠ gb375)) k_ ∧ some k_ ≠ (u5 : Value).ownBlock)) (HO385.out) (fun k_ hk => ⟨⟨hk.1, ⟨hk.2.2.2.1, hk.2.2.2.2⟩⟩, hk.2.2.1⟩))))); (case aB => exact (tB HB)); (case aF => exact (fun k_ hk => ⟨(Nat.le_trans (tS HB) hk), Kd.freshB (tK BK373) k_ hk, Kd.freshB (tK BK375) k_ hk⟩)); (case aO => exact (dN HO_5)); (case aS => exact (tS HB)); (case aL => have := LMc10.out; omega); intro v387 w15 ho hb hg hat; rw [← Ny386.out] at ho; have n0_ := Aside0.mk (blk_grown (tK BK373) hg (Kd.N_ne HO_5.out BK373.out (by decide))); have n1_ := Aside0.mk (blk_grown (tK BK375) hg (Kd.N_away HO_5.out (fun _ hk => hk.1.1.2))); have n2_ := Aside0.mk (Kd.V_afterv (ok := (fun k_ => (w.heap.size ≤ k_) ∧ some k_ ≠ (.slice Ao16 t377.length co16 : Value).ownBlock ∧ some k_ ≠ (.slice Ao18 t383.length co18 : Value).ownBlock ∧ k_ ≠ gb373 ∧ k_ ≠ gb375)) (dV HO382) hg hat); have n3_ := Aside0.mk (hb); have n4_ := Aside0.mk (ho); revert n0_ n1_ n2_ n3_ n4_; clear BK373 BK375 HO382 HB HO_5 HO379 HO385; intro BK373 BK375 HO382 HB HO388; clear ho hb hg hat))
        go_roundg k1
        case measure => have := HK1.out; omega
        case rel => exact ⟨(y386), (wrap64 (x11_1 + 1)), tV1, H', ⟨by have := HK1.out; omega⟩, ⟨dN HO388⟩, ⟨tK BK373⟩, ⟨tB HB⟩⟩
       ·
        rw [if_neg c10] at H
        exact absurd H (by simp)
      ·
       rw [if_neg c8] at H
       have c8b0 := beq_eq_false_iff_ne.mpr c8
       have c8b1 := bne_iff_ne.mpr c8
       have H' := Aside0.mk H
       clear H
       have p374 : 0 ≤ (x11_1 : Int) := oD
       have q374 : x11_1 < (l0_28.length : Int) := oD
       obtain ⟨ad374, A374_1, c374_1, A374_2, c374_2, A374_3, c374_3, e374, hx374_0, hx374_1, hx374_2, hx374_3, hl374_1, hi374_1, hl374_2, hi374_2, hl374_3, hi374_3⟩ := at_T33 HR0_28.out x11_1 p374 q374
       cases e374
       replace hx374_0 := celB HB hx374_0
       replace hx374_1 := celB HB hx374_1
       replace hx374_2 := celB HB hx374_2
       replace hx374_3 := celB HB hx374_3
       have HR374_1 := Aside0.mk hi374_1
       have HC374_1 := Aside0.mk hl374_1
       clear hi374_1 hl374_1
       have HR374_2 := Aside0.mk hi374_2
       have HC374_2 := Aside0.mk hl374_2
       clear hi374_2 hl374_2
       have HR374_3 := Aside0.mk hi374_3
       have HC374_3 := Aside0.mk hl374_3
       clear hi374_3 hl374_3
       replace p374 := eq_true p374
       replace q374 := eq_true q374
       go_wp2_with (first | ((with_reducible refine gate_load (t := 60) (p := 2) rfl ?_); (try (refine gate_guard (by rfl) ?_; dsimp only)); refine wpList_load_row rfl 60 (.tmp 2) rfl gb373 rfl 60 _ (0, 0) _ (tK BK373) Try.underlying60 rfl (by kernel_rfl) ?_) | ((with_reducible refine gate_dst (N := 7) rfl ?_); refine box_event ?hg (N := 7) ?hd (cs := #[.string (⟨#[]⟩ : ByteArray), .slice none 0 0, .slice none 0 0, .slice none 0 0]) (t := 33) ?hr ?_; (case hd => rfl); (case hg => rfl); (case hr => first | (go_simp; done) | (go_simp; rfl)); intro gb375 hg w19 hbox hb; have n0_ := Aside0.mk (Kd.N_below (Kd.N_elderB (dN HO_5) gb375 (Nat.le_of_eq hg.symm)) hb); have n1_ := Aside0.mk (blk_below (tK BK373) hb); have n2_ := Aside0.mk (below_step (tB HB) hb); have n3_ := Aside0.mk (hbox); have n4_ := tZ hg (tS HB); have n5_ := tZ hg (tS HB); have n6_ := tL hg (tK BK373); have n7_ := tG hg (tK BK373); revert n0_ n1_ n2_ n3_ n4_ n5_ n6_ n7_; clear HO_5 BK373 HB; intro HO_5 BK373 HB BK375 GW375 GE375 NB373_375 NB375_373; clear hb hbox hg; have hnb20 := NB375_373.out; have hnc20 := NB373_375.out; have hcz21_0 := cel2 BK375 0 rfl; have hcz21_1 := cel2 BK375 1 rfl; have hcz21_2 := cel2 BK375 2 rfl; have hcz21_3 := cel2 BK375 3 rfl; have hfz21_0 := blk_frozen BK375.out 0; have hfz21_1 := blk_frozen BK375.out 1; have hfz21_2 := blk_frozen BK375.out 2; have hfz21_3 := blk_frozen BK375.out 3))
       go_roundg k1
       case measure => have := HK1.out; omega
       case rel => exact ⟨(x5_1), (wrap64 (x11_1 + 1)), tV1, H', ⟨by have := HK1.out; omega⟩, ⟨dN HO_5⟩, ⟨tK BK373⟩, ⟨tB HB⟩⟩
     ·
      rw [if_neg c7] at H
      exact absurd H (by simp)
    ·
     rw [if_neg c6] at H
     exact absurd H (by simp)
   ·
    rw [if_neg c5] at H
    have c5b0 : decide (x11_1 < (l0_28.length : Int)) = false := decide_eq_false c5
    clear c5
    obtain rfl := Option.some.inj H
    go_wp2
    go_ret
    exact ⟨_, tE, by (with_reducible repeat (first | apply Kd.N_alloc | apply Kd.N_drewN | apply Kd.N_drew)); exact Kd.N_mono HO_5.out (fun _ hk => hk.1), by repeat (first | (with_reducible first | exact HB.out | apply below_alloc | apply pw_below_drewN | apply below_drew1 | refine below_set ?_ GE373.out) | exact HB.out)⟩

end Go.Proofs.Ytfbfopfhfeijdaa.Pr
