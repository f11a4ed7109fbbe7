-- Written by a program of this session (ownprint.py, over the kit's printer). Not trusted: Lean checks it.
import Derived.Test.YtfbfopfhfeijdaaPr0
import Derived.Test.YtfbfopfhfeijdaaCt
namespace Go.Proofs.Ytfbfopfhfeijdaa.Pr
open Go.Proofs.Ytfbfopfhfeijdaa.Ct Go.RowKit Go.Proofs.YtfbfopfhfeijdaaW.PrintWords Go.Proofs.YtfbfopfhfeijdaaW.PrintLast Go.Proofs.YtfbfopfhfeijdaaW.PrintMore
attribute [local go_sem] max2_int min2_int max_two min_two max_three min_three max_four min_four   -- for this text's walks alone
set_option linter.unusedVariables false
set_option linter.unusedSimpArgs false

/-! ### pentaglotref33_Rules: function 28 -/
def pentaglotref33_Rules.l0 : Nat → ByteArray → List (S33) → List (S33) → Int → Int → Option ((List (S33)))
 | 0, _, _, _, _, _ => none
 | k + 1, x1, x5, x10, x11, x12 => if x12 < x11 then (if 0 ≤ x12 then (if x12 < (x10.length : Int) then (if ((rd_T33 x10 x12).f0).toList = x1.toList then (if x5.length < 1599289640401 then (pentaglotref33_Rules.l0 k x1 (x5 ++ [(⟨(rd_T33 x10 x12).f0, (rd_T33 x10 x12).f1, (rd_T33 x10 x12).f2, (rd_T33 x10 x12).f3⟩ : S33)]) x10 x11 (wrap64 (x12 + 1))) else (none)) else (pentaglotref33_Rules.l0 k x1 x5 x10 x11 (wrap64 (x12 + 1)))) else (none)) else (none)) else (some x5)
def pentaglotref33_Rules.f (k : Nat) (a0_0 : ByteArray) (a0_1 : Bool) (l0_2 : List (S173)) (l0_3 : List (S176)) (l0_4 : List (S179)) (l0_5 : List (S181)) (l0_6 : List (List Int)) (a0_7 : Int) (a0_8 : Int) (l0_9 : List (S176)) (a0_10 : Int) (l0_11 : List ByteArray) (l0_12 : List ByteArray) (a0_13 : Bool) (a0_14 : ByteArray) (a0_15 : Int) (a0_16 : ByteArray) (a0_17 : Bool) (a0_18 : Int) (a0_19 : Int) (l0_20 : List (S184)) (l0_21 : List (S184)) (l0_22 : List ByteArray) (l0_23 : List ByteArray) (l0_24 : List ByteArray) (a0_25 : Bool) (l0_26 : List (S186)) (l0_27 : List (S68)) (l0_28 : List (S33)) (a0_29 : ByteArray) (a1 : ByteArray) : Option ((List (S33))) := pentaglotref33_Rules.l0 k a1 (([] : List (S33))) l0_28 (l0_28.length : Int) 0
set_option maxHeartbeats 8000000 in
set_option maxRecDepth 100000 in
theorem pentaglotref33_Rules.calls (k : Nat) (a0_0 : ByteArray) (a0_1 : Bool) (A0_2 : Option Addr) (c0_2 : Nat) (l0_2 : List (S173)) (A0_3 : Option Addr) (c0_3 : Nat) (l0_3 : List (S176)) (A0_4 : Option Addr) (c0_4 : Nat) (l0_4 : List (S179)) (A0_5 : Option Addr) (c0_5 : Nat) (l0_5 : List (S181)) (A0_6 : Option Addr) (c0_6 : Nat) (l0_6 : List (List Int)) (a0_7 : Int) (a0_8 : Int) (A0_9 : Option Addr) (c0_9 : Nat) (l0_9 : List (S176)) (a0_10 : Int) (A0_11 : Option Addr) (c0_11 : Nat) (l0_11 : List ByteArray) (A0_12 : Option Addr) (c0_12 : Nat) (l0_12 : List ByteArray) (a0_13 : Bool) (a0_14 : ByteArray) (a0_15 : Int) (a0_16 : ByteArray) (a0_17 : Bool) (a0_18 : Int) (a0_19 : Int) (A0_20 : Option Addr) (c0_20 : Nat) (l0_20 : List (S184)) (A0_21 : Option Addr) (c0_21 : Nat) (l0_21 : List (S184)) (A0_22 : Option Addr) (c0_22 : Nat) (l0_22 : List ByteArray) (A0_23 : Option Addr) (c0_23 : Nat) (l0_23 : List ByteArray) (A0_24 : Option Addr) (c0_24 : Nat) (l0_24 : List ByteArray) (a0_25 : Bool) (A0_26 : Option Addr) (c0_26 : Nat) (l0_26 : List (S186)) (A0_27 : Option Addr) (c0_27 : Nat) (l0_27 : List (S68)) (P0_28_ : Nat → Prop) (A0_28 : Option Addr) (c0_28 : Nat) (l0_28 : List (S33)) (a0_29 : ByteArray) (a1 : ByteArray) (r : List (S33)) (w : World) (hr0_2 : Kd.C k173 w A0_2 l0_2.length l0_2) (hc0_2 : l0_2.length ≤ c0_2) (hr0_3 : Kd.C k176 w A0_3 l0_3.length l0_3) (hc0_3 : l0_3.length ≤ c0_3) (hr0_4 : Kd.C k179 w A0_4 l0_4.length l0_4) (hc0_4 : l0_4.length ≤ c0_4) (hr0_5 : Kd.C k181 w A0_5 l0_5.length l0_5) (hc0_5 : l0_5.length ≤ c0_5) (hr0_6 : Kd.C (Kd.slice 143 (Kd.int .u32)) w A0_6 l0_6.length l0_6) (hc0_6 : l0_6.length ≤ c0_6) (hr0_9 : Kd.C k176 w A0_9 l0_9.length l0_9) (hc0_9 : l0_9.length ≤ c0_9) (hr0_11 : Kd.C Kd.string w A0_11 l0_11.length l0_11) (hc0_11 : l0_11.length ≤ c0_11) (hr0_12 : Kd.C Kd.string w A0_12 l0_12.length l0_12) (hc0_12 : l0_12.length ≤ c0_12) (hr0_20 : Kd.C k184 w A0_20 l0_20.length l0_20) (hc0_20 : l0_20.length ≤ c0_20) (hr0_21 : Kd.C k184 w A0_21 l0_21.length l0_21) (hc0_21 : l0_21.length ≤ c0_21) (hr0_22 : Kd.C Kd.string w A0_22 l0_22.length l0_22) (hc0_22 : l0_22.length ≤ c0_22) (hr0_23 : Kd.C Kd.string w A0_23 l0_23.length l0_23) (hc0_23 : l0_23.length ≤ c0_23) (hr0_24 : Kd.C Kd.string w A0_24 l0_24.length l0_24) (hc0_24 : l0_24.length ≤ c0_24) (hr0_26 : Kd.C k186 w A0_26 l0_26.length l0_26) (hc0_26 : l0_26.length ≤ c0_26) (hr0_27 : Kd.C k68 w A0_27 l0_27.length l0_27) (hc0_27 : l0_27.length ≤ c0_27) (hs0_28 : Kd.V k33 33 w w.heap.size (fun k_ => P0_28_ k_) (.slice A0_28 l0_28.length c0_28) l0_28) (h : pentaglotref33_Rules.f k a0_0 a0_1 l0_2 l0_3 l0_4 l0_5 l0_6 a0_7 a0_8 l0_9 a0_10 l0_11 l0_12 a0_13 a0_14 a0_15 a0_16 a0_17 a0_18 a0_19 l0_20 l0_21 l0_22 l0_23 l0_24 a0_25 l0_26 l0_27 l0_28 a0_29 a1 = some r) :
 Calls Try.prog 28 #[.agg #[.string a0_0, .bool a0_1, .slice A0_2 l0_2.length c0_2, .slice A0_3 l0_3.length c0_3, .slice A0_4 l0_4.length c0_4, .slice A0_5 l0_5.length c0_5, .slice A0_6 l0_6.length c0_6, .int .i64 a0_7, .int .i64 a0_8, .slice A0_9 l0_9.length c0_9, .int .i64 a0_10, .slice A0_11 l0_11.length c0_11, .slice A0_12 l0_12.length c0_12, .bool a0_13, .string a0_14, .int .i64 a0_15, .string a0_16, .bool a0_17, .int .i64 a0_18, .int .i64 a0_19, .slice A0_20 l0_20.length c0_20, .slice A0_21 l0_21.length c0_21, .slice A0_22 l0_22.length c0_22, .slice A0_23 l0_23.length c0_23, .slice A0_24 l0_24.length c0_24, .bool a0_25, .slice A0_26 l0_26.length c0_26, .slice A0_27 l0_27.length c0_27, .slice A0_28 l0_28.length c0_28, .string a0_29], .string a1] w fun e w' => ∃ v0_ : Value, e = .returned (v0_) ∧ Kd.N k33 33 w' w.heap.size (fun k_ => (P0_28_ k_ ∨ w.heap.size ≤ k_)) v0_ r ∧ Below w.heap.size w w' := by
 have hu60 := Try.underlying60
 have hu33 := Try.underlying33
 have HR0_2 := Aside0.mk hr0_2
 have HC0_2 := Aside0.mk hc0_2
 clear hr0_2 hc0_2
 have HR0_3 := Aside0.mk hr0_3
 have HC0_3 := Aside0.mk hc0_3
 clear hr0_3 hc0_3
 have HR0_4 := Aside0.mk hr0_4
 have HC0_4 := Aside0.mk hc0_4
 clear hr0_4 hc0_4
 have HR0_5 := Aside0.mk hr0_5
 have HC0_5 := Aside0.mk hc0_5
 clear hr0_5 hc0_5
 have HR0_6 := Aside0.mk hr0_6
 have HC0_6 := Aside0.mk hc0_6
 clear hr0_6 hc0_6
 have HR0_9 := Aside0.mk hr0_9
 have HC0_9 := Aside0.mk hc0_9
 clear hr0_9 hc0_9
 have HR0_11 := Aside0.mk hr0_11
 have HC0_11 := Aside0.mk hc0_11
 clear hr0_11 hc0_11
 have HR0_12 := Aside0.mk hr0_12
 have HC0_12 := Aside0.mk hc0_12
 clear hr0_12 hc0_12
 have HR0_20 := Aside0.mk hr0_20
 have HC0_20 := Aside0.mk hc0_20
 clear hr0_20 hc0_20
 have HR0_21 := Aside0.mk hr0_21
 have HC0_21 := Aside0.mk hc0_21
 clear hr0_21 hc0_21
 have HR0_22 := Aside0.mk hr0_22
 have HC0_22 := Aside0.mk hc0_22
 clear hr0_22 hc0_22
 have HR0_23 := Aside0.mk hr0_23
 have HC0_23 := Aside0.mk hc0_23
 clear hr0_23 hc0_23
 have HR0_24 := Aside0.mk hr0_24
 have HC0_24 := Aside0.mk hc0_24
 clear hr0_24 hc0_24
 have HR0_26 := Aside0.mk hr0_26
 have HC0_26 := Aside0.mk hc0_26
 clear hr0_26 hc0_26
 have HR0_27 := Aside0.mk hr0_27
 have HC0_27 := Aside0.mk hc0_27
 clear hr0_27 hc0_27
 have HO0_28 := Aside0.mk (show Kd.V k33 33 w w.heap.size (fun k_ => (P0_28_ k_ ∨ w.heap.size ≤ k_)) (.slice A0_28 l0_28.length c0_28) l0_28 from Kd.V_mono hs0_28 (fun k_ hk => .inl hk))
 have HB := Aside0.mk (Below.refl w.heap.size w)
 have H : (pentaglotref33_Rules.l0 k a1 (([] : List (S33))) l0_28 (l0_28.length : Int) 0) = some r := h
 clear h
 obtain ⟨y267, hy267⟩ : ∃ y_ : List (S33), y_ = (([] : List (S33))) := ⟨_, rfl⟩
 replace H : (pentaglotref33_Rules.l0 k a1 y267 l0_28 (l0_28.length : Int) 0) = some r := by first | (rw [hy267]; with_reducible exact H) | (have H2_ := (Option.bind_some _ _).symm.trans H; rw [hy267]; with_reducible exact H2_) | (have H2_ := (Option.bind_some _ _).symm.trans H; with_reducible exact H2_) | with_reducible exact H | (rw [hy267]; exact H) | exact H
 have Ny267 := Aside0.mk hy267
 clear hy267
 have H' := Aside0.mk H
 clear H
 go_enter Try.func28, Try.ntmps28
 go_wp2_with (first | ((with_reducible refine gate_load (t := 60) (p := 2) rfl ?_); (try (refine gate_guard (by rfl) ?_; dsimp only)); refine wpList_load_row rfl 60 (.tmp 2) rfl gb266 rfl 60 _ (0, 0) _ (tK BK266) Try.underlying60 rfl (by kernel_rfl) ?_) | ((with_reducible refine gate_dst (N := 2) rfl ?_); refine box_event ?hg (N := 2) ?hd (cs := #[.string a0_0, .bool a0_1, .slice A0_2 l0_2.length c0_2, .slice A0_3 l0_3.length c0_3, .slice A0_4 l0_4.length c0_4, .slice A0_5 l0_5.length c0_5, .slice A0_6 l0_6.length c0_6, .int .i64 a0_7, .int .i64 a0_8, .slice A0_9 l0_9.length c0_9, .int .i64 a0_10, .slice A0_11 l0_11.length c0_11, .slice A0_12 l0_12.length c0_12, .bool a0_13, .string a0_14, .int .i64 a0_15, .string a0_16, .bool a0_17, .int .i64 a0_18, .int .i64 a0_19, .slice A0_20 l0_20.length c0_20, .slice A0_21 l0_21.length c0_21, .slice A0_22 l0_22.length c0_22, .slice A0_23 l0_23.length c0_23, .slice A0_24 l0_24.length c0_24, .bool a0_25, .slice A0_26 l0_26.length c0_26, .slice A0_27 l0_27.length c0_27, .slice A0_28 l0_28.length c0_28, .string a0_29]) (t := 60) ?hr ?_; (case hd => rfl); (case hg => rfl); (case hr => first | (go_simp; done) | (go_simp; rfl)); intro gb266 hg w3 hbox hb; have n0_ := Aside0.mk (Kd.V_below (Kd.V_elderB (dV HO0_28) gb266 (Nat.le_of_eq hg.symm)) hb); have n1_ := Aside0.mk (below_step (tB HB) hb); have n2_ := Aside0.mk (hbox); have n3_ := tZ hg (tS HB); have n4_ := tZ hg (tS HB); revert n0_ n1_ n2_ n3_ n4_; clear HO0_28 HB; intro HO0_28 HB BK266 GW266 GE266; clear hb hbox hg) | ((with_reducible refine gate_dst (N := 8) rfl ?_); refine Kd.N_lit k33 _ 33 ?hg (N' := 8) ?hd (xs := ([] : List (S33))) (inner := []) (ok := (fun k_ => (P0_28_ k_ ∨ w.heap.size ≤ k_) ∧ k_ ≠ gb266)) (okp := (fun k_ => (P0_28_ k_ ∨ w.heap.size ≤ k_) ∧ k_ ≠ gb266)) ?hr ?hp (fun _ hk => hk) ((show ∀ k_, w3.heap.size ≤ k_ → (fun k_ => (P0_28_ k_ ∨ w.heap.size ≤ k_) ∧ k_ ≠ gb266) k_ from fun k_ hk => ⟨(.inr (Nat.le_trans (tS HB) hk)), Kd.freshB (tK BK266) k_ hk⟩) _ (Nat.le_refl _)) (Below.refl _ _) (Nat.le_refl _) (by simp) ?_; (case hd => rfl); (case hg => rfl); (case hr => first | (go_simp; done) | (go_simp; rfl)); (case hp => exact (Reps.none _ _)); intro v268 w4 ho5 hb hg_ hnew_; clear hg_ hnew_; (first | rw [← Ny267.out] at ho5 | (simp only [Int.reduceToNat] at ho5; rw [← Ny267.out] at ho5)); have n0_ := Aside0.mk (Kd.V_elder' (dV HO0_28) (Kd.N_base ho5) hb); have n1_ := Aside0.mk (Kd.N_lower ho5 (tS HB)); have n2_ := Aside0.mk (blk_below (tK BK266) hb); have n3_ := Aside0.mk (below_step (tB HB) hb); revert n0_ n1_ n2_ n3_; clear HO0_28 BK266 HB; intro HO0_28 HO269 BK266 HB; clear hb ho5; have hcz6_28 := cel2 BK266 28 rfl; have hfz6_28 := blk_frozen BK266.out 28))
 go_loopg [5, 12] k (fun kq v5 v12 w' => ∃ (x5_1 : List (S33)) (x12_1 : Int), v12 = .int .i64 x12_1 ∧ Aside0 (pentaglotref33_Rules.l0 kq a1 x5_1 l0_28 (l0_28.length : Int) x12_1 = some r) ∧ Aside0 (kq ≤ k) ∧ Aside0 (Kd.N k33 33 w' w.heap.size (fun k_ => (P0_28_ k_ ∨ w.heap.size ≤ k_) ∧ k_ ≠ gb266) v5 x5_1) ∧ Aside0 (Kd.V k33 33 w' w.heap.size (fun k_ => (P0_28_ k_ ∨ w.heap.size ≤ k_) ∧ some k_ ≠ (v5 : Value).ownBlock ∧ k_ ≠ gb266) (.slice A0_28 l0_28.length c0_28) l0_28) ∧ Aside0 (Kd.V k33 33 w' w.heap.size (fun k_ => (P0_28_ k_ ∨ w.heap.size ≤ k_) ∧ some k_ ≠ (v5 : Value).ownBlock ∧ k_ ≠ gb266) (.slice A0_28 l0_28.length c0_28) l0_28) ∧ Aside0 (w'.heap[gb266]? = some (.cells #[.string a0_0, .bool a0_1, (.slice A0_2 l0_2.length c0_2), (.slice A0_3 l0_3.length c0_3), (.slice A0_4 l0_4.length c0_4), (.slice A0_5 l0_5.length c0_5), (.slice A0_6 l0_6.length c0_6), .int .i64 a0_7, .int .i64 a0_8, (.slice A0_9 l0_9.length c0_9), .int .i64 a0_10, (.slice A0_11 l0_11.length c0_11), (.slice A0_12 l0_12.length c0_12), .bool a0_13, .string a0_14, .int .i64 a0_15, .string a0_16, .bool a0_17, .int .i64 a0_18, .int .i64 a0_19, (.slice A0_20 l0_20.length c0_20), (.slice A0_21 l0_21.length c0_21), (.slice A0_22 l0_22.length c0_22), (.slice A0_23 l0_23.length c0_23), (.slice A0_24 l0_24.length c0_24), .bool a0_25, (.slice A0_26 l0_26.length c0_26), (.slice A0_27 l0_27.length c0_27), (.slice A0_28 l0_28.length c0_28), .string a0_29] 60 (0, 0))) ∧ Aside0 (Below w.heap.size w w'))
 case atStart => exact ⟨(y267), (0), tV1, H', ⟨Nat.le_refl _⟩, ⟨dN HO269⟩, ⟨dV HO0_28⟩, ⟨dV HO0_28⟩, ⟨tK BK266⟩, ⟨tB HB⟩⟩
 case round =>
  clear H'; (try clear hcz6_28); (try clear hfz6_28)
  obtain ⟨x5_1, x12_1, rfl, HA, HK1, HO_5, HO_10, HO_267028, BK266, HB⟩ := hrel
  cases gk with
  | zero => exact absurd HA.out (by simp [pentaglotref33_Rules.l0])
  | succ k1 =>
   have H := HA.out
   clear HA
   simp only [pentaglotref33_Rules.l0] at H
   by_cases c7 : x12_1 < (l0_28.length : Int)
   ·
    rw [if_pos c7] at H
    have c7b0 : decide (x12_1 < (l0_28.length : Int)) = true := decide_eq_true c7
    clear c7
    by_cases c8 : 0 ≤ x12_1
    ·
     rw [if_pos c8] at H
     have c8b0 : decide (0 ≤ x12_1) = true := decide_eq_true c8
     clear c8
     by_cases c9 : x12_1 < (l0_28.length : Int)
     ·
      rw [if_pos c9] at H
      have c9b0 : decide (x12_1 < (l0_28.length : Int)) = true := decide_eq_true c9
      clear c9
      by_cases c10 : ((rd_T33 l0_28 x12_1).f0).toList = a1.toList
      ·
       rw [if_pos c10] at H
       have c10b0 := beq_iff_eq.mpr c10
       have c10b1 := bne_eq_false_iff_eq.mpr c10
       clear c10
       by_cases c11 : x5_1.length < 1599289640401
       ·
        rw [if_pos c11] at H
        have LMc11 := Aside0.mk c11
        clear c11
        obtain ⟨y272, hy272⟩ : ∃ y_ : List (S33), y_ = (x5_1 ++ [(⟨(rd_T33 l0_28 x12_1).f0, (rd_T33 l0_28 x12_1).f1, (rd_T33 l0_28 x12_1).f2, (rd_T33 l0_28 x12_1).f3⟩ : S33)]) := ⟨_, rfl⟩
        replace H : (pentaglotref33_Rules.l0 k1 a1 y272 l0_28 (l0_28.length : Int) (wrap64 (x12_1 + 1))) = some r := by first | (rw [hy272]; with_reducible exact H) | (have H2_ := (Option.bind_some _ _).symm.trans H; rw [hy272]; with_reducible exact H2_) | (have H2_ := (Option.bind_some _ _).symm.trans H; with_reducible exact H2_) | with_reducible exact H | (rw [hy272]; exact H) | exact H
        have Ny272 := Aside0.mk hy272
        clear hy272
        have H' := Aside0.mk H
        clear H
        have p270 : 0 ≤ (x12_1 : Int) := oD
        have q270 : x12_1 < (l0_28.length : Int) := oD
        obtain ⟨ad270, A270_1, c270_1, A270_2, c270_2, A270_3, c270_3, e270, hx270_0, hx270_1, hx270_2, hx270_3, hl270_1, hi270_1, hl270_2, hi270_2, hl270_3, hi270_3⟩ := at_T33 (Kd.V_reads' HO_10.out).2.2 x12_1 p270 q270
        cases e270
        obtain ⟨ce270, hce270, hMe270, hcc270⟩ := Kd.V_get HO_10.out z33 x12_1 p270 (by first | exact q270 | exact oD | (have e_ := (Kd.V_reads' HO_10.out).1; omega))
        obtain ⟨ua270_1, uc270_1, ua270_2, uc270_2, ua270_3, uc270_3, rfl, ul270_1, ge270_1, ul270_2, ge270_2, ul270_3, ge270_3⟩ := k33_openF hMe270
        have hv270_1 := hcc270 1 _ rfl
        rw [add_field _ _ 1 (by omega)] at hv270_1
        replace hv270_1 := Option.some.inj (hv270_1.symm.trans hx270_1)
        injection hv270_1 with hva_ hvn_ hvc_
        rw [hva_] at ge270_1
        rw [hvc_] at ul270_1
        have HL270_1 := Aside0.mk (show Kd.V (Kd.slice 37 k37) 30 _ w.heap.size _ _ ((rd_T33 l0_28 x12_1).f1) from Kd.V_mk ul270_1 ge270_1)
        clear hva_ hvn_ hvc_ ge270_1 ul270_1
        have hv270_2 := hcc270 2 _ rfl
        rw [add_field _ _ 2 (by omega)] at hv270_2
        replace hv270_2 := Option.some.inj (hv270_2.symm.trans hx270_2)
        injection hv270_2 with hva_ hvn_ hvc_
        rw [hva_] at ge270_2
        rw [hvc_] at ul270_2
        have HL270_2 := Aside0.mk (show Kd.V k37 37 _ w.heap.size _ _ ((rd_T33 l0_28 x12_1).f2) from Kd.V_mk ul270_2 ge270_2)
        clear hva_ hvn_ hvc_ ge270_2 ul270_2
        have hv270_3 := hcc270 3 _ rfl
        rw [add_field _ _ 3 (by omega)] at hv270_3
        replace hv270_3 := Option.some.inj (hv270_3.symm.trans hx270_3)
        injection hv270_3 with hva_ hvn_ hvc_
        rw [hva_] at ge270_3
        rw [hvc_] at ul270_3
        have HL270_3 := Aside0.mk (show Kd.V k88 88 _ w.heap.size _ _ ((rd_T33 l0_28 x12_1).f3) from Kd.V_mk ul270_3 ge270_3)
        clear hva_ hvn_ hvc_ ge270_3 ul270_3; clear hcc270 hce270
        have HR270_1 := Aside0.mk hi270_1
        have HC270_1 := Aside0.mk hl270_1
        clear hi270_1 hl270_1
        have HR270_2 := Aside0.mk hi270_2
        have HC270_2 := Aside0.mk hl270_2
        clear hi270_2 hl270_2
        have HR270_3 := Aside0.mk hi270_3
        have HC270_3 := Aside0.mk hl270_3
        clear hi270_3 hl270_3
        replace p270 := eq_true p270
        replace q270 := eq_true q270
        go_wp2_with (first | ((with_reducible refine gate_load (t := 60) (p := 2) rfl ?_); (try (refine gate_guard (by rfl) ?_; dsimp only)); refine wpList_load_row rfl 60 (.tmp 2) rfl gb266 rfl 60 _ (0, 0) _ (tK BK266) Try.underlying60 rfl (by kernel_rfl) ?_) | ((with_reducible refine gate_dst (N := 7) rfl ?_); refine box_event ?hg (N := 7) ?hd (cs := #[.string (⟨#[]⟩ : ByteArray), .slice none 0 0, .slice none 0 0, .slice none 0 0]) (t := 33) ?hr ?_; (case hd => rfl); (case hg => rfl); (case hr => first | (go_simp; done) | (go_simp; rfl)); intro gb271 hg w12 hbox hb; have n0_ := Aside0.mk (Kd.N_below (Kd.N_elderB (dN HO_5) gb271 (Nat.le_of_eq hg.symm)) hb); have n1_ := Aside0.mk (Kd.V_below (Kd.V_elderB (dV HO_10) gb271 (Nat.le_of_eq hg.symm)) hb); have n2_ := Aside0.mk (Kd.V_below (Kd.V_elderB (dV HO_267028) gb271 (Nat.le_of_eq hg.symm)) hb); have n3_ := Aside0.mk (Kd.V_below (Kd.V_elderB (dV HL270_1) gb271 (Nat.le_of_eq hg.symm)) hb); have n4_ := Aside0.mk (Kd.V_below (Kd.V_elderB (dV HL270_2) gb271 (Nat.le_of_eq hg.symm)) hb); have n5_ := Aside0.mk (Kd.V_below (Kd.V_elderB (dV HL270_3) gb271 (Nat.le_of_eq hg.symm)) hb); have n6_ := Aside0.mk (blk_below (tK BK266) hb); have n7_ := Aside0.mk (Kd.C_below (by repeat (first | (with_reducible exact HR270_1.out) | (with_reducible refine Kd.C_alloc ?_ _) | (with_reducible refine Kd.C_drewN ?_ _) | (with_reducible refine Kd.C_drew ?_) | exact HR270_1.out)) hb); have n8_ := Aside0.mk (Kd.C_below (by repeat (first | (with_reducible exact HR270_2.out) | (with_reducible refine Kd.C_alloc ?_ _) | (with_reducible refine Kd.C_drewN ?_ _) | (with_reducible refine Kd.C_drew ?_) | exact HR270_2.out)) hb); have n9_ := Aside0.mk (Kd.C_below (by repeat (first | (with_reducible exact HR270_3.out) | (with_reducible refine Kd.C_alloc ?_ _) | (with_reducible refine Kd.C_drewN ?_ _) | (with_reducible refine Kd.C_drew ?_) | exact HR270_3.out)) hb); have n10_ := Aside0.mk (below_step (tB HB) hb); have n11_ := Aside0.mk (hbox); have n12_ := tZ hg (tS HB); have n13_ := tZ hg (tS HB); have n14_ := tL hg (tK BK266); have n15_ := tG hg (tK BK266); revert n0_ n1_ n2_ n3_ n4_ n5_ n6_ n7_ n8_ n9_ n10_ n11_ n12_ n13_ n14_ n15_; clear HO_5 HO_10 HO_267028 HL270_1 HL270_2 HL270_3 BK266 HR270_1 HR270_2 HR270_3 HB; intro HO_5 HO_10 HO_267028 HL270_1 HL270_2 HL270_3 BK266 HR270_1 HR270_2 HR270_3 HB BK271 GW271 GE271 NB266_271 NB271_266; clear hb hbox hg; have hnb13 := NB271_266.out; have hnc13 := NB266_271.out; have hcz14_0 := cel2 BK271 0 rfl; have hcz14_1 := cel2 BK271 1 rfl; have hcz14_2 := cel2 BK271 2 rfl; have hcz14_3 := cel2 BK271 3 rfl; have hfz14_0 := blk_frozen BK271.out 0; have hfz14_1 := blk_frozen BK271.out 1; have hfz14_2 := blk_frozen BK271.out 2; have hfz14_3 := blk_frozen BK271.out 3) | ((with_reducible refine gate_store (t := 33) (p := 7) rfl ?_); refine store_event (t := 33) (p := 7) (v := ?vo_w15) (w1 := ((((w12.setCell ⟨gb271, 0, none⟩ (.string ((rd_T33 l0_28 x12_1).f0))).setCell ⟨gb271, 1, none⟩ (.slice A270_1 ((rd_T33 l0_28 x12_1).f1).length c270_1)).setCell ⟨gb271, 2, none⟩ (.slice A270_2 ((rd_T33 l0_28 x12_1).f2).length c270_2)).setCell ⟨gb271, 3, none⟩ (.slice A270_3 ((rd_T33 l0_28 x12_1).f3).length c270_3))) ?hg ?ho ?hn ?hr ?_; (case ho => rfl); (case hg => rfl); (case hn => rfl); (case hr => first | (go_simp; done) | (go_simp; rfl)); intro w15 hw; have n0_ : Aside0 (Kd.N k33 33 w15 w.heap.size (fun k_ => (P0_28_ k_ ∨ w.heap.size ≤ k_) ∧ k_ ≠ gb266 ∧ k_ ≠ gb271) u5 x5_1) := ⟨(by rw [hw]; exact (dN HO_5))⟩; have n1_ : Aside0 (Kd.V k33 33 w15 w.heap.size (fun k_ => (P0_28_ k_ ∨ w.heap.size ≤ k_) ∧ some k_ ≠ (u5 : Value).ownBlock ∧ k_ ≠ gb266 ∧ k_ ≠ gb271) (.slice (some ad270) l0_28.length c0_28) l0_28) := ⟨(by rw [hw]; exact (dV HO_10))⟩; have n2_ : Aside0 (Kd.V k33 33 w15 w.heap.size (fun k_ => (P0_28_ k_ ∨ w.heap.size ≤ k_) ∧ some k_ ≠ (u5 : Value).ownBlock ∧ k_ ≠ gb266 ∧ k_ ≠ gb271) (.slice (some ad270) l0_28.length c0_28) l0_28) := ⟨(by rw [hw]; exact (dV HO_267028))⟩; have n3_ : Aside0 (Kd.V (Kd.slice 37 k37) 30 w15 w.heap.size (fun k_ => (P0_28_ k_ ∨ w.heap.size ≤ k_) ∧ some k_ ≠ (u5 : Value).ownBlock ∧ k_ ≠ gb266 ∧ k_ ≠ gb271) (.slice A270_1 ((rd_T33 l0_28 x12_1).f1).length c270_1) ((rd_T33 l0_28 x12_1).f1)) := ⟨(by rw [hw]; exact (dV HL270_1))⟩; have n4_ : Aside0 (Kd.V k37 37 w15 w.heap.size (fun k_ => (P0_28_ k_ ∨ w.heap.size ≤ k_) ∧ some k_ ≠ (u5 : Value).ownBlock ∧ k_ ≠ gb266 ∧ k_ ≠ gb271) (.slice A270_2 ((rd_T33 l0_28 x12_1).f2).length c270_2) ((rd_T33 l0_28 x12_1).f2)) := ⟨(by rw [hw]; exact (dV HL270_2))⟩; have n5_ : Aside0 (Kd.V k88 88 w15 w.heap.size (fun k_ => (P0_28_ k_ ∨ w.heap.size ≤ k_) ∧ some k_ ≠ (u5 : Value).ownBlock ∧ k_ ≠ gb266 ∧ k_ ≠ gb271) (.slice A270_3 ((rd_T33 l0_28 x12_1).f3).length c270_3) ((rd_T33 l0_28 x12_1).f3)) := ⟨(by rw [hw]; exact (dV HL270_3))⟩; have n6_ : Aside0 (w15.heap[gb266]? = some (.cells #[.string a0_0, .bool a0_1, .slice A0_2 l0_2.length c0_2, .slice A0_3 l0_3.length c0_3, .slice A0_4 l0_4.length c0_4, .slice A0_5 l0_5.length c0_5, .slice A0_6 l0_6.length c0_6, .int .i64 a0_7, .int .i64 a0_8, .slice A0_9 l0_9.length c0_9, .int .i64 a0_10, .slice A0_11 l0_11.length c0_11, .slice A0_12 l0_12.length c0_12, .bool a0_13, .string a0_14, .int .i64 a0_15, .string a0_16, .bool a0_17, .int .i64 a0_18, .int .i64 a0_19, .slice A0_20 l0_20.length c0_20, .slice A0_21 l0_21.length c0_21, .slice A0_22 l0_22.length c0_22, .slice A0_23 l0_23.length c0_23, .slice A0_24 l0_24.length c0_24, .bool a0_25, .slice A0_26 l0_26.length c0_26, .slice A0_27 l0_27.length c0_27, .slice (some ad270) l0_28.length c0_28, .string a0_29] 60 (0, 0))) := ⟨(by rw [hw]; exact (tK BK266))⟩; have n7_ : Aside0 (w15.heap[gb271]? = some (.cells #[.string ((rd_T33 l0_28 x12_1).f0), .slice A270_1 ((rd_T33 l0_28 x12_1).f1).length c270_1, .slice A270_2 ((rd_T33 l0_28 x12_1).f2).length c270_2, .slice A270_3 ((rd_T33 l0_28 x12_1).f3).length c270_3] 33 (0, 0))) := ⟨(by rw [hw]; exact (tKp BK271))⟩; have n8_ : Aside0 (Below w.heap.size w w15) := ⟨(by rw [hw]; exact (tB HB))⟩; revert n0_ n1_ n2_ n3_ n4_ n5_ n6_ n7_ n8_; clear hw HO_5 HO_10 HO_267028 HL270_1 HL270_2 HL270_3 BK266 BK271 HB; intro HO_5 HO_10 HO_267028 HL270_1 HL270_2 HL270_3 BK266 BK271 HB; have hcz16_0 := cel2 BK271 0 rfl; have hcz16_1 := cel2 BK271 1 rfl; have hcz16_2 := cel2 BK271 2 rfl; have hcz16_3 := cel2 BK271 3 rfl; have hfz16_0 := blk_frozen BK271.out 0; have hfz16_1 := blk_frozen BK271.out 1; have hfz16_2 := blk_frozen BK271.out 2; have hfz16_3 := blk_frozen BK271.out 3) | ((with_reducible refine gate_builtin (b := .append) (xs := #[.tmp 20, .tmp 22]) rfl ?_); at_builtin; refine Kd.N_append k33 (w0 := w) w.heap.size rfl (.tmp 20) (.tmp 22) 58 33 (.agg #[(.string ⟨#[]⟩), (.slice none 0 0), (.slice none 0 0), (.slice none 0 0)]) 88 rfl Try.underlying58 info33 rfl (by decide) (by omega) u5 x5_1 (⟨(rd_T33 l0_28 x12_1).f0, (rd_T33 l0_28 x12_1).f1, (rd_T33 l0_28 x12_1).f2, (rd_T33 l0_28 x12_1).f3⟩ : S33) [.string ((rd_T33 l0_28 x12_1).f0), .slice A270_1 ((rd_T33 l0_28 x12_1).f1).length c270_1, .slice A270_2 ((rd_T33 l0_28 x12_1).f2).length c270_2, .slice A270_3 ((rd_T33 l0_28 x12_1).f3).length c270_3] (fun k_ => (P0_28_ k_ ∨ w.heap.size ≤ k_) ∧ k_ ≠ gb266 ∧ k_ ≠ gb271) (fun k_ => ((fun k_ => (P0_28_ k_ ∨ w.heap.size ≤ k_) ∧ k_ ≠ gb266 ∧ k_ ≠ gb271)) k_ ∧ some k_ ≠ (u5 : Value).ownBlock) rfl rfl ?aP (fun _ hk => hk) ?aF ?aO ?aB ?aS ?aL ?_; (case aP => exact (k33_mkF _ _ (⟨(rd_T33 l0_28 x12_1).f0, (rd_T33 l0_28 x12_1).f1, (rd_T33 l0_28 x12_1).f2, (rd_T33 l0_28 x12_1).f3⟩ : S33) (Kd.V_reads' (Kd.V_mono (ok' := (fun k_ => ((fun k_ => (P0_28_ k_ ∨ w.heap.size ≤ k_) ∧ k_ ≠ gb266 ∧ k_ ≠ gb271)) k_ ∧ some k_ ≠ (u5 : Value).ownBlock)) (HL270_1.out) (fun k_ hk => ⟨⟨hk.1, ⟨hk.2.2.1, hk.2.2.2⟩⟩, hk.2.1⟩))).2.1 (Kd.V_F (Kd.V_mono (ok' := (fun k_ => ((fun k_ => (P0_28_ k_ ∨ w.heap.size ≤ k_) ∧ k_ ≠ gb266 ∧ k_ ≠ gb271)) k_ ∧ some k_ ≠ (u5 : Value).ownBlock)) (HL270_1.out) (fun k_ hk => ⟨⟨hk.1, ⟨hk.2.2.1, hk.2.2.2⟩⟩, hk.2.1⟩))) (Kd.V_reads' (Kd.V_mono (ok' := (fun k_ => ((fun k_ => (P0_28_ k_ ∨ w.heap.size ≤ k_) ∧ k_ ≠ gb266 ∧ k_ ≠ gb271)) k_ ∧ some k_ ≠ (u5 : Value).ownBlock)) (HL270_2.out) (fun k_ hk => ⟨⟨hk.1, ⟨hk.2.2.1, hk.2.2.2⟩⟩, hk.2.1⟩))).2.1 (Kd.V_F (Kd.V_mono (ok' := (fun k_ => ((fun k_ => (P0_28_ k_ ∨ w.heap.size ≤ k_) ∧ k_ ≠ gb266 ∧ k_ ≠ gb271)) k_ ∧ some k_ ≠ (u5 : Value).ownBlock)) (HL270_2.out) (fun k_ hk => ⟨⟨hk.1, ⟨hk.2.2.1, hk.2.2.2⟩⟩, hk.2.1⟩))) (Kd.V_reads' (Kd.V_mono (ok' := (fun k_ => ((fun k_ => (P0_28_ k_ ∨ w.heap.size ≤ k_) ∧ k_ ≠ gb266 ∧ k_ ≠ gb271)) k_ ∧ some k_ ≠ (u5 : Value).ownBlock)) (HL270_3.out) (fun k_ hk => ⟨⟨hk.1, ⟨hk.2.2.1, hk.2.2.2⟩⟩, hk.2.1⟩))).2.1 (Kd.V_F (Kd.V_mono (ok' := (fun k_ => ((fun k_ => (P0_28_ k_ ∨ w.heap.size ≤ k_) ∧ k_ ≠ gb266 ∧ k_ ≠ gb271)) k_ ∧ some k_ ≠ (u5 : Value).ownBlock)) (HL270_3.out) (fun k_ hk => ⟨⟨hk.1, ⟨hk.2.2.1, hk.2.2.2⟩⟩, hk.2.1⟩))))); (case aB => exact (tB HB)); (case aF => exact (fun k_ hk => ⟨(.inr (Nat.le_trans (tS HB) hk)), Kd.freshB (tK BK266) k_ hk, Kd.freshB (tK BK271) k_ hk⟩)); (case aO => exact (dN HO_5)); (case aS => exact (tS HB)); (case aL => have := LMc11.out; omega); intro v273 w17 ho hb hg hat; rw [← Ny272.out] at ho; have n0_ := Aside0.mk (Kd.V_afterv (ok := (fun k_ => (P0_28_ k_ ∨ w.heap.size ≤ k_) ∧ k_ ≠ gb266 ∧ k_ ≠ gb271)) (dV HO_10) hg hat); have n1_ := Aside0.mk (Kd.V_afterv (ok := (fun k_ => (P0_28_ k_ ∨ w.heap.size ≤ k_) ∧ k_ ≠ gb266 ∧ k_ ≠ gb271)) (dV HO_267028) hg hat); have n2_ := Aside0.mk (blk_grown (tK BK266) hg (Kd.N_ne HO_5.out BK266.out (by decide))); have n3_ := Aside0.mk (Kd.V_afterv (ok := (fun k_ => (P0_28_ k_ ∨ w.heap.size ≤ k_) ∧ k_ ≠ gb266 ∧ k_ ≠ gb271)) (dV HL270_1) hg hat); have n4_ := Aside0.mk (Kd.V_afterv (ok := (fun k_ => (P0_28_ k_ ∨ w.heap.size ≤ k_) ∧ k_ ≠ gb266 ∧ k_ ≠ gb271)) (dV HL270_2) hg hat); have n5_ := Aside0.mk (Kd.V_afterv (ok := (fun k_ => (P0_28_ k_ ∨ w.heap.size ≤ k_) ∧ k_ ≠ gb266 ∧ k_ ≠ gb271)) (dV HL270_3) hg hat); have n6_ := Aside0.mk (blk_grown (tK BK271) hg (Kd.N_away HO_5.out (fun _ hk => hk.2.2))); have n7_ := Aside0.mk (hb); have n8_ := Aside0.mk (ho); revert n0_ n1_ n2_ n3_ n4_ n5_ n6_ n7_ n8_; clear HO_10 HO_267028 BK266 HL270_1 HL270_2 HL270_3 BK271 HB HO_5; intro HO_10 HO_267028 BK266 HL270_1 HL270_2 HL270_3 BK271 HB HO274; clear ho hb hg hat))
        go_roundg k1
        case measure => have := HK1.out; omega
        case rel => exact ⟨(y272), (wrap64 (x12_1 + 1)), tV1, H', ⟨by have := HK1.out; omega⟩, ⟨dN HO274⟩, ⟨dV HO_10⟩, ⟨dV HO_267028⟩, ⟨tK BK266⟩, ⟨tB HB⟩⟩
       ·
        rw [if_neg c11] at H
        exact absurd H (by simp)
      ·
       rw [if_neg c10] at H
       have c10b0 := beq_eq_false_iff_ne.mpr c10
       have c10b1 := bne_iff_ne.mpr c10
       have H' := Aside0.mk H
       clear H
       have p270 : 0 ≤ (x12_1 : Int) := oD
       have q270 : x12_1 < (l0_28.length : Int) := oD
       obtain ⟨ad270, A270_1, c270_1, A270_2, c270_2, A270_3, c270_3, e270, hx270_0, hx270_1, hx270_2, hx270_3, hl270_1, hi270_1, hl270_2, hi270_2, hl270_3, hi270_3⟩ := at_T33 (Kd.V_reads' HO_10.out).2.2 x12_1 p270 q270
       cases e270
       obtain ⟨ce270, hce270, hMe270, hcc270⟩ := Kd.V_get HO_10.out z33 x12_1 p270 (by first | exact q270 | exact oD | (have e_ := (Kd.V_reads' HO_10.out).1; omega))
       obtain ⟨ua270_1, uc270_1, ua270_2, uc270_2, ua270_3, uc270_3, rfl, ul270_1, ge270_1, ul270_2, ge270_2, ul270_3, ge270_3⟩ := k33_openF hMe270
       have hv270_1 := hcc270 1 _ rfl
       rw [add_field _ _ 1 (by omega)] at hv270_1
       replace hv270_1 := Option.some.inj (hv270_1.symm.trans hx270_1)
       injection hv270_1 with hva_ hvn_ hvc_
       rw [hva_] at ge270_1
       rw [hvc_] at ul270_1
       have HL270_1 := Aside0.mk (show Kd.V (Kd.slice 37 k37) 30 _ w.heap.size _ _ ((rd_T33 l0_28 x12_1).f1) from Kd.V_mk ul270_1 ge270_1)
       clear hva_ hvn_ hvc_ ge270_1 ul270_1
       have hv270_2 := hcc270 2 _ rfl
       rw [add_field _ _ 2 (by omega)] at hv270_2
       replace hv270_2 := Option.some.inj (hv270_2.symm.trans hx270_2)
       injection hv270_2 with hva_ hvn_ hvc_
       rw [hva_] at ge270_2
       rw [hvc_] at ul270_2
       have HL270_2 := Aside0.mk (show Kd.V k37 37 _ w.heap.size _ _ ((rd_T33 l0_28 x12_1).f2) from Kd.V_mk ul270_2 ge270_2)
       clear hva_ hvn_ hvc_ ge270_2 ul270_2
       have hv270_3 := hcc270 3 _ rfl
       rw [add_field _ _ 3 (by omega)] at hv270_3
       replace hv270_3 := Option.some.inj (hv270_3.symm.trans hx270_3)
       injection hv270_3 with hva_ hvn_ hvc_
       rw [hva_] at ge270_3
       rw [hvc_] at ul270_3
       have HL270_3 := Aside0.mk (show Kd.V k88 88 _ w.heap.size _ _ ((rd_T33 l0_28 x12_1).f3) from Kd.V_mk ul270_3 ge270_3)
       clear hva_ hvn_ hvc_ ge270_3 ul270_3; clear hcc270 hce270
       have HR270_1 := Aside0.mk hi270_1
       have HC270_1 := Aside0.mk hl270_1
       clear hi270_1 hl270_1
       have HR270_2 := Aside0.mk hi270_2
       have HC270_2 := Aside0.mk hl270_2
       clear hi270_2 hl270_2
       have HR270_3 := Aside0.mk hi270_3
       have HC270_3 := Aside0.mk hl270_3
       clear hi270_3 hl270_3
       replace p270 := eq_true p270
       replace q270 := eq_true q270
       go_wp2_with (first | ((with_reducible refine gate_load (t := 60) (p := 2) rfl ?_); (try (refine gate_guard (by rfl) ?_; dsimp only)); refine wpList_load_row rfl 60 (.tmp 2) rfl gb266 rfl 60 _ (0, 0) _ (tK BK266) Try.underlying60 rfl (by kernel_rfl) ?_) | ((with_reducible refine gate_dst (N := 7) rfl ?_); refine box_event ?hg (N := 7) ?hd (cs := #[.string (⟨#[]⟩ : ByteArray), .slice none 0 0, .slice none 0 0, .slice none 0 0]) (t := 33) ?hr ?_; (case hd => rfl); (case hg => rfl); (case hr => first | (go_simp; done) | (go_simp; rfl)); intro gb271 hg w18 hbox hb; have n0_ := Aside0.mk (Kd.N_below (Kd.N_elderB (dN HO_5) gb271 (Nat.le_of_eq hg.symm)) hb); have n1_ := Aside0.mk (Kd.V_below (Kd.V_elderB (dV HO_10) gb271 (Nat.le_of_eq hg.symm)) hb); have n2_ := Aside0.mk (Kd.V_below (Kd.V_elderB (dV HO_267028) gb271 (Nat.le_of_eq hg.symm)) hb); have n3_ := Aside0.mk (Kd.V_below (Kd.V_elderB (dV HL270_1) gb271 (Nat.le_of_eq hg.symm)) hb); have n4_ := Aside0.mk (Kd.V_below (Kd.V_elderB (dV HL270_2) gb271 (Nat.le_of_eq hg.symm)) hb); have n5_ := Aside0.mk (Kd.V_below (Kd.V_elderB (dV HL270_3) gb271 (Nat.le_of_eq hg.symm)) hb); have n6_ := Aside0.mk (blk_below (tK BK266) hb); have n7_ := Aside0.mk (Kd.C_below (by repeat (first | (with_reducible exact HR270_1.out) | (with_reducible refine Kd.C_alloc ?_ _) | (with_reducible refine Kd.C_drewN ?_ _) | (with_reducible refine Kd.C_drew ?_) | exact HR270_1.out)) hb); have n8_ := Aside0.mk (Kd.C_below (by repeat (first | (with_reducible exact HR270_2.out) | (with_reducible refine Kd.C_alloc ?_ _) | (with_reducible refine Kd.C_drewN ?_ _) | (with_reducible refine Kd.C_drew ?_) | exact HR270_2.out)) hb); have n9_ := Aside0.mk (Kd.C_below (by repeat (first | (with_reducible exact HR270_3.out) | (with_reducible refine Kd.C_alloc ?_ _) | (with_reducible refine Kd.C_drewN ?_ _) | (with_reducible refine Kd.C_drew ?_) | exact HR270_3.out)) hb); have n10_ := Aside0.mk (below_step (tB HB) hb); have n11_ := Aside0.mk (hbox); have n12_ := tZ hg (tS HB); have n13_ := tZ hg (tS HB); have n14_ := tL hg (tK BK266); have n15_ := tG hg (tK BK266); revert n0_ n1_ n2_ n3_ n4_ n5_ n6_ n7_ n8_ n9_ n10_ n11_ n12_ n13_ n14_ n15_; clear HO_5 HO_10 HO_267028 HL270_1 HL270_2 HL270_3 BK266 HR270_1 HR270_2 HR270_3 HB; intro HO_5 HO_10 HO_267028 HL270_1 HL270_2 HL270_3 BK266 HR270_1 HR270_2 HR270_3 HB BK271 GW271 GE271 NB266_271 NB271_266; clear hb hbox hg; have hnb19 := NB271_266.out; have hnc19 := NB266_271.out; have hcz20_0 := cel2 BK271 0 rfl; have hcz20_1 := cel2 BK271 1 rfl; have hcz20_2 := cel2 BK271 2 rfl; have hcz20_3 := cel2 BK271 3 rfl; have hfz20_0 := blk_frozen BK271.out 0; have hfz20_1 := blk_frozen BK271.out 1; have hfz20_2 := blk_frozen BK271.out 2; have hfz20_3 := blk_frozen BK271.out 3))
       go_roundg k1
       case measure => have := HK1.out; omega
       case rel => exact ⟨(x5_1), (wrap64 (x12_1 + 1)), tV1, H', ⟨by have := HK1.out; omega⟩, ⟨dN HO_5⟩, ⟨dV HO_10⟩, ⟨dV HO_267028⟩, ⟨tK BK266⟩, ⟨tB HB⟩⟩
     ·
      rw [if_neg c9] at H
      exact absurd H (by simp)
    ·
     rw [if_neg c8] at H
     exact absurd H (by simp)
   ·
    rw [if_neg c7] at H
    have c7b0 : decide (x12_1 < (l0_28.length : Int)) = false := decide_eq_false c7
    clear c7
    obtain rfl := Option.some.inj H
    go_wp2
    go_ret
    exact ⟨_, tE, by (with_reducible repeat (first | apply Kd.N_alloc | apply Kd.N_drewN | apply Kd.N_drew)); exact Kd.N_mono HO_5.out (fun _ hk => hk.1), by repeat (first | (with_reducible first | exact HB.out | apply below_alloc | apply pw_below_drewN | apply below_drew1 | refine below_set ?_ GE266.out) | exact HB.out)⟩

end Go.Proofs.Ytfbfopfhfeijdaa.Pr
