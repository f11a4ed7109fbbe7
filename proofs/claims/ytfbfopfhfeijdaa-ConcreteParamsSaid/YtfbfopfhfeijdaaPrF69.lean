-- Written by a program of this session (ownprint.py, over the kit's printer). Not trusted: Lean checks it.
import Derived.Test.YtfbfopfhfeijdaaPr0
import Derived.Test.YtfbfopfhfeijdaaCt
namespace Go.Proofs.Ytfbfopfhfeijdaa.Pr
open Go.Proofs.Ytfbfopfhfeijdaa.Ct Go.RowKit Go.Proofs.YtfbfopfhfeijdaaW.PrintWords Go.Proofs.YtfbfopfhfeijdaaW.PrintLast Go.Proofs.YtfbfopfhfeijdaaW.PrintMore
attribute [local go_sem] max2_int min2_int max_two min_two max_three min_three max_four min_four   -- for this text's walks alone
set_option linter.unusedVariables false
set_option linter.unusedSimpArgs false

/-! ### pentaglotref02_Put: function 69 -/
def pentaglotref02_Put.l0 : Nat → List (S37) → List (S37) → Int → ByteArray → ByteArray → Option ((List (S37)))
 | 0, _, _, _, _, _ => none
 | k + 1, x0, x5, x6, x432000, x432001 => if x6 < (x0.length : Int) then (if 0 ≤ x6 then (if (Op.bytesLess (((rd_T37 x0 x6).f0).toList) x432000.toList) = true then (if x5.length < 4398046511104 then (pentaglotref02_Put.l0 k x0 (x5 ++ [(⟨(rd_T37 x0 x6).f0, (rd_T37 x0 x6).f1⟩ : S37)]) (wrap64 (x6 + 1)) x432000 x432001) else (none)) else (if x5.length < 4398046511104 then ((some (x5 ++ [(⟨x432000, x432001⟩ : S37)] : List (S37))).bind fun y440 => (if x6 ≤ (x0.length : Int) then ((some (x0.drop (x6 : Int).toNat : List (S37))).bind fun y443 => (if y440.length + y443.length < 4398046511104 then (some (y440 ++ y443)) else (none))) else (none))) else (none))) else (none)) else (if x5.length < 4398046511104 then ((some (x5 ++ [(⟨x432000, x432001⟩ : S37)] : List (S37))).bind fun y450 => (if 0 ≤ x6 then (if x6 ≤ (x0.length : Int) then ((some (x0.drop (x6 : Int).toNat : List (S37))).bind fun y453 => (if y450.length + y453.length < 4398046511104 then (some (y450 ++ y453)) else (none))) else (none)) else (none))) else (none))
def pentaglotref02_Put.f (k : Nat) (l0 : List (S37)) (a1_0 : ByteArray) (a1_1 : ByteArray) : Option ((List (S37))) := pentaglotref02_Put.l0 k l0 (([] : List (S37))) 0 a1_0 a1_1
set_option maxHeartbeats 8000000 in
set_option maxRecDepth 100000 in
theorem pentaglotref02_Put.calls (k : Nat) (A0 : Option Addr) (c0 : Nat) (l0 : List (S37)) (a1_0 : ByteArray) (a1_1 : ByteArray) (r : List (S37)) (w : World) (hr0 : Kd.C k37 w A0 l0.length l0) (hc0 : l0.length ≤ c0) (h : pentaglotref02_Put.f k l0 a1_0 a1_1 = some r) :
 Calls Try.prog 69 #[.slice A0 l0.length c0, .agg #[.string a1_0, .string a1_1]] w fun e w' => ∃ v0_ : Value, e = .returned (v0_) ∧ Kd.R k37 37 w' w.heap.size (fun _ => True) v0_ r ∧ Below w.heap.size w w' := by
 have hu37 := Try.underlying37
 have HR0 := Aside0.mk hr0
 have HC0 := Aside0.mk hc0
 clear hr0 hc0
 have HB := Aside0.mk (Below.refl w.heap.size w)
 have H : (pentaglotref02_Put.l0 k l0 (([] : List (S37))) 0 a1_0 a1_1) = some r := h
 clear h
 obtain ⟨y432, hy432⟩ : ∃ y_ : List (S37), y_ = (([] : List (S37))) := ⟨_, rfl⟩
 replace H : (pentaglotref02_Put.l0 k l0 y432 0 a1_0 a1_1) = some r := by first | (rw [hy432]; with_reducible exact H) | (have H2_ := (Option.bind_some _ _).symm.trans H; rw [hy432]; with_reducible exact H2_) | (have H2_ := (Option.bind_some _ _).symm.trans H; with_reducible exact H2_) | with_reducible exact H | (rw [hy432]; exact H) | exact H
 have Ny432 := Aside0.mk hy432
 clear hy432
 have H' := Aside0.mk H
 clear H
 go_enter Try.func69, Try.ntmps69
 go_wp2_with (first | ((with_reducible refine gate_dst (N := 3) rfl ?_); refine box_event ?hg (N := 3) ?hd (cs := #[.string a1_0, .string a1_1]) (t := 37) ?hr ?_; (case hd => rfl); (case hg => rfl); (case hr => first | (go_simp; done) | (go_simp; rfl)); intro gb431 hg w3 hbox hb; have n0_ := Aside0.mk (below_step (tB HB) hb); have n1_ := Aside0.mk (hbox); have n2_ := tZ hg (tS HB); have n3_ := tZ hg (tS HB); revert n0_ n1_ n2_ n3_; clear HB; intro HB BK431 GW431 GE431; clear hb hbox hg) | ((with_reducible refine gate_dst (N := 7) rfl ?_); refine Kd.R_lit k37 _ 37 ?hg (N := 7) ?hd (xs := ([] : List (S37))) (inner := []) (ok := fun _ => True) (okp := fun _ => True) ?hr ?hp (fun _ hk => hk) trivial (Below.refl _ _) (Nat.le_refl _) (by simp) ?_; (case hd => rfl); (case hg => rfl); (case hr => first | (go_simp; done) | (go_simp; rfl)); (case hp => exact (Reps.none _ _)); intro v433 w4 ho5 hb hg_ hnew_; clear hg_ hnew_; (first | rw [← Ny432.out] at ho5 | (simp only [Int.reduceToNat] at ho5; rw [← Ny432.out] at ho5)); have n0_ := Aside0.mk (Kd.R_lower (Kd.R_newB ho5 (tK BK431)) (tS HB)); have n1_ := Aside0.mk (blk_below (tK BK431) hb); have n2_ := Aside0.mk (below_step (tB HB) hb); revert n0_ n1_ n2_; clear BK431 HB; intro HO434 BK431 HB; clear hb ho5))
 repeat (go_quiet (first | ((with_reducible refine gate_dst (N := 3) rfl ?_); refine box_event ?hg (N := 3) ?hd (cs := #[.string a1_0, .string a1_1]) (t := 37) ?hr ?_; (case hd => rfl); (case hg => rfl); (case hr => first | (go_simp; done) | (go_simp; rfl)); intro gb431 hg w3 hbox hb; have n0_ := Aside0.mk (below_step (tB HB) hb); have n1_ := Aside0.mk (hbox); have n2_ := tZ hg (tS HB); have n3_ := tZ hg (tS HB); revert n0_ n1_ n2_ n3_; clear HB; intro HB BK431 GW431 GE431; clear hb hbox hg) | ((with_reducible refine gate_dst (N := 7) rfl ?_); refine Kd.R_lit k37 _ 37 ?hg (N := 7) ?hd (xs := ([] : List (S37))) (inner := []) (ok := fun _ => True) (okp := fun _ => True) ?hr ?hp (fun _ hk => hk) trivial (Below.refl _ _) (Nat.le_refl _) (by simp) ?_; (case hd => rfl); (case hg => rfl); (case hr => first | (go_simp; done) | (go_simp; rfl)); (case hp => exact (Reps.none _ _)); intro v433 w4 ho5 hb hg_ hnew_; clear hg_ hnew_; (first | rw [← Ny432.out] at ho5 | (simp only [Int.reduceToNat] at ho5; rw [← Ny432.out] at ho5)); have n0_ := Aside0.mk (Kd.R_lower (Kd.R_newB ho5 (tK BK431)) (tS HB)); have n1_ := Aside0.mk (blk_below (tK BK431) hb); have n2_ := Aside0.mk (below_step (tB HB) hb); revert n0_ n1_ n2_; clear BK431 HB; intro HO434 BK431 HB; clear hb ho5)); try go_wp2_with (first | ((with_reducible refine gate_dst (N := 3) rfl ?_); refine box_event ?hg (N := 3) ?hd (cs := #[.string a1_0, .string a1_1]) (t := 37) ?hr ?_; (case hd => rfl); (case hg => rfl); (case hr => first | (go_simp; done) | (go_simp; rfl)); intro gb431 hg w3 hbox hb; have n0_ := Aside0.mk (below_step (tB HB) hb); have n1_ := Aside0.mk (hbox); have n2_ := tZ hg (tS HB); have n3_ := tZ hg (tS HB); revert n0_ n1_ n2_ n3_; clear HB; intro HB BK431 GW431 GE431; clear hb hbox hg) | ((with_reducible refine gate_dst (N := 7) rfl ?_); refine Kd.R_lit k37 _ 37 ?hg (N := 7) ?hd (xs := ([] : List (S37))) (inner := []) (ok := fun _ => True) (okp := fun _ => True) ?hr ?hp (fun _ hk => hk) trivial (Below.refl _ _) (Nat.le_refl _) (by simp) ?_; (case hd => rfl); (case hg => rfl); (case hr => first | (go_simp; done) | (go_simp; rfl)); (case hp => exact (Reps.none _ _)); intro v433 w4 ho5 hb hg_ hnew_; clear hg_ hnew_; (first | rw [← Ny432.out] at ho5 | (simp only [Int.reduceToNat] at ho5; rw [← Ny432.out] at ho5)); have n0_ := Aside0.mk (Kd.R_lower (Kd.R_newB ho5 (tK BK431)) (tS HB)); have n1_ := Aside0.mk (blk_below (tK BK431) hb); have n2_ := Aside0.mk (below_step (tB HB) hb); revert n0_ n1_ n2_; clear BK431 HB; intro HO434 BK431 HB; clear hb ho5)))
 go_loopg [5, 6] k (fun kq v5 v6 w' => ∃ (x5_1 : List (S37)) (x6_1 : Int), v6 = .int .i64 x6_1 ∧ Aside0 (pentaglotref02_Put.l0 kq l0 x5_1 x6_1 a1_0 a1_1 = some r) ∧ Aside0 (kq ≤ k) ∧ Aside0 (Kd.R k37 37 w' w.heap.size (fun k_ => k_ ≠ gb431) v5 x5_1) ∧ Aside0 (w'.heap[gb431]? = some (.cells #[.string a1_0, .string a1_1] 37 (0, 0))) ∧ Aside0 (Below w.heap.size w w'))
 case atStart => exact ⟨(y432), (0), tV1, H', ⟨Nat.le_refl _⟩, ⟨dR HO434⟩, ⟨tK BK431⟩, ⟨tB HB⟩⟩
 case round =>
  clear H'
  obtain ⟨x5_1, x6_1, rfl, HA, HK1, HO_5, BK431, HB⟩ := hrel
  cases gk with
  | zero => exact absurd HA.out (by simp [pentaglotref02_Put.l0])
  | succ k1 =>
   have H := HA.out
   clear HA
   simp only [pentaglotref02_Put.l0] at H
   by_cases c6 : x6_1 < (l0.length : Int)
   ·
    rw [if_pos c6] at H
    have c6b0 : decide (x6_1 < (l0.length : Int)) = true := decide_eq_true c6
    clear c6
    by_cases c7 : 0 ≤ x6_1
    ·
     rw [if_pos c7] at H
     have c7b0 : decide (0 ≤ x6_1) = true := decide_eq_true c7
     clear c7
     by_cases c8 : (Op.bytesLess (((rd_T37 l0 x6_1).f0).toList) a1_0.toList) = true
     ·
      rw [if_pos c8] at H
      have c8b0 : (Op.bytesLess (((rd_T37 l0 x6_1).f0).toList) a1_0.toList) = true := c8
      clear c8
      by_cases c9 : x5_1.length < 4398046511104
      ·
       rw [if_pos c9] at H
       have LMc9 := Aside0.mk c9
       clear c9
       obtain ⟨y437, hy437⟩ : ∃ y_ : List (S37), y_ = (x5_1 ++ [(⟨(rd_T37 l0 x6_1).f0, (rd_T37 l0 x6_1).f1⟩ : S37)]) := ⟨_, rfl⟩
       replace H : (pentaglotref02_Put.l0 k1 l0 y437 (wrap64 (x6_1 + 1)) a1_0 a1_1) = some r := by first | (rw [hy437]; with_reducible exact H) | (have H2_ := (Option.bind_some _ _).symm.trans H; rw [hy437]; with_reducible exact H2_) | (have H2_ := (Option.bind_some _ _).symm.trans H; with_reducible exact H2_) | with_reducible exact H | (rw [hy437]; exact H) | exact H
       have Ny437 := Aside0.mk hy437
       clear hy437
       have H' := Aside0.mk H
       clear H
       have p435 : 0 ≤ (x6_1 : Int) := oD
       have q435 : x6_1 < (l0.length : Int) := oD
       obtain ⟨ad435, e435, hx435_0, hx435_1⟩ := at_T37 HR0.out x6_1 p435 q435
       cases e435
       replace hx435_0 := celB HB hx435_0
       replace hx435_1 := celB HB hx435_1
       replace p435 := eq_true p435
       replace q435 := eq_true q435
       obtain ⟨hcz10_0, hcz10_1, hfz10_0, hfz10_1⟩ := bx2 BK431
       have p436 : 0 ≤ (x6_1 : Int) := oD
       have q436 : x6_1 < (l0.length : Int) := oD
       obtain ⟨ad436, e436, hx436_0, hx436_1⟩ := at_T37 HR0.out x6_1 p436 q436
       obtain rfl : ad435 = ad436 := (by injection e436)
       replace hx436_0 := celB HB hx436_0
       replace hx436_1 := celB HB hx436_1
       replace p436 := eq_true p436
       replace q436 := eq_true q436
       go_wp2_with (first | ((with_reducible refine gate_builtin (b := .append) (xs := #[.tmp 22, .tmp 27]) rfl ?_); at_builtin; refine Kd.R_append k37 (w0 := w) w.heap.size rfl (.tmp 22) (.tmp 27) 30 37 (.agg #[(.string ⟨#[]⟩), (.string ⟨#[]⟩)]) 32 rfl Try.underlying30 info37 rfl (by decide) (by omega) u5 x5_1 (⟨(rd_T37 l0 x6_1).f0, (rd_T37 l0 x6_1).f1⟩ : S37) [.string ((rd_T37 l0 x6_1).f0), .string ((rd_T37 l0 x6_1).f1)] (fun k_ => k_ ≠ gb431) (fun _ => False) rfl rfl ?aP (fun _ hk => hk.elim) ?aF ?aO ?aB ?aS ?aL ?_; (case aP => exact k37_mkM _ _ _ (⟨(rd_T37 l0 x6_1).f0, (rd_T37 l0 x6_1).f1⟩ : S37)); (case aB => exact (tB HB)); (case aF => exact (fun k_ hk => Kd.freshB (tK BK431) k_ hk)); (case aO => exact (dR HO_5)); (case aS => exact (tS HB)); (case aL => have := LMc9.out; omega); intro v438 w11 ho hb hg hat; rw [← Ny437.out] at ho; have n0_ := Aside0.mk (blk_grown (tK BK431) hg (Kd.R_away HO_5.out (fun _ hk => hk))); have n1_ := Aside0.mk (hb); have n2_ := Aside0.mk (ho); revert n0_ n1_ n2_; clear BK431 HB HO_5; intro BK431 HB HO439; clear ho hb hg hat))
       repeat (go_quiet (first | ((with_reducible refine gate_builtin (b := .append) (xs := #[.tmp 22, .tmp 27]) rfl ?_); at_builtin; refine Kd.R_append k37 (w0 := w) w.heap.size rfl (.tmp 22) (.tmp 27) 30 37 (.agg #[(.string ⟨#[]⟩), (.string ⟨#[]⟩)]) 32 rfl Try.underlying30 info37 rfl (by decide) (by omega) u5 x5_1 (⟨(rd_T37 l0 x6_1).f0, (rd_T37 l0 x6_1).f1⟩ : S37) [.string ((rd_T37 l0 x6_1).f0), .string ((rd_T37 l0 x6_1).f1)] (fun k_ => k_ ≠ gb431) (fun _ => False) rfl rfl ?aP (fun _ hk => hk.elim) ?aF ?aO ?aB ?aS ?aL ?_; (case aP => exact k37_mkM _ _ _ (⟨(rd_T37 l0 x6_1).f0, (rd_T37 l0 x6_1).f1⟩ : S37)); (case aB => exact (tB HB)); (case aF => exact (fun k_ hk => Kd.freshB (tK BK431) k_ hk)); (case aO => exact (dR HO_5)); (case aS => exact (tS HB)); (case aL => have := LMc9.out; omega); intro v438 w11 ho hb hg hat; rw [← Ny437.out] at ho; have n0_ := Aside0.mk (blk_grown (tK BK431) hg (Kd.R_away HO_5.out (fun _ hk => hk))); have n1_ := Aside0.mk (hb); have n2_ := Aside0.mk (ho); revert n0_ n1_ n2_; clear BK431 HB HO_5; intro BK431 HB HO439; clear ho hb hg hat)); try go_wp2_with (first | ((with_reducible refine gate_builtin (b := .append) (xs := #[.tmp 22, .tmp 27]) rfl ?_); at_builtin; refine Kd.R_append k37 (w0 := w) w.heap.size rfl (.tmp 22) (.tmp 27) 30 37 (.agg #[(.string ⟨#[]⟩), (.string ⟨#[]⟩)]) 32 rfl Try.underlying30 info37 rfl (by decide) (by omega) u5 x5_1 (⟨(rd_T37 l0 x6_1).f0, (rd_T37 l0 x6_1).f1⟩ : S37) [.string ((rd_T37 l0 x6_1).f0), .string ((rd_T37 l0 x6_1).f1)] (fun k_ => k_ ≠ gb431) (fun _ => False) rfl rfl ?aP (fun _ hk => hk.elim) ?aF ?aO ?aB ?aS ?aL ?_; (case aP => exact k37_mkM _ _ _ (⟨(rd_T37 l0 x6_1).f0, (rd_T37 l0 x6_1).f1⟩ : S37)); (case aB => exact (tB HB)); (case aF => exact (fun k_ hk => Kd.freshB (tK BK431) k_ hk)); (case aO => exact (dR HO_5)); (case aS => exact (tS HB)); (case aL => have := LMc9.out; omega); intro v438 w11 ho hb hg hat; rw [← Ny437.out] at ho; have n0_ := Aside0.mk (blk_grown (tK BK431) hg (Kd.R_away HO_5.out (fun _ hk => hk))); have n1_ := Aside0.mk (hb); have n2_ := Aside0.mk (ho); revert n0_ n1_ n2_; clear BK431 HB HO_5; intro BK431 HB HO439; clear ho hb hg hat)))
       go_roundg k1
       case measure => have := HK1.out; omega
       case rel => exact ⟨(y437), (wrap64 (x6_1 + 1)), tV1, H', ⟨by have := HK1.out; omega⟩, ⟨dR HO439⟩, ⟨tK BK431⟩, ⟨tB HB⟩⟩
      ·
       rw [if_neg c9] at H
       exact absurd H (by simp)
     ·
      rw [if_neg c8] at H
      have c8b0 : (Op.bytesLess (((rd_T37 l0 x6_1).f0).toList) a1_0.toList) = false := by simpa using c8
      clear c8
      by_cases c12 : x5_1.length < 4398046511104
      ·
       rw [if_pos c12] at H
       have LMc12 := Aside0.mk c12
       clear c12
       obtain ⟨y440, hy440⟩ : ∃ y_ : List (S37), y_ = (x5_1 ++ [(⟨a1_0, a1_1⟩ : S37)]) := ⟨_, rfl⟩
       replace H : (if x6_1 ≤ (l0.length : Int) then ((some (l0.drop (x6_1 : Int).toNat : List (S37))).bind fun y443 => (if y440.length + y443.length < 4398046511104 then (some (y440 ++ y443)) else (none))) else (none)) = some r := by first | (rw [hy440]; with_reducible exact H) | (have H2_ := (Option.bind_some _ _).symm.trans H; rw [hy440]; with_reducible exact H2_) | (have H2_ := (Option.bind_some _ _).symm.trans H; with_reducible exact H2_) | with_reducible exact H | (rw [hy440]; exact H) | exact H
       have Ny440 := Aside0.mk hy440
       clear hy440
       have c13b0 := eq_true (oD : 0 ≤ x6_1)
       by_cases c14 : x6_1 ≤ (l0.length : Int)
       ·
        rw [if_pos c14] at H
        have c14b0 := eq_true c14
        have c14b1 : decide (x6_1 ≤ (l0.length : Int)) = true := decide_eq_true c14
        clear c14
        obtain ⟨y443, hy443⟩ : ∃ y_ : List (S37), y_ = (l0.drop (x6_1 : Int).toNat) := ⟨_, rfl⟩
        replace H : (if y440.length + y443.length < 4398046511104 then (some (y440 ++ y443)) else (none)) = some r := by first | (rw [hy443]; with_reducible exact H) | (have H2_ := (Option.bind_some _ _).symm.trans H; rw [hy443]; with_reducible exact H2_) | (have H2_ := (Option.bind_some _ _).symm.trans H; with_reducible exact H2_) | with_reducible exact H | (rw [hy443]; exact H) | exact H
        have Ny443 := Aside0.mk hy443
        clear hy443
        by_cases c15 : y440.length + y443.length < 4398046511104
        ·
         rw [if_pos c15] at H
         have LMc15 := Aside0.mk c15
         clear c15
         obtain ⟨y447, hy447⟩ : ∃ y_ : List (S37), y_ = (y440 ++ y443) := ⟨_, rfl⟩
         replace H : (some y447) = some r := by first | (rw [hy447]; with_reducible exact H) | (have H2_ := (Option.bind_some _ _).symm.trans H; rw [hy447]; with_reducible exact H2_) | (have H2_ := (Option.bind_some _ _).symm.trans H; with_reducible exact H2_) | with_reducible exact H | (rw [hy447]; exact H) | exact H
         have Ny447 := Aside0.mk hy447
         clear hy447
         obtain rfl := Option.some.inj H
         have p435 : 0 ≤ (x6_1 : Int) := oD
         have q435 : x6_1 < (l0.length : Int) := oD
         obtain ⟨ad435, e435, hx435_0, hx435_1⟩ := at_T37 HR0.out x6_1 p435 q435
         cases e435
         replace hx435_0 := celB HB hx435_0
         replace hx435_1 := celB HB hx435_1
         replace p435 := eq_true p435
         replace q435 := eq_true q435
         obtain ⟨hcz16_0, hcz16_1, hfz16_0, hfz16_1⟩ := bx2 BK431
         go_wp2_with (first | ((with_reducible refine gate_builtin (b := .append) (xs := #[.tmp 31, .tmp 33]) rfl ?_); at_builtin; refine Kd.R_append k37 (w0 := w) w.heap.size rfl (.tmp 31) (.tmp 33) 30 37 (.agg #[(.string ⟨#[]⟩), (.string ⟨#[]⟩)]) 32 rfl Try.underlying30 info37 rfl (by decide) (by omega) u5 x5_1 (⟨a1_0, a1_1⟩ : S37) [.string a1_0, .string a1_1] (fun k_ => k_ ≠ gb431) (fun _ => False) rfl rfl ?aP (fun _ hk => hk.elim) ?aF ?aO ?aB ?aS ?aL ?_; (case aP => exact k37_mkM _ _ _ (⟨a1_0, a1_1⟩ : S37)); (case aB => exact (tB HB)); (case aF => exact (fun k_ hk => Kd.freshB (tK BK431) k_ hk)); (case aO => exact (dR HO_5)); (case aS => exact (tS HB)); (case aL => have := LMc12.out; omega); intro v441 w17 ho hb hg hat; rw [← Ny440.out] at ho; have n0_ := Aside0.mk (blk_grown (tK BK431) hg (Kd.R_away HO_5.out (fun _ hk => hk))); have n1_ := Aside0.mk (hb); have n2_ := Aside0.mk (ho); revert n0_ n1_ n2_; clear BK431 HB HO_5; intro BK431 HB HO442; clear ho hb hg hat; have q18 : (x6_1 : Int) ≤ ((l0.length : Int) : Int) := oD; obtain ⟨i018, hi018, _, hsz18, _⟩ := info_parts info37; have hroom18 : l0.length ≤ c0 := HC0.out; have hC18 : Kd.C k37 _ (some ad435) l0.length l0 := HR0.out; have q018 : (0 : Int) ≤ (x6_1 : Int) := oD; have hcut18 := cut_from (P := Try.prog) 30 37 .i64 Try.underlying30 hi018 2 hsz18 (some ad435) l0.length c0 x6_1 q018 q18; have hr18 := Kd.C_drop (m := (x6_1 : Int).toNat) (c := c0) hC18 (by omega) hroom18; obtain ⟨A18, hA18⟩ : ∃ A1, A1 = (if c0 = (x6_1 : Int).toNat then (some ad435) else ((some ad435) : Option Addr).map (·.add ((x6_1 : Int).toNat * 2))) := ⟨_, rfl⟩; obtain ⟨c18, hc18⟩ : ∃ c1, c1 = c0 - (x6_1 : Int).toNat := ⟨_, rfl⟩; have hy18 : y443.length = l0.length - (x6_1 : Int).toNat := (by rw [Ny443.out, List.length_drop] <;> omega); rw [show (l0).drop (x6_1 : Int).toNat = y443 from Ny443.out.symm] at hr18; replace hr18 : Kd.C k37 _ A18 y443.length y443 := (by rw [hA18]; exact hr18); rw [← hy18, ← hA18, ← hc18] at hcut18; have HR446 := Aside0.mk hr18; have HC446 := Aside0.mk (show y443.length ≤ c18 from by rw [hy18, hc18]; exact Nat.sub_le_sub_right hroom18 _); clear hr18 hC18 hroom18 hi018 hsz18 hc18; have KY18 := Aside0.mk hy18; have KA18 := Aside0.mk hA18; clear hy18 hA18; replace q18 := eq_true q18) | ((with_reducible refine gate_builtin (b := .append) (xs := #[.tmp 35, .tmp 38]) rfl ?_); at_builtin; refine Kd.R_append_rows k37 (w0 := w) w.heap.size rfl (.tmp 35) (.tmp 38) 30 37 (.agg #[(.string ⟨#[]⟩), (.string ⟨#[]⟩)]) 32 rfl Try.underlying30 info37 rfl (by decide) (by omega) v441 y440 y443 _ _ _ (fun k_ => k_ ≠ gb431) (fun _ => False) rfl rfl ?aO ?aR (fun _ _ h => h) (fun _ h => h.elim) ?aF ?aB ?aS ?aL ?_; (case aR => exact tC HR446 HB); (case aB => exact (tB HB)); (case aF => exact (fun k_ hk => Kd.freshB (tK BK431) k_ hk)); (case aO => exact (dR HO442)); (case aS => exact (tS HB)); (case aL => have := LMc15.out; omega); intro v448 w19 ho hb hg hat; rw [← Ny447.out] at ho; have n0_ := Aside0.mk (blk_grown (tK BK431) hg (Kd.R_away HO442.out (fun _ hk => hk))); have n1_ := Aside0.mk (hb); have n2_ := Aside0.mk (ho); revert n0_ n1_ n2_; clear BK431 HB HO442; intro BK431 HB HO449; clear ho hb hg hat))
         repeat (go_quiet (first | ((with_reducible refine gate_builtin (b := .append) (xs := #[.tmp 31, .tmp 33]) rfl ?_); at_builtin; refine Kd.R_append k37 (w0 := w) w.heap.size rfl (.tmp 31) (.tmp 33) 30 37 (.agg #[(.string ⟨#[]⟩), (.string ⟨#[]⟩)]) 32 rfl Try.underlying30 info37 rfl (by decide) (by omega) u5 x5_1 (⟨a1_0, a1_1⟩ : S37) [.string a1_0, .string a1_1] (fun k_ => k_ ≠ gb431) (fun _ => False) rfl rfl ?aP (fun _ hk => hk.elim) ?aF ?aO ?aB ?aS ?aL ?_; (case aP => exact k37_mkM _ _ _ (⟨a1_0, a1_1⟩ : S37)); (case aB => exact (tB HB)); (case aF => exact (fun k_ hk => Kd.freshB (tK BK431) k_ hk)); (case aO => exact (dR HO_5)); (case aS => exact (tS HB)); (case aL => have := LMc12.out; omega); intro v441 w17 ho hb hg hat; rw [← Ny440.out] at ho; have n0_ := Aside0.mk (blk_grown (tK BK431) hg (Kd.R_away HO_5.out (fun _ hk => hk))); have n1_ := Aside0.mk (hb); have n2_ := Aside0.mk (ho); revert n0_ n1_ n2_; clear BK431 HB HO_5; intro BK431 HB HO442; clear ho hb hg hat; have q18 : (x6_1 : Int) ≤ ((l0.length : Int) : Int) := oD; obtain ⟨i018, hi018, _, hsz18, _⟩ := info_parts info37; have hroom18 : l0.length ≤ c0 := HC0.out; have hC18 : Kd.C k37 _ (some ad435) l0.length l0 := HR0.out; have q018 : (0 : Int) ≤ (x6_1 : Int) := oD; have hcut18 := cut_from (P := Try.prog) 30 37 .i64 Try.underlying30 hi018 2 hsz18 (some ad435) l0.length c0 x6_1 q018 q18; have hr18 := Kd.C_drop (m := (x6_1 : Int).toNat) (c := c0) hC18 (by omega) hroom18; obtain ⟨A18, hA18⟩ : ∃ A1, A1 = (if c0 = (x6_1 : Int).toNat then (some ad435) else ((some ad435) : Option Addr).map (·.add ((x6_1 : Int).toNat * 2))) := ⟨_, rfl⟩; obtain ⟨c18, hc18⟩ : ∃ c1, c1 = c0 - (x6_1 : Int).toNat := ⟨_, rfl⟩; have hy18 : y443.length = l0.length - (x6_1 : Int).toNat := (by rw [Ny443.out, List.length_drop] <;> omega); rw [show (l0).drop (x6_1 : Int).toNat = y443 from Ny443.out.symm] at hr18; replace hr18 : Kd.C k37 _ A18 y443.length y443 := (by rw [hA18]; exact hr18); rw [← hy18, ← hA18, ← hc18] at hcut18; have HR446 := Aside0.mk hr18; have HC446 := Aside0.mk (show y443.length ≤ c18 from by rw [hy18, hc18]; exact Nat.sub_le_sub_right hroom18 _); clear hr18 hC18 hroom18 hi018 hsz18 hc18; have KY18 := Aside0.mk hy18; have KA18 := Aside0.mk hA18; clear hy18 hA18; replace q18 := eq_true q18) | ((with_reducible refine gate_builtin (b := .append) (xs := #[.tmp 35, .tmp 38]) rfl ?_); at_builtin; refine Kd.R_append_rows k37 (w0 := w) w.heap.size rfl (.tmp 35) (.tmp 38) 30 37 (.agg #[(.string ⟨#[]⟩), (.string ⟨#[]⟩)]) 32 rfl Try.underlying30 info37 rfl (by decide) (by omega) v441 y440 y443 _ _ _ (fun k_ => k_ ≠ gb431) (fun _ => False) rfl rfl ?aO ?aR (fun _ _ h => h) (fun _ h => h.elim) ?aF ?aB ?aS ?aL ?_; (case aR => exact tC HR446 HB); (case aB => exact (tB HB)); (case aF => exact (fun k_ hk => Kd.freshB (tK BK431) k_ hk)); (case aO => exact (dR HO442)); (case aS => exact (tS HB)); (case aL => have := LMc15.out; omega); intro v448 w19 ho hb hg hat; rw [← Ny447.out] at ho; have n0_ := Aside0.mk (blk_grown (tK BK431) hg (Kd.R_away HO442.out (fun _ hk => hk))); have n1_ := Aside0.mk (hb); have n2_ := Aside0.mk (ho); revert n0_ n1_ n2_; clear BK431 HB HO442; intro BK431 HB HO449; clear ho hb hg hat)); try go_wp2_with (first | ((with_reducible refine gate_builtin (b := .append) (xs := #[.tmp 31, .tmp 33]) rfl ?_); at_builtin; refine Kd.R_append k37 (w0 := w) w.heap.size rfl (.tmp 31) (.tmp 33) 30 37 (.agg #[(.string ⟨#[]⟩), (.string ⟨#[]⟩)]) 32 rfl Try.underlying30 info37 rfl (by decide) (by omega) u5 x5_1 (⟨a1_0, a1_1⟩ : S37) [.string a1_0, .string a1_1] (fun k_ => k_ ≠ gb431) (fun _ => False) rfl rfl ?aP (fun _ hk => hk.elim) ?aF ?aO ?aB ?aS ?aL ?_; (case aP => exact k37_mkM _ _ _ (⟨a1_0, a1_1⟩ : S37)); (case aB => exact (tB HB)); (case aF => exact (fun k_ hk => Kd.freshB (tK BK431) k_ hk)); (case aO => exact (dR HO_5)); (case aS => exact (tS HB)); (case aL => have := LMc12.out; omega); intro v441 w17 ho hb hg hat; rw [← Ny440.out] at ho; have n0_ := Aside0.mk (blk_grown (tK BK431) hg (Kd.R_away HO_5.out (fun _ hk => hk))); have n1_ := Aside0.mk (hb); have n2_ := Aside0.mk (ho); revert n0_ n1_ n2_; clear BK431 HB HO_5; intro BK431 HB HO442; clear ho hb hg hat; have q18 : (x6_1 : Int) ≤ ((l0.length : Int) : Int) := oD; obtain ⟨i018, hi018, _, hsz18, _⟩ := info_parts info37; have hroom18 : l0.length ≤ c0 := HC0.out; have hC18 : Kd.C k37 _ (some ad435) l0.length l0 := HR0.out; have q018 : (0 : Int) ≤ (x6_1 : Int) := oD; have hcut18 := cut_from (P := Try.prog) 30 37 .i64 Try.underlying30 hi018 2 hsz18 (some ad435) l0.length c0 x6_1 q018 q18; have hr18 := Kd.C_drop (m := (x6_1 : Int).toNat) (c := c0) hC18 (by omega) hroom18; obtain ⟨A18, hA18⟩ : ∃ A1, A1 = (if c0 = (x6_1 : Int).toNat then (some ad435) else ((some ad435) : Option Addr).map (·.add ((x6_1 : Int).toNat * 2))) := ⟨_, rfl⟩; obtain ⟨c18, hc18⟩ : ∃ c1, c1 = c0 - (x6_1 : Int).toNat := ⟨_, rfl⟩; have hy18 : y443.length = l0.length - (x6_1 : Int).toNat := (by rw [Ny443.out, List.length_drop] <;> omega); rw [show (l0).drop (x6_1 : Int).toNat = y443 from Ny443.out.symm] at hr18; replace hr18 : Kd.C k37 _ A18 y443.length y443 := (by rw [hA18]; exact hr18); rw [← hy18, ← hA18, ← hc18] at hcut18; have HR446 := Aside0.mk hr18; have HC446 := Aside0.mk (show y443.length ≤ c18 from by rw [hy18, hc18]; exact Nat.sub_le_sub_right hroom18 _); clear hr18 hC18 hroom18 hi018 hsz18 hc18; have KY18 := Aside0.mk hy18; have KA18 := Aside0.mk hA18; clear hy18 hA18; replace q18 := eq_true q18) | ((with_reducible refine gate_builtin (b := .append) (xs := #[.tmp 35, .tmp 38]) rfl ?_); at_builtin; refine Kd.R_append_rows k37 (w0 := w) w.heap.size rfl (.tmp 35) (.tmp 38) 30 37 (.agg #[(.string ⟨#[]⟩), (.string ⟨#[]⟩)]) 32 rfl Try.underlying30 info37 rfl (by decide) (by omega) v441 y440 y443 _ _ _ (fun k_ => k_ ≠ gb431) (fun _ => False) rfl rfl ?aO ?aR (fun _ _ h => h) (fun _ h => h.elim) ?aF ?aB ?aS ?aL ?_; (case aR => exact tC HR446 HB); (case aB => exact (tB HB)); (case aF => exact (fun k_ hk => Kd.freshB (tK BK431) k_ hk)); (case aO => exact (dR HO442)); (case aS => exact (tS HB)); (case aL => have := LMc15.out; omega); intro v448 w19 ho hb hg hat; rw [← Ny447.out] at ho; have n0_ := Aside0.mk (blk_grown (tK BK431) hg (Kd.R_away HO442.out (fun _ hk => hk))); have n1_ := Aside0.mk (hb); have n2_ := Aside0.mk (ho); revert n0_ n1_ n2_; clear BK431 HB HO442; intro BK431 HB HO449; clear ho hb hg hat)))
         go_ret
         exact ⟨_, tE, by (with_reducible repeat (first | apply Kd.R_alloc | apply Kd.R_drewN | apply Kd.R_drew)); exact Kd.R_mono HO449.out (fun _ hk => trivial), by repeat (first | (with_reducible first | exact HB.out | apply below_alloc | apply pw_below_drewN | apply below_drew1 | refine below_set ?_ GE431.out) | exact HB.out)⟩
        ·
         rw [if_neg c15] at H
         exact absurd H (by simp)
       ·
        rw [if_neg c14] at H
        exact absurd H (by simp)
      ·
       rw [if_neg c12] at H
       exact absurd H (by simp)
    ·
     rw [if_neg c7] at H
     exact absurd H (by simp)
   ·
    rw [if_neg c6] at H
    have c6b0 : decide (x6_1 < (l0.length : Int)) = false := decide_eq_false c6
    clear c6
    by_cases c20 : x5_1.length < 4398046511104
    ·
     rw [if_pos c20] at H
     have LMc20 := Aside0.mk c20
     clear c20
     obtain ⟨y450, hy450⟩ : ∃ y_ : List (S37), y_ = (x5_1 ++ [(⟨a1_0, a1_1⟩ : S37)]) := ⟨_, rfl⟩
     replace H : (if 0 ≤ x6_1 then (if x6_1 ≤ (l0.length : Int) then ((some (l0.drop (x6_1 : Int).toNat : List (S37))).bind fun y453 => (if y450.length + y453.length < 4398046511104 then (some (y450 ++ y453)) else (none))) else (none)) else (none)) = some r := by first | (rw [hy450]; with_reducible exact H) | (have H2_ := (Option.bind_some _ _).symm.trans H; rw [hy450]; with_reducible exact H2_) | (have H2_ := (Option.bind_some _ _).symm.trans H; with_reducible exact H2_) | with_reducible exact H | (rw [hy450]; exact H) | exact H
     have Ny450 := Aside0.mk hy450
     clear hy450
     by_cases c21 : 0 ≤ x6_1
     ·
      rw [if_pos c21] at H
      have c21b0 := eq_true c21
      have c21b1 : decide (0 ≤ x6_1) = true := decide_eq_true c21
      clear c21
      by_cases c22 : x6_1 ≤ (l0.length : Int)
      ·
       rw [if_pos c22] at H
       have c22b0 := eq_true c22
       have c22b1 : decide (x6_1 ≤ (l0.length : Int)) = true := decide_eq_true c22
       clear c22
       obtain ⟨y453, hy453⟩ : ∃ y_ : List (S37), y_ = (l0.drop (x6_1 : Int).toNat) := ⟨_, rfl⟩
       replace H : (if y450.length + y453.length < 4398046511104 then (some (y450 ++ y453)) else (none)) = some r := by first | (rw [hy453]; with_reducible exact H) | (have H2_ := (Option.bind_some _ _).symm.trans H; rw [hy453]; with_reducible exact H2_) | (have H2_ := (Option.bind_some _ _).symm.trans H; with_reducible exact H2_) | with_reducible exact H | (rw [hy453]; exact H) | exact H
       have Ny453 := Aside0.mk hy453
       clear hy453
       by_cases c23 : y450.length + y453.length < 4398046511104
       ·
        rw [if_pos c23] at H
        have LMc23 := Aside0.mk c23
        clear c23
        obtain ⟨y457, hy457⟩ : ∃ y_ : List (S37), y_ = (y450 ++ y453) := ⟨_, rfl⟩
        replace H : (some y457) = some r := by first | (rw [hy457]; with_reducible exact H) | (have H2_ := (Option.bind_some _ _).symm.trans H; rw [hy457]; with_reducible exact H2_) | (have H2_ := (Option.bind_some _ _).symm.trans H; with_reducible exact H2_) | with_reducible exact H | (rw [hy457]; exact H) | exact H
        have Ny457 := Aside0.mk hy457
        clear hy457
        obtain rfl := Option.some.inj H
        obtain ⟨hcz24_0, hcz24_1, hfz24_0, hfz24_1⟩ := bx2 BK431
        go_wp2_with (first | ((with_reducible refine gate_builtin (b := .append) (xs := #[.tmp 31, .tmp 33]) rfl ?_); at_builtin; refine Kd.R_append k37 (w0 := w) w.heap.size rfl (.tmp 31) (.tmp 33) 30 37 (.agg #[(.string ⟨#[]⟩), (.string ⟨#[]⟩)]) 32 rfl Try.underlying30 info37 rfl (by decide) (by omega) u5 x5_1 (⟨a1_0, a1_1⟩ : S37) [.string a1_0, .string a1_1] (fun k_ => k_ ≠ gb431) (fun _ => False) rfl rfl ?aP (fun _ hk => hk.elim) ?aF ?aO ?aB ?aS ?aL ?_; (case aP => exact k37_mkM _ _ _ (⟨a1_0, a1_1⟩ : S37)); (case aB => exact (tB HB)); (case aF => exact (fun k_ hk => Kd.freshB (tK BK431) k_ hk)); (case aO => exact (dR HO_5)); (case aS => exact (tS HB)); (case aL => have := LMc20.out; omega); intro v451 w25 ho hb hg hat; rw [← Ny450.out] at ho; have n0_ := Aside0.mk (blk_grown (tK BK431) hg (Kd.R_away HO_5.out (fun _ hk => hk))); have n1_ := Aside0.mk (hb); have n2_ := Aside0.mk (ho); revert n0_ n1_ n2_; clear BK431 HB HO_5; intro BK431 HB HO452; clear ho hb hg hat; have q26 : (x6_1 : Int) ≤ ((l0.length : Int) : Int) := oD; obtain ⟨i026, hi026, _, hsz26, _⟩ := info_parts info37; have hroom26 : l0.length ≤ c0 := HC0.out; have hC26 : Kd.C k37 _ A0 l0.length l0 := HR0.out; have q026 : (0 : Int) ≤ (x6_1 : Int) := oD; have hcut26 := cut_from (P := Try.prog) 30 37 .i64 Try.underlying30 hi026 2 hsz26 A0 l0.length c0 x6_1 q026 q26; have hr26 := Kd.C_drop (m := (x6_1 : Int).toNat) (c := c0) hC26 (by omega) hroom26; obtain ⟨A26, hA26⟩ : ∃ A1, A1 = (if c0 = (x6_1 : Int).toNat then A0 else (A0 : Option Addr).map (·.add ((x6_1 : Int).toNat * 2))) := ⟨_, rfl⟩; obtain ⟨c26, hc26⟩ : ∃ c1, c1 = c0 - (x6_1 : Int).toNat := ⟨_, rfl⟩; have hy26 : y453.length = l0.length - (x6_1 : Int).toNat := (by rw [Ny453.out, List.length_drop] <;> omega); rw [show (l0).drop (x6_1 : Int).toNat = y453 from Ny453.out.symm] at hr26; replace hr26 : Kd.C k37 _ A26 y453.length y453 := (by rw [hA26]; exact hr26); rw [← hy26, ← hA26, ← hc26] at hcut26; have HR456 := Aside0.mk hr26; have HC456 := Aside0.mk (show y453.length ≤ c26 from by rw [hy26, hc26]; exact Nat.sub_le_sub_right hroom26 _); clear hr26 hC26 hroom26 hi026 hsz26 hc26; have KY26 := Aside0.mk hy26; have KA26 := Aside0.mk hA26; clear hy26 hA26; replace q26 := eq_true q26) | ((with_reducible refine gate_builtin (b := .append) (xs := #[.tmp 35, .tmp 38]) rfl ?_); at_builtin; refine Kd.R_append_rows k37 (w0 := w) w.heap.size rfl (.tmp 35) (.tmp 38) 30 37 (.agg #[(.string ⟨#[]⟩), (.string ⟨#[]⟩)]) 32 rfl Try.underlying30 info37 rfl (by decide) (by omega) v451 y450 y453 _ _ _ (fun k_ => k_ ≠ gb431) (fun _ => False) rfl rfl ?aO ?aR (fun _ _ h => h) (fun _ h => h.elim) ?aF ?aB ?aS ?aL ?_; (case aR => exact tC HR456 HB); (case aB => exact (tB HB)); (case aF => exact (fun k_ hk => Kd.freshB (tK BK431) k_ hk)); (case aO => exact (dR HO452)); (case aS => exact (tS HB)); (case aL => have := LMc23.out; omega); intro v458 w27 ho hb hg hat; rw [← Ny457.out] at ho; have n0_ := Aside0.mk (blk_grown (tK BK431) hg (Kd.R_away HO452.out (fun _ hk => hk))); have n1_ := Aside0.mk (hb); have n2_ := Aside0.mk (ho); revert n0_ n1_ n2_; clear BK431 HB HO452; intro BK431 HB HO459; clear ho hb hg hat))
        repeat (go_quiet (first | ((with_reducible refine gate_builtin (b := .append) (xs := #[.tmp 31, .tmp 33]) rfl ?_); at_builtin; refine Kd.R_append k37 (w0 := w) w.heap.size rfl (.tmp 31) (.tmp 33) 30 37 (.agg #[(.string ⟨#[]⟩), (.string ⟨#[]⟩)]) 32 rfl Try.underlying30 info37 rfl (by decide) (by omega) u5 x5_1 (⟨a1_0, a1_1⟩ : S37) [.string a1_0, .string a1_1] (fun k_ => k_ ≠ gb431) (fun _ => False) rfl rfl ?aP (fun _ hk => hk.elim) ?aF ?aO ?aB ?aS ?aL ?_; (case aP => exact k37_mkM _ _ _ (⟨a1_0, a1_1⟩ : S37)); (case aB => exact (tB HB)); (case aF => exact (fun k_ hk => Kd.freshB (tK BK431) k_ hk)); (case aO => exact (dR HO_5)); (case aS => exact (tS HB)); (case aL => have := LMc20.out; omega); intro v451 w25 ho hb hg hat; rw [← Ny450.out] at ho; have n0_ := Aside0.mk (blk_grown (tK BK431) hg (Kd.R_away HO_5.out (fun _ hk => hk))); have n1_ := Aside0.mk (hb); have n2_ := Aside0.mk (ho); revert n0_ n1_ n2_; clear BK431 HB HO_5; intro BK431 HB HO452; clear ho hb hg hat; have q26 : (x6_1 : Int) ≤ ((l0.length : Int) : Int) := oD; obtain ⟨i026, hi026, _, hsz26, _⟩ := info_parts info37; have hroom26 : l0.length ≤ c0 := HC0.out; have hC26 : Kd.C k37 _ A0 l0.length l0 := HR0.out; have q026 : (0 : Int) ≤ (x6_1 : Int) := oD; have hcut26 := cut_from (P := Try.prog) 30 37 .i64 Try.underlying30 hi026 2 hsz26 A0 l0.length c0 x6_1 q026 q26; have hr26 := Kd.C_drop (m := (x6_1 : Int).toNat) (c := c0) hC26 (by omega) hroom26; obtain ⟨A26, hA26⟩ : ∃ A1, A1 = (if c0 = (x6_1 : Int).toNat then A0 else (A0 : Option Addr).map (·.add ((x6_1 : Int).toNat * 2))) := ⟨_, rfl⟩; obtain ⟨c26, hc26⟩ : ∃ c1, c1 = c0 - (x6_1 : Int).toNat := ⟨_, rfl⟩; have hy26 : y453.length = l0.length - (x6_1 : Int).toNat := (by rw [Ny453.out, List.length_drop] <;> omega); rw [show (l0).drop (x6_1 : Int).toNat = y453 from Ny453.out.symm] at hr26; replace hr26 : Kd.C k37 _ A26 y453.length y453 := (by rw [hA26]; exact hr26); rw [← hy26, ← hA26, ← hc26] at hcut26; have HR456 := Aside0.mk hr26; have HC456 := Aside0.mk (show y453.length ≤ c26 from by rw [hy26, hc26]; exact Nat.sub_le_sub_right hroom26 _); clear hr26 hC26 hroom26 hi026 hsz26 hc26; have KY26 := Aside0.mk hy26; have KA26 := Aside0.mk hA26; clear hy26 hA26; replace q26 := eq_true q26) | ((with_reducible refine gate_builtin (b := .append) (xs := #[.tmp 35, .tmp 38]) rfl ?_); at_builtin; refine Kd.R_append_rows k37 (w0 := w) w.heap.size rfl (.tmp 35) (.tmp 38) 30 37 (.agg #[(.string ⟨#[]⟩), (.string ⟨#[]⟩)]) 32 rfl Try.underlying30 info37 rfl (by decide) (by omega) v451 y450 y453 _ _ _ (fun k_ => k_ ≠ gb431) (fun _ => False) rfl rfl ?aO ?aR (fun _ _ h => h) (fun _ h => h.elim) ?aF ?aB ?aS ?aL ?_; (case aR => exact tC HR456 HB); (case aB => exact (tB HB)); (case aF => exact (fun k_ hk => Kd.freshB (tK BK431) k_ hk)); (case aO => exact (dR HO452)); (case aS => exact (tS HB)); (case aL => have := LMc23.out; omega); intro v458 w27 ho hb hg hat; rw [← Ny457.out] at ho; have n0_ := Aside0.mk (blk_grown (tK BK431) hg (Kd.R_away HO452.out (fun _ hk => hk))); have n1_ := Aside0.mk (hb); have n2_ := Aside0.mk (ho); revert n0_ n1_ n2_; clear BK431 HB HO452; intro BK431 HB HO459; clear ho hb hg hat)); try go_wp2_with (first | ((with_reducible refine gate_builtin (b := .append) (xs := #[.tmp 31, .tmp 33]) rfl ?_); at_builtin; refine Kd.R_append k37 (w0 := w) w.heap.size rfl (.tmp 31) (.tmp 33) 30 37 (.agg #[(.string ⟨#[]⟩), (.string ⟨#[]⟩)]) 32 rfl Try.underlying30 info37 rfl (by decide) (by omega) u5 x5_1 (⟨a1_0, a1_1⟩ : S37) [.string a1_0, .string a1_1] (fun k_ => k_ ≠ gb431) (fun _ => False) rfl rfl ?aP (fun _ hk => hk.elim) ?aF ?aO ?aB ?aS ?aL ?_; (case aP => exact k37_mkM _ _ _ (⟨a1_0, a1_1⟩ : S37)); (case aB => exact (tB HB)); (case aF => exact (fun k_ hk => Kd.freshB (tK BK431) k_ hk)); (case aO => exact (dR HO_5)); (case aS => exact (tS HB)); (case aL => have := LMc20.out; omega); intro v451 w25 ho hb hg hat; rw [← Ny450.out] at ho; have n0_ := Aside0.mk (blk_grown (tK BK431) hg (Kd.R_away HO_5.out (fun _ hk => hk))); have n1_ := Aside0.mk (hb); have n2_ := Aside0.mk (ho); revert n0_ n1_ n2_; clear BK431 HB HO_5; intro BK431 HB HO452; clear ho hb hg hat; have q26 : (x6_1 : Int) ≤ ((l0.length : Int) : Int) := oD; obtain ⟨i026, hi026, _, hsz26, _⟩ := info_parts info37; have hroom26 : l0.length ≤ c0 := HC0.out; have hC26 : Kd.C k37 _ A0 l0.length l0 := HR0.out; have q026 : (0 : Int) ≤ (x6_1 : Int) := oD; have hcut26 := cut_from (P := Try.prog) 30 37 .i64 Try.underlying30 hi026 2 hsz26 A0 l0.length c0 x6_1 q026 q26; have hr26 := Kd.C_drop (m := (x6_1 : Int).toNat) (c := c0) hC26 (by omega) hroom26; obtain ⟨A26, hA26⟩ : ∃ A1, A1 = (if c0 = (x6_1 : Int).toNat then A0 else (A0 : Option Addr).map (·.add ((x6_1 : Int).toNat * 2))) := ⟨_, rfl⟩; obtain ⟨c26, hc26⟩ : ∃ c1, c1 = c0 - (x6_1 : Int).toNat := ⟨_, rfl⟩; have hy26 : y453.length = l0.length - (x6_1 : Int).toNat := (by rw [Ny453.out, List.length_drop] <;> omega); rw [show (l0).drop (x6_1 : Int).toNat = y453 from Ny453.out.symm] at hr26; replace hr26 : Kd.C k37 _ A26 y453.length y453 := (by rw [hA26]; exact hr26); rw [← hy26, ← hA26, ← hc26] at hcut26; have HR456 := Aside0.mk hr26; have HC456 := Aside0.mk (show y453.length ≤ c26 from by rw [hy26, hc26]; exact Nat.sub_le_sub_right hroom26 _); clear hr26 hC26 hroom26 hi026 hsz26 hc26; have KY26 := Aside0.mk hy26; have KA26 := Aside0.mk hA26; clear hy26 hA26; replace q26 := eq_true q26) | ((with_reducible refine gate_builtin (b := .append) (xs := #[.tmp 35, .tmp 38]) rfl ?_); at_builtin; refine Kd.R_append_rows k37 (w0 := w) w.heap.size rfl (.tmp 35) (.tmp 38) 30 37 (.agg #[(.string ⟨#[]⟩), (.string ⟨#[]⟩)]) 32 rfl Try.underlying30 info37 rfl (by decide) (by omega) v451 y450 y453 _ _ _ (fun k_ => k_ ≠ gb431) (fun _ => False) rfl rfl ?aO ?aR (fun _ _ h => h) (fun _ h => h.elim) ?aF ?aB ?aS ?aL ?_; (case aR => exact tC HR456 HB); (case aB => exact (tB HB)); (case aF => exact (fun k_ hk => Kd.freshB (tK BK431) k_ hk)); (case aO => exact (dR HO452)); (case aS => exact (tS HB)); (case aL => have := LMc23.out; omega); intro v458 w27 ho hb hg hat; rw [← Ny457.out] at ho; have n0_ := Aside0.mk (blk_grown (tK BK431) hg (Kd.R_away HO452.out (fun _ hk => hk))); have n1_ := Aside0.mk (hb); have n2_ := Aside0.mk (ho); revert n0_ n1_ n2_; clear BK431 HB HO452; intro BK431 HB HO459; clear ho hb hg hat)))
        go_ret
        exact ⟨_, tE, by (with_reducible repeat (first | apply Kd.R_alloc | apply Kd.R_drewN | apply Kd.R_drew)); exact Kd.R_mono HO459.out (fun _ hk => trivial), by repeat (first | (with_reducible first | exact HB.out | apply below_alloc | apply pw_below_drewN | apply below_drew1 | refine below_set ?_ GE431.out) | exact HB.out)⟩
       ·
        rw [if_neg c23] at H
        exact absurd H (by simp)
      ·
       rw [if_neg c22] at H
       exact absurd H (by simp)
     ·
      rw [if_neg c21] at H
      exact absurd H (by simp)
    ·
     rw [if_neg c20] at H
     exact absurd H (by simp)

end Go.Proofs.Ytfbfopfhfeijdaa.Pr
