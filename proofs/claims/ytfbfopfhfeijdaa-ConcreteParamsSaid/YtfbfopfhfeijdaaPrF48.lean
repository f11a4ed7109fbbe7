-- Written by a program of this session (ownprint.py, over the kit's printer). Not trusted: Lean checks it.
import Derived.Test.YtfbfopfhfeijdaaPr0
import Derived.Test.YtfbfopfhfeijdaaCt
import Derived.Test.YtfbfopfhfeijdaaPrF47
import Derived.Test.YtfbfopfhfeijdaaPrF69
import Derived.Test.YtfbfopfhfeijdaaWRepsOne
namespace Go.Proofs.Ytfbfopfhfeijdaa.Pr
open Go.Proofs.Ytfbfopfhfeijdaa.Ct Go.RowKit Go.Proofs.YtfbfopfhfeijdaaW.PrintWords Go.Proofs.YtfbfopfhfeijdaaW.PrintLast Go.Proofs.YtfbfopfhfeijdaaW.PrintMore
attribute [local go_sem] max2_int min2_int max_two min_two max_three min_three max_four min_four   -- for this text's walks alone
set_option linter.unusedVariables false
set_option linter.unusedSimpArgs false

/-! ### pentaglotref02_All: function 48 -/
mutual
def pentaglotref02_All.l0 : Nat → List (S90) → List (List (S37)) → Int → Option ((List (List (S37))))
 | 0, _, _, _ => none
 | k + 1, x0, x3, x4 => if x4 < (x0.length : Int) then (pentaglotref02_All.l1 k x0 x3 x4 (([] : List (List (S37)))) 0) else (some x3)
def pentaglotref02_All.l1 : Nat → List (S90) → List (List (S37)) → Int → List (List (S37)) → Int → Option ((List (List (S37))))
 | 0, _, _, _, _, _ => none
 | k + 1, x0, x3, x4, x5, x6 => if x6 < (x3.length : Int) then (pentaglotref02_All.l2 k x0 x3 x4 x5 x6 0) else (pentaglotref02_All.l0 k x0 x5 (wrap64 (x4 + 1)))
def pentaglotref02_All.l2 : Nat → List (S90) → List (List (S37)) → Int → List (List (S37)) → Int → Int → Option ((List (List (S37))))
 | 0, _, _, _, _, _, _ => none
 | k + 1, x0, x3, x4, x5, x6, x7 => if 0 ≤ x4 then (if x4 < (x0.length : Int) then (if x7 < (((rd_T90 x0 x4).f1).length : Int) then (if 0 ≤ x6 then (if x6 < (x3.length : Int) then (if 0 ≤ x7 then ((pentaglotref02_Put.f k (rd_L2 x3 x6) ((rd_T90 x0 x4).f0) (rdOf ByteArray.empty ((rd_T90 x0 x4).f1) x7)).bind fun t475 => (if x5.length < 5864062014805 then (pentaglotref02_All.l2 k x0 x3 x4 (x5 ++ [t475]) x6 (wrap64 (x7 + 1))) else (none))) else (none)) else (none)) else (none)) else (pentaglotref02_All.l1 k x0 x3 x4 x5 (wrap64 (x6 + 1)))) else (none)) else (none)
end
def pentaglotref02_All.f (k : Nat) (l0 : List (S90)) : Option ((List (List (S37)))) := (pentaglotref02_Dimensions.f k l0).bind fun t460 => (if t460 = true then (pentaglotref02_All.l0 k l0 (([(([] : List (S37)))] : List (List (S37)))) 0) else (some ([] : List (List (S37)))))
def pentaglotref02_All.T14 : Bool × List (List Nat × List Nat) := (true, [([], []), ([], []), ([], []), ([1, 2], [1, 2]), ([3], [3]), ([], []), ([], []), ([5, 6], [5, 6]), ([7], [7]), ([8], [8]), ([], []), ([], []), ([10, 11], [10, 11]), ([12], [12]), ([13], [13]), ([], []), ([14, 15], [14, 15]), ([16], [16]), ([9, 17], [9, 17]), ([4, 18], [4, 18]), ([19], [19]), ([0, 20, 19], [0, 20]), ([21, 21, 0, 1, 2, 3, 4, 5, 6, 7, 8, 9, 10, 11, 12, 13, 14, 15, 16, 17, 18, 19, 20, 21], [0, 21])])
def pentaglotref02_All.B14 : List Nat := [0, 0, 0, 6, 14, 0, 0, 96, 224, 480, 0, 0, 3072, 7168, 15360, 0, 64512, 130048, 262112, 524286, 1048574, 2097151, 4194303]
theorem pentaglotref02_All.tab14 : rtab .any (opsOf Try.f48 14) = pentaglotref02_All.T14 := by kernel_rfl
theorem pentaglotref02_All.bits14 : waitsOk pentaglotref02_All.T14.2 pentaglotref02_All.B14 = true := by kernel_rfl
set_option maxHeartbeats 8000000 in
set_option maxRecDepth 100000 in
theorem pentaglotref02_All.calls (k : Nat) (A0 : Option Addr) (c0 : Nat) (l0 : List (S90)) (r : List (List (S37))) (w : World) (hr0 : Kd.C k90 w A0 l0.length l0) (hc0 : l0.length ≤ c0) (h : pentaglotref02_All.f k l0 = some r) :
 Calls Try.prog 48 #[.slice A0 l0.length c0] w fun e w' => ∃ v0_ : Value, e = .returned (v0_) ∧ Kd.N (Kd.slice 37 k37) 30 w' w.heap.size (fun k_ => (w.heap.size ≤ k_)) v0_ r ∧ Below w.heap.size w w' := by
 have hu37 := Try.underlying37
 have HR0 := Aside0.mk hr0
 have HC0 := Aside0.mk hc0
 clear hr0 hc0
 have HB := Aside0.mk (Below.refl w.heap.size w)
 have H : ((pentaglotref02_Dimensions.f k l0).bind fun t460 => (if t460 = true then (pentaglotref02_All.l0 k l0 (([(([] : List (S37)))] : List (List (S37)))) 0) else (some ([] : List (List (S37)))))) = some r := h
 clear h
 replace H := Option.bind_eq_some_iff.mp H
 obtain ⟨t460, A20, H⟩ := H
 (try dsimp only at H)
 have A2 := Aside0.mk A20
 clear A20
 by_cases c3 : t460 = true
 ·
  subst c3
  rw [if_pos rfl] at H
  obtain ⟨y461, hy461⟩ : ∃ y_ : List (S37), y_ = (([] : List (S37))) := ⟨_, rfl⟩
  replace H : (pentaglotref02_All.l0 k l0 (([y461] : List (List (S37)))) 0) = some r := by first | (rw [hy461]; with_reducible exact H) | (have H2_ := (Option.bind_some _ _).symm.trans H; rw [hy461]; with_reducible exact H2_) | (have H2_ := (Option.bind_some _ _).symm.trans H; with_reducible exact H2_) | with_reducible exact H | (rw [hy461]; exact H) | exact H
  have Ny461 := Aside0.mk hy461
  clear hy461
  obtain ⟨y464, hy464⟩ : ∃ y_ : List (List (S37)), y_ = (([y461] : List (List (S37)))) := ⟨_, rfl⟩
  replace H : (pentaglotref02_All.l0 k l0 y464 0) = some r := by first | (rw [hy464]; with_reducible exact H) | (have H2_ := (Option.bind_some _ _).symm.trans H; rw [hy464]; with_reducible exact H2_) | (have H2_ := (Option.bind_some _ _).symm.trans H; with_reducible exact H2_) | with_reducible exact H | (rw [hy464]; exact H) | exact H
  have Ny464 := Aside0.mk hy464
  clear hy464
  have H' := Aside0.mk H
  clear H
  go_enter Try.func48, Try.ntmps48
  go_wp2_with (first | ((with_reducible refine gate_callee (f := 47) rfl ?_); refine goesL_ (some 9) rfl rfl Try.func47 (by kernel_rfl) rfl #[.slice A0 l0.length c0] rfl (by (try simp only [List.map_toArray, List.map_cons, List.map_nil]); first | done | rfl | (simp only [List.length_drop, List.length_take]; rfl)) ?_; (with_reducible refine (pentaglotref02_Dimensions.calls k _ _ l0 true _ ?s1 ?s2 A2.out).mono ?_); (case s1 => repeat (first | exact HR0.out | (with_reducible refine Kd.C_alloc ?_ _) | (with_reducible refine Kd.C_drewN ?_ _) | (with_reducible refine Kd.C_drew ?_))); (case s2 => exact HC0.out); rintro e w' ⟨rfl, ⟨nd, rfl⟩⟩; refine ⟨_, rfl, ?_⟩) | ((with_reducible refine gate_dst (N := 11) rfl ?_); refine Kd.R_lit k37 _ 37 ?hg (N := 11) ?hd (xs := ([] : List (S37))) (inner := []) (ok := fun _ => True) (okp := fun _ => True) ?hr ?hp (fun _ hk => hk) trivial (Below.refl _ _) (Nat.le_refl _) (by simp) ?_; (case hd => rfl); (case hg => rfl); (case hr => first | (go_simp; done) | (go_simp; rfl)); (case hp => exact (Reps.none _ _)); intro v462 w4 ho5 hb hg_ hnew_; clear hg_ hnew_; (first | rw [← Ny461.out] at ho5 | (simp only [Int.reduceToNat] at ho5; rw [← Ny461.out] at ho5)); have n0_ := Aside0.mk (Kd.R_lower (Kd.R_newM (M := fun k_ => (w.heap.size ≤ k_)) ho5 (tS HB) (fun k_ h_ => h_)) (tS HB)); have n1_ := Aside0.mk (below_step (tB HB) hb); revert n0_ n1_; clear HB; intro HO463 HB; clear hb ho5; obtain ⟨Ao6, co6, eo6⟩ := Kd.R_slice HO463.out; subst eo6) | ((with_reducible refine gate_dst (N := 12) rfl ?_); refine Kd.N_lit (Kd.slice 37 k37) _ 30 ?hg (N' := 12) ?hd (xs := ([y461] : List (List (S37)))) (inner := [.slice Ao6 y461.length co6]) (ok := (fun k_ => (w.heap.size ≤ k_))) (okp := (fun k_ => (w.heap.size ≤ k_))) ?hr ?hp (fun _ hk => hk) ((show ∀ k_, w4.heap.size ≤ k_ → (fun k_ => (w.heap.size ≤ k_)) k_ from fun k_ hk => (Nat.le_trans (tS HB) hk)) _ (Nat.le_refl _)) (Below.refl _ _) (Nat.le_refl _) (by simp) ?_; (case hd => rfl); (case hg => rfl); (case hr => first | (go_simp; done) | (go_simp; rfl)); (case hp => exact (Reps.one (show Kd.FK (Kd.slice 37 k37) _ _ y461 [.slice Ao6 y461.length co6] from (Kd.FK_slice_mk (Kd.R_reads' (Kd.R_mono (ok' := (fun k_ => (w.heap.size ≤ k_))) (HO463.out) (fun k_ hk => hk.1))).2.1 (Kd.R_F (Kd.R_mono (ok' := (fun k_ => (w.heap.size ≤ k_))) (HO463.out) (fun k_ hk => hk.1))))) (Reps.none _ _))); intro v465 w7 ho8 hb hg_ hnew_; clear hg_ hnew_; (first | rw [← Ny464.out] at ho8 | (simp only [Int.reduceToNat] at ho8; rw [← Ny464.out] at ho8)); have n0_ := Aside0.mk (Kd.N_lower ho8 (tS HB)); have n1_ := Aside0.mk (below_step (tB HB) hb); revert n0_ n1_; clear HB HO463; intro HO466 HB; clear hb ho8))
  go_loopg [3, 4] k (fun kq v3 v4 w' => ∃ (x3_1 : List (List (S37))) (x4_1 : Int), v4 = .int .i64 x4_1 ∧ Aside0 (pentaglotref02_All.l0 kq l0 x3_1 x4_1 = some r) ∧ Aside0 (kq ≤ k) ∧ Aside0 (Kd.N (Kd.slice 37 k37) 30 w' w.heap.size (fun k_ => (w.heap.size ≤ k_)) v3 x3_1) ∧ Aside0 (Below w.heap.size w w'))
  case atStart => exact ⟨(y464), (0), tV1, H', ⟨Nat.le_refl _⟩, ⟨dN HO466⟩, ⟨tB HB⟩⟩
  case round =>
   clear H'; (try clear c3)
   obtain ⟨x3_1, x4_1, rfl, HA, HK1, HO_3, HB⟩ := hrel
   cases gk with
   | zero => exact absurd HA.out (by simp [pentaglotref02_All.l0])
   | succ k1 =>
    have H := HA.out
    clear HA
    simp only [pentaglotref02_All.l0] at H
    by_cases c9 : x4_1 < (l0.length : Int)
    ·
     rw [if_pos c9] at H
     have c9b0 : decide (x4_1 < (l0.length : Int)) = true := decide_eq_true c9
     clear c9
     obtain ⟨y467, hy467⟩ : ∃ y_ : List (List (S37)), y_ = (([] : List (List (S37)))) := ⟨_, rfl⟩
     replace H : (pentaglotref02_All.l1 k1 l0 x3_1 x4_1 y467 0) = some r := by first | (rw [hy467]; with_reducible exact H) | (have H2_ := (Option.bind_some _ _).symm.trans H; rw [hy467]; with_reducible exact H2_) | (have H2_ := (Option.bind_some _ _).symm.trans H; with_reducible exact H2_) | with_reducible exact H | (rw [hy467]; exact H) | exact H
     have Ny467 := Aside0.mk hy467
     clear hy467
     have H' := Aside0.mk H
     clear H
     go_wp2_with (first | ((with_reducible refine gate_dst (N := 19) rfl ?_); refine Kd.N_lit (Kd.slice 37 k37) _ 30 ?hg (N' := 19) ?hd (xs := ([] : List (List (S37)))) (inner := []) (ok := (fun k_ => (w.heap.size ≤ k_) ∧ some k_ ≠ (u3 : Value).ownBlock)) (okp := (fun k_ => (w.heap.size ≤ k_) ∧ some k_ ≠ (u3 : Value).ownBlock)) ?hr ?hp (fun _ hk => hk) ((show ∀ k_, wr.heap.size ≤ k_ → (fun k_ => (w.heap.size ≤ k_) ∧ some k_ ≠ (u3 : Value).ownBlock) k_ from fun k_ hk => ⟨(Nat.le_trans (tS HB) hk), Kd.fresh' (Kd.N_lt (dN HO_3)) k_ hk⟩) _ (Nat.le_refl _)) (Below.refl _ _) (Nat.le_refl _) (by simp) ?_; (case hd => rfl); (case hg => rfl); (case hr => first | (go_simp; done) | (go_simp; rfl)); (case hp => exact (Reps.none _ _)); intro v468 w10 ho11 hb hg_ hnew_; clear hg_ hnew_; (first | rw [← Ny467.out] at ho11 | (simp only [Int.reduceToNat] at ho11; rw [← Ny467.out] at ho11)); have n0_ := Aside0.mk (Kd.N_elder' (dN HO_3) (Kd.N_base ho11) hb); have n1_ := Aside0.mk (Kd.N_lower ho11 (tS HB)); have n2_ := Aside0.mk (below_step (tB HB) hb); revert n0_ n1_ n2_; clear HO_3 HB; intro HO_3 HO469 HB; clear hb ho11))
     go_loopg [5, 6] k1 (fun kq v5 v6 w' => ∃ (x5_2 : List (List (S37))) (x6_2 : Int), v6 = .int .i64 x6_2 ∧ Aside0 (pentaglotref02_All.l1 kq l0 x3_1 x4_1 x5_2 x6_2 = some r) ∧ Aside0 (kq ≤ k1) ∧ Aside0 (Kd.N (Kd.slice 37 k37) 30 w' w.heap.size (fun k_ => (w.heap.size ≤ k_) ∧ some k_ ≠ (v5 : Value).ownBlock) u3 x3_1) ∧ Aside0 (Kd.N (Kd.slice 37 k37) 30 w' w.heap.size (fun k_ => (w.heap.size ≤ k_) ∧ some k_ ≠ (u3 : Value).ownBlock) v5 x5_2) ∧ Aside0 (Below w.heap.size w w'))
     case atStart => exact ⟨(y467), (0), tV1, H', ⟨Nat.le_refl _⟩, ⟨dN HO_3⟩, ⟨dN HO469⟩, ⟨tB HB⟩⟩
     case round =>
      clear H'; (try clear c3); (try clear c9); (try clear c9b0)
      obtain ⟨x5_2, x6_2, rfl, HA, HK2, HO_3, HO_5, HB⟩ := hrel
      cases gk with
      | zero => exact absurd HA.out (by simp [pentaglotref02_All.l1])
      | succ k2 =>
       have H := HA.out
       clear HA
       simp only [pentaglotref02_All.l1] at H
       by_cases c12 : x6_2 < (x3_1.length : Int)
       ·
        rw [if_pos c12] at H
        have c12b0 : decide (x6_2 < (x3_1.length : Int)) = true := decide_eq_true c12
        clear c12
        have H' := Aside0.mk H
        clear H
        obtain ⟨Ao13, co13, eo13⟩ := Kd.N_slice HO_3.out
        subst eo13
        go_wp2
        go_loopg [5, 7] k2 (fun kq v5 v7 w' => ∃ (x5_3 : List (List (S37))) (x7_3 : Int), v7 = .int .i64 x7_3 ∧ Aside0 (pentaglotref02_All.l2 kq l0 x3_1 x4_1 x5_3 x6_2 x7_3 = some r) ∧ Aside0 (kq ≤ k2) ∧ Aside0 (Kd.N (Kd.slice 37 k37) 30 w' w.heap.size (fun k_ => (w.heap.size ≤ k_) ∧ some k_ ≠ (v5 : Value).ownBlock) (.slice Ao13 x3_1.length co13) x3_1) ∧ Aside0 (Kd.N (Kd.slice 37 k37) 30 w' w.heap.size (fun k_ => (w.heap.size ≤ k_) ∧ some k_ ≠ ((.slice Ao13 x3_1.length co13) : Value).ownBlock) v5 x5_3) ∧ Aside0 (Below w.heap.size w w'))
        case atStart => exact ⟨(x5_2), (0), tV1, H', ⟨Nat.le_refl _⟩, ⟨dN HO_3⟩, ⟨dN HO_5⟩, ⟨tB HB⟩⟩
        case round =>
         clear H'; (try clear c3); (try clear c9); (try clear c9b0); (try clear c12); (try clear c12b0)
         obtain ⟨x5_3, x7_3, rfl, HA, HK3, HO_3, HO_5, HB⟩ := hrel
         cases gk with
         | zero => exact absurd HA.out (by simp [pentaglotref02_All.l2])
         | succ k3 =>
          have H := HA.out
          clear HA
          simp only [pentaglotref02_All.l2] at H
          by_cases c14 : 0 ≤ x4_1
          ·
           rw [if_pos c14] at H
           have c14b0 : decide (0 ≤ x4_1) = true := decide_eq_true c14
           clear c14
           by_cases c15 : x4_1 < (l0.length : Int)
           ·
            rw [if_pos c15] at H
            have c15b0 : decide (x4_1 < (l0.length : Int)) = true := decide_eq_true c15
            clear c15
            by_cases c16 : x7_3 < (((rd_T90 l0 x4_1).f1).length : Int)
            ·
             rw [if_pos c16] at H
             have c16b0 : decide (x7_3 < (((rd_T90 l0 x4_1).f1).length : Int)) = true := decide_eq_true c16
             clear c16
             by_cases c17 : 0 ≤ x6_2
             ·
              rw [if_pos c17] at H
              have c17b0 : decide (0 ≤ x6_2) = true := decide_eq_true c17
              clear c17
              by_cases c18 : x6_2 < (x3_1.length : Int)
              ·
               rw [if_pos c18] at H
               have c18b0 : decide (x6_2 < (x3_1.length : Int)) = true := decide_eq_true c18
               clear c18
               by_cases c19 : 0 ≤ x7_3
               ·
                rw [if_pos c19] at H
                have c19b0 : decide (0 ≤ x7_3) = true := decide_eq_true c19
                clear c19
                replace H := Option.bind_eq_some_iff.mp H
                obtain ⟨t475, A200, H⟩ := H
                (try dsimp only at H)
                have A20 := Aside0.mk A200
                clear A200
                by_cases c21 : x5_3.length < 5864062014805
                ·
                 rw [if_pos c21] at H
                 have LMc21 := Aside0.mk c21
                 clear c21
                 obtain ⟨y478, hy478⟩ : ∃ y_ : List (List (S37)), y_ = (x5_3 ++ [t475]) := ⟨_, rfl⟩
                 replace H : (pentaglotref02_All.l2 k3 l0 x3_1 x4_1 y478 x6_2 (wrap64 (x7_3 + 1))) = some r := by first | (rw [hy478]; with_reducible exact H) | (have H2_ := (Option.bind_some _ _).symm.trans H; rw [hy478]; with_reducible exact H2_) | (have H2_ := (Option.bind_some _ _).symm.trans H; with_reducible exact H2_) | with_reducible exact H | (rw [hy478]; exact H) | exact H
                 have Ny478 := Aside0.mk hy478
                 clear hy478
                 have H' := Aside0.mk H
                 clear H
                 have p470 : 0 ≤ (x4_1 : Int) := oD
                 have q470 : x4_1 < (l0.length : Int) := oD
                 obtain ⟨ad470, A470_1, c470_1, e470, hx470_0, hx470_1, hl470_1, hi470_1⟩ := at_T90 HR0.out x4_1 p470 q470
                 cases e470
                 replace hx470_0 := celB HB hx470_0
                 replace hx470_1 := celB HB hx470_1
                 have HR470_1 := Aside0.mk hi470_1
                 have HC470_1 := Aside0.mk hl470_1
                 clear hi470_1 hl470_1
                 replace p470 := eq_true p470
                 replace q470 := eq_true q470
                 try go_wp2
                 have n0_ := Aside0.mk (Kd.N_drew HO_3.out)
                 have n1_ := Aside0.mk (Kd.N_drew HO_5.out)
                 have n2_ := Aside0.mk (below_drew1 HB.out)
                 revert n0_ n1_ n2_
                 clear HO_3 HO_5 HB
                 intro HO_3 HO_5 HB
                 have p471 : 0 ≤ (x6_2 : Int) := oD
                 have q471 : x6_2 < (x3_1.length : Int) := oD
                 obtain ⟨ad471, A471_0, c471_0, e471, hx471_0, hl471_0, hi471_0⟩ := at_L2 (Kd.N_reads' HO_3.out).2.2 x6_2 p471 q471
                 cases e471
                 obtain ⟨ce471, hce471, hMe471, hcc471⟩ := Kd.N_get HO_3.out [] x6_2 p471 (by first | exact q471 | exact oD | (have e_ := (Kd.N_reads' HO_3.out).1; omega))
                 obtain ⟨ua471_0, uc471_0, rfl, ul471_0, ge471_0⟩ := Kd.FK_slice_open hMe471
                 have hv471_0 := hcc471 0 _ rfl
                 rw [Nat.add_zero, show ((Kd.slice 37 k37)).sz = 1 from rfl, Nat.mul_one] at hv471_0
                 replace hv471_0 := Option.some.inj (hv471_0.symm.trans hx471_0)
                 injection hv471_0 with hva_ hvn_ hvc_
                 rw [hva_] at ge471_0
                 rw [hvc_] at ul471_0
                 have HL471_0 := Aside0.mk (show Kd.V k37 37 _ w.heap.size _ _ (rd_L2 x3_1 x6_2) from Kd.V_mk ul471_0 ge471_0)
                 clear hva_ hvn_ hvc_ ge471_0 ul471_0; clear hcc471 hce471
                 have HR471_0 := Aside0.mk hi471_0
                 have HC471_0 := Aside0.mk hl471_0
                 clear hi471_0 hl471_0
                 replace p471 := eq_true p471
                 replace q471 := eq_true q471
                 have p472 : 0 ≤ (x4_1 : Int) := oD
                 have q472 : x4_1 < (l0.length : Int) := oD
                 obtain ⟨ad472, A472_1, c472_1, e472, hx472_0, hx472_1, hl472_1, hi472_1⟩ := at_T90 HR0.out x4_1 p472 q472
                 have hw472_1 := hx472_1
                 have hw472_0 := hx472_0
                 obtain rfl : ad470 = ad472 := (by injection e472)
                 replace hx472_0 := celB HB hx472_0
                 replace hx472_1 := celB HB hx472_1
                 have HR472_1 := Aside0.mk hi472_1
                 have HC472_1 := Aside0.mk hl472_1
                 clear hi472_1 hl472_1
                 replace p472 := eq_true p472
                 replace q472 := eq_true q472
                 have p473 : 0 ≤ (x4_1 : Int) := oD
                 have q473 : x4_1 < (l0.length : Int) := oD
                 obtain ⟨ad473, A473_1, c473_1, e473, hx473_0, hx473_1, hl473_1, hi473_1⟩ := at_T90 HR0.out x4_1 p473 q473
                 have hw473_1 := hx473_1
                 have hw473_0 := hx473_0
                 obtain rfl : ad470 = ad473 := (by injection e473)
                 replace hx473_0 := celB HB hx473_0
                 replace hx473_1 := celB HB hx473_1
                 have HR473_1 := Aside0.mk hi473_1
                 have HC473_1 := Aside0.mk hl473_1
                 clear hi473_1 hl473_1
                 replace p473 := eq_true p473
                 replace q473 := eq_true q473
                 have ea_ := Option.some.inj (hx472_1.symm.trans hx473_1)
                 injection ea_ with ea_ en_ ec_
                 subst ea_
                 subst ec_
                 clear en_
                 have p474 : 0 ≤ (x7_3 : Int) := oD
                 have q474 : x7_3 < (((rd_T90 l0 x4_1).f1).length : Int) := oD
                 obtain ⟨ad474, e474, hx474_0⟩ := Kd.at_string HR473_1.out x7_3 p474 q474
                 have hw474_0 := hx474_0
                 cases e474
                 replace hx474_0 := celB HB hx474_0
                 replace p474 := eq_true p474
                 replace q474 := eq_true q474
                 refine start_ (n := 23) (S := fun w' => w'.cell? (ad471.add (x6_2).toNat) = some (.slice A471_0 (rd_L2 x3_1 x6_2).length c471_0) ∧ w'.cell? (ad470.add ((x4_1).toNat * 2)) = some (.string ((rd_T90 l0 x4_1).f0)) ∧ w'.cell? ⟨(ad470.add ((x4_1).toNat * 2)).block, (ad470.add ((x4_1).toNat * 2)).off + 1, none⟩ = some (.slice (some ad474) ((rd_T90 l0 x4_1).f1).length c472_1) ∧ w'.cell? (ad470.add ((x4_1).toNat * 2)) = some (.string ((rd_T90 l0 x4_1).f0)) ∧ w'.cell? ⟨(ad470.add ((x4_1).toNat * 2)).block, (ad470.add ((x4_1).toNat * 2)).off + 1, none⟩ = some (.slice (some ad474) ((rd_T90 l0 x4_1).f1).length c472_1) ∧ w'.cell? (ad474.add (x7_3).toNat) = some (.string (rdOf ByteArray.empty ((rd_T90 l0 x4_1).f1) x7_3))) (ds := [20, 21]) #[false, false, false, false, false, false, false, false, false, false, false, false, false, false, false, false, false, false, false, false, false, false, false] (by kernel_rfl) rfl rfl ⟨hx471_0, ((HB.out.cell (World.block_lt_of_cell? w _ hw472_0)).trans hw472_0), ((HB.out.cell (World.block_lt_of_cell? w _ hw472_1)).trans hw472_1), ((HB.out.cell (World.block_lt_of_cell? w _ hw473_0)).trans hw473_0), ((HB.out.cell (World.block_lt_of_cell? w _ hw473_1)).trans hw473_1), ((HB.out.cell (World.block_lt_of_cell? w _ hw474_0)).trans hw474_0)⟩ (fun hHeld => ?_); refine with_tabW pentaglotref02_All.tab14 pentaglotref02_All.bits14 (fun HT_ HW_ => ?_)
                 generalize wr.drew = w22 at HO_3 HO_5 HB HL471_0 HR471_0 HR472_1 HR473_1 hx471_0 hx472_0 hx472_1 hx473_0 hx473_1 hx474_0 hHeld ⊢
                 refine pure_ (i := 0) (N := some 36) (v := ?_) (a' := ?_) #[true, false, false, false, false, false, false, false, false, false, false, false, false, false, false, false, false, false, false, false, false, false, false] rfl rfl (any_of HT_.out (by kernel_rfl)) (fun _ _ _ h => h) (Or.inl ⟨by rfl, ?_⟩) ?_ ?_
                 rotate_left
                 ·
                  intro w'
                  go_simp
                  with_reducible rfl
                 rotate_left
                 ·
                  simp only [Act.put, List.setIfInBounds_toArray, List.set_cons_zero, List.set_cons_succ, i64_w, i32_w]
                  rfl
                 refine pure_ (i := 1) (N := some 37) (v := ?_) (a' := ?_) #[true, true, false, false, false, false, false, false, false, false, false, false, false, false, false, false, false, false, false, false, false, false, false] rfl rfl (any_of HT_.out (by kernel_rfl)) (fun _ _ _ h => h) (Or.inl ⟨by rfl, ?_⟩) ?_ ?_
                 rotate_left
                 ·
                  intro w'
                  go_simp
                  with_reducible rfl
                 rotate_left
                 ·
                  simp only [Act.put, List.setIfInBounds_toArray, List.set_cons_zero, List.set_cons_succ, i64_w, i32_w]
                  rfl
                 refine pure_ (i := 2) (N := some 38) (v := ?_) (a' := ?_) #[true, true, true, false, false, false, false, false, false, false, false, false, false, false, false, false, false, false, false, false, false, false, false] rfl rfl (any_of HT_.out (by kernel_rfl)) (fun _ _ _ h => h) (Or.inl ⟨by rfl, ?_⟩) ?_ ?_
                 rotate_left
                 ·
                  intro w'
                  go_simp
                  with_reducible rfl
                 rotate_left
                 ·
                  simp only [Act.put, List.setIfInBounds_toArray, List.set_cons_zero, List.set_cons_succ, i64_w, i32_w]
                  rfl
                 refine pure_ (i := 3) (N := some 39) (v := ?_) (a' := ?_) #[true, true, true, true, false, false, false, false, false, false, false, false, false, false, false, false, false, false, false, false, false, false, false] rfl rfl (any_of HT_.out (by kernel_rfl)) (fun _ _ _ h => h) (Or.inl ⟨by rfl, ?_⟩) ?_ ?_
                 rotate_left
                 ·
                  intro w'
                  go_simp
                  with_reducible rfl
                 rotate_left
                 ·
                  simp only [Act.put, List.setIfInBounds_toArray, List.set_cons_zero, List.set_cons_succ, i64_w, i32_w]
                  rfl
                 refine pure_ (i := 5) (N := some 41) (v := ?_) (a' := ?_) #[true, true, true, true, false, true, false, false, false, false, false, false, false, false, false, false, false, false, false, false, false, false, false] rfl rfl (any_of HT_.out (by kernel_rfl)) (fun _ _ _ h => h) (Or.inl ⟨by rfl, ?_⟩) ?_ ?_
                 rotate_left
                 ·
                  intro w'
                  go_simp
                  with_reducible rfl
                 rotate_left
                 ·
                  simp only [Act.put, List.setIfInBounds_toArray, List.set_cons_zero, List.set_cons_succ, i64_w, i32_w]
                  rfl
                 refine pure_ (i := 6) (N := some 42) (v := ?_) (a' := ?_) #[true, true, true, true, false, true, true, false, false, false, false, false, false, false, false, false, false, false, false, false, false, false, false] rfl rfl (any_of HT_.out (by kernel_rfl)) (fun _ _ _ h => h) (Or.inl ⟨by rfl, ?_⟩) ?_ ?_
                 rotate_left
                 ·
                  intro w'
                  go_simp
                  with_reducible rfl
                 rotate_left
                 ·
                  simp only [Act.put, List.setIfInBounds_toArray, List.set_cons_zero, List.set_cons_succ, i64_w, i32_w]
                  rfl
                 refine pure_ (i := 7) (N := some 43) (v := ?_) (a' := ?_) #[true, true, true, true, false, true, true, true, false, false, false, false, false, false, false, false, false, false, false, false, false, false, false] rfl rfl (any_of HT_.out (by kernel_rfl)) (fun _ _ _ h => h) (Or.inl ⟨by rfl, ?_⟩) ?_ ?_
                 rotate_left
                 ·
                  intro w'
                  go_simp
                  with_reducible rfl
                 rotate_left
                 ·
                  simp only [Act.put, List.setIfInBounds_toArray, List.set_cons_zero, List.set_cons_succ, i64_w, i32_w]
                  rfl
                 refine pure_ (i := 8) (N := some 44) (v := ?_) (a' := ?_) #[true, true, true, true, false, true, true, true, true, false, false, false, false, false, false, false, false, false, false, false, false, false, false] rfl rfl (any_of HT_.out (by kernel_rfl)) (fun _ _ _ h => h) (Or.inl ⟨by rfl, ?_⟩) ?_ ?_
                 rotate_left
                 ·
                  intro w'
                  go_simp
                  with_reducible rfl
                 rotate_left
                 ·
                  simp only [Act.put, List.setIfInBounds_toArray, List.set_cons_zero, List.set_cons_succ, i64_w, i32_w]
                  rfl
                 refine pure_ (i := 10) (N := some 46) (v := ?_) (a' := ?_) #[true, true, true, true, false, true, true, true, true, false, true, false, false, false, false, false, false, false, false, false, false, false, false] rfl rfl (any_of HT_.out (by kernel_rfl)) (fun _ _ _ h => h) (Or.inl ⟨by rfl, ?_⟩) ?_ ?_
                 rotate_left
                 ·
                  intro w'
                  go_simp
                  with_reducible rfl
                 rotate_left
                 ·
                  simp only [Act.put, List.setIfInBounds_toArray, List.set_cons_zero, List.set_cons_succ, i64_w, i32_w]
                  rfl
                 refine pure_ (i := 11) (N := some 47) (v := ?_) (a' := ?_) #[true, true, true, true, false, true, true, true, true, false, true, true, false, false, false, false, false, false, false, false, false, false, false] rfl rfl (any_of HT_.out (by kernel_rfl)) (fun _ _ _ h => h) (Or.inl ⟨by rfl, ?_⟩) ?_ ?_
                 rotate_left
                 ·
                  intro w'
                  go_simp
                  with_reducible rfl
                 rotate_left
                 ·
                  simp only [Act.put, List.setIfInBounds_toArray, List.set_cons_zero, List.set_cons_succ, i64_w, i32_w]
                  rfl
                 refine pure_ (i := 12) (N := some 48) (v := ?_) (a' := ?_) #[true, true, true, true, false, true, true, true, true, false, true, true, true, false, false, false, false, false, false, false, false, false, false] rfl rfl (any_of HT_.out (by kernel_rfl)) (fun _ _ _ h => h) (Or.inl ⟨by rfl, ?_⟩) ?_ ?_
                 rotate_left
                 ·
                  intro w'
                  go_simp
                  with_reducible rfl
                 rotate_left
                 ·
                  simp only [Act.put, List.setIfInBounds_toArray, List.set_cons_zero, List.set_cons_succ, i64_w, i32_w]
                  rfl
                 refine pure_ (i := 13) (N := some 49) (v := ?_) (a' := ?_) #[true, true, true, true, false, true, true, true, true, false, true, true, true, true, false, false, false, false, false, false, false, false, false] rfl rfl (any_of HT_.out (by kernel_rfl)) (fun _ _ _ h => h) (Or.inl ⟨by rfl, ?_⟩) ?_ ?_
                 rotate_left
                 ·
                  intro w'
                  go_simp
                  with_reducible rfl
                 rotate_left
                 ·
                  simp only [Act.put, List.setIfInBounds_toArray, List.set_cons_zero, List.set_cons_succ, i64_w, i32_w]
                  rfl
                 refine pure_ (i := 15) (N := some 51) (v := ?_) (a' := ?_) #[true, true, true, true, false, true, true, true, true, false, true, true, true, true, false, true, false, false, false, false, false, false, false] rfl rfl (any_of HT_.out (by kernel_rfl)) (fun _ _ _ h => h) (Or.inl ⟨by rfl, ?_⟩) ?_ ?_
                 rotate_left
                 ·
                  intro w'
                  go_simp
                  with_reducible rfl
                 rotate_left
                 ·
                  simp only [Act.put, List.setIfInBounds_toArray, List.set_cons_zero, List.set_cons_succ, i64_w, i32_w]
                  rfl
                 refine take_ (i := 4) (N := some 40) (v := ?_) (a' := ?_) #[true, true, true, true, true, true, true, true, true, false, true, true, true, true, false, true, false, false, false, false, false, false, false] rfl rfl (take_ofW HT_.out HW_.out (by kernel_rfl)) (fun _ _ _ h => h) (Or.inl ⟨by rfl, ?_⟩) hHeld ?_ ?_
                 rotate_left
                 ·
                  rintro w' ⟨s0, s1, s2, s3, s4, s5⟩
                  go_simp
                  with_reducible rfl
                 rotate_left
                 ·
                  simp only [Act.put, List.setIfInBounds_toArray, List.set_cons_zero, List.set_cons_succ, i64_w, i32_w]
                  rfl
                 refine take_ (i := 9) (N := some 45) (v := ?_) (a' := ?_) #[true, true, true, true, true, true, true, true, true, true, true, true, true, true, false, true, false, false, false, false, false, false, false] rfl rfl (take_ofW HT_.out HW_.out (by kernel_rfl)) (fun _ _ _ h => h) (Or.inl ⟨by rfl, ?_⟩) hHeld ?_ ?_
                 rotate_left
                 ·
                  rintro w' ⟨s0, s1, s2, s3, s4, s5⟩
                  go_simp
                  with_reducible rfl
                 rotate_left
                 ·
                  simp only [Act.put, List.setIfInBounds_toArray, List.set_cons_zero, List.set_cons_succ, i64_w, i32_w]
                  rfl
                 refine take_ (i := 14) (N := some 50) (v := ?_) (a' := ?_) #[true, true, true, true, true, true, true, true, true, true, true, true, true, true, true, true, false, false, false, false, false, false, false] rfl rfl (take_ofW HT_.out HW_.out (by kernel_rfl)) (fun _ _ _ h => h) (Or.inl ⟨by rfl, ?_⟩) hHeld ?_ ?_
                 rotate_left
                 ·
                  rintro w' ⟨s0, s1, s2, s3, s4, s5⟩
                  go_simp
                  with_reducible rfl
                 rotate_left
                 ·
                  simp only [Act.put, List.setIfInBounds_toArray, List.set_cons_zero, List.set_cons_succ, i64_w, i32_w]
                  rfl
                 refine pure_ (i := 16) (N := some 52) (v := ?_) (a' := ?_) #[true, true, true, true, true, true, true, true, true, true, true, true, true, true, true, true, true, false, false, false, false, false, false] rfl rfl (any_of HT_.out (by kernel_rfl)) (fun _ _ _ h => h) (Or.inl ⟨by rfl, ?_⟩) ?_ ?_
                 rotate_left
                 ·
                  intro w'
                  go_simp
                  with_reducible rfl
                 rotate_left
                 ·
                  simp only [Act.put, List.setIfInBounds_toArray, List.set_cons_zero, List.set_cons_succ, i64_w, i32_w]
                  rfl
                 refine take_ (i := 17) (N := some 53) (v := ?_) (a' := ?_) #[true, true, true, true, true, true, true, true, true, true, true, true, true, true, true, true, true, true, false, false, false, false, false] rfl rfl (take_ofW HT_.out HW_.out (by kernel_rfl)) (fun _ _ _ h => h) (Or.inl ⟨by rfl, ?_⟩) hHeld ?_ ?_
                 rotate_left
                 ·
                  rintro w' ⟨s0, s1, s2, s3, s4, s5⟩
                  go_simp
                  with_reducible rfl
                 rotate_left
                 ·
                  simp only [Act.put, List.setIfInBounds_toArray, List.set_cons_zero, List.set_cons_succ, i64_w, i32_w]
                  rfl
                 refine pure_ (i := 18) (N := some 54) (v := ?_) (a' := ?_) #[true, true, true, true, true, true, true, true, true, true, true, true, true, true, true, true, true, true, true, false, false, false, false] rfl rfl (any_of HT_.out (by kernel_rfl)) (fun _ _ _ h => h) (Or.inl ⟨by rfl, ?_⟩) ?_ ?_
                 rotate_left
                 ·
                  intro w'
                  go_simp
                  with_reducible rfl
                 rotate_left
                 ·
                  simp only [Act.put, List.setIfInBounds_toArray, List.set_cons_zero, List.set_cons_succ, i64_w, i32_w]
                  rfl
                 refine one_ (i := 19) (N := some 55) #[true, true, true, true, true, true, true, true, true, true, true, true, true, true, true, true, true, true, true, true, false, false, false] rfl rfl (one_of HT_.out (by kernel_rfl)) (by decide) (fun K hK => ?_)
                 refine goes_ Try.func69 (by kernel_rfl) rfl #[.slice A471_0 (rd_L2 x3_1 x6_2).length c471_0, .agg #[.string ((rd_T90 l0 x4_1).f0), .string (rdOf ByteArray.empty ((rd_T90 l0 x4_1).f1) x7_3)]] (by rfl) rfl rfl (by (try simp only [List.map_toArray, List.map_cons, List.map_nil]); first | done | rfl | (simp only [List.length_drop, List.length_take]; rfl)) ?_
                 with_reducible refine (pentaglotref02_Put.calls k3 _ _ (rd_L2 x3_1 x6_2) ((rd_T90 l0 x4_1).f0) (rdOf ByteArray.empty ((rd_T90 l0 x4_1).f1) x7_3) t475 _ ?s1 ?s2 A20.out).mono ?_
                 (case s1 => repeat (first | exact (by repeat (first | (with_reducible exact HR471_0.out) | (with_reducible refine Kd.C_alloc ?_ _) | (with_reducible refine Kd.C_drewN ?_ _) | (with_reducible refine Kd.C_drew ?_) | exact HR471_0.out)) | (with_reducible refine Kd.C_alloc ?_ _) | (with_reducible refine Kd.C_drewN ?_ _) | (with_reducible refine Kd.C_drew ?_)))
                 (case s2 => exact HC471_0.out)
                 rintro e w23 ⟨v476, rfl, ho0, hb⟩
                 have HS0_ := (hb.cell (World.block_lt_of_cell? _ _ (hHeld.1))).trans (hHeld.1)
                 refine ⟨_, rfl, ?_⟩
                 have n0_ := Aside0.mk (Kd.N_elder' (dN HO_3) (Kd.R_base ho0) hb)
                 have n1_ := Aside0.mk (Kd.N_elder' (dN HO_5) (Kd.R_base ho0) hb)
                 have n2_ := Aside0.mk (Kd.V_elder' (dV HL471_0) (Kd.R_base ho0) hb)
                 have n3_ := Aside0.mk (Kd.R_lower (Kd.R_newM (M := fun k_ => (w.heap.size ≤ k_)) ho0 (tS HB) (fun k_ h_ => h_)) (tS HB))
                 have n4_ := Aside0.mk (Kd.C_below (by repeat (first | (with_reducible exact HR471_0.out) | (with_reducible refine Kd.C_alloc ?_ _) | (with_reducible refine Kd.C_drewN ?_ _) | (with_reducible refine Kd.C_drew ?_) | exact HR471_0.out)) hb)
                 have n5_ := Aside0.mk (below_step (tB HB) hb)
                 revert n0_ n1_ n2_ n3_ n4_ n5_
                 clear HO_3 HO_5 HL471_0 HR471_0 HB
                 intro HO_3 HO_5 HL471_0 HO477 HR471_0 HB
                 (try clear hb); (try clear hk); (try clear ho0)
                 obtain ⟨Ao25, co25, eo25⟩ := Kd.R_slice HO477.out
                 (first | subst eo25 | (injection eo25 with f1_ f2_ f3_; have f4_ := f1_.symm; have f5_ := f3_.symm; clear f1_ f2_ f3_; subst f4_; subst f5_))
                 refine hK.out _ _ ⟨HS0_, ((HB.out.cell (World.block_lt_of_cell? w _ hw472_0)).trans hw472_0), ((HB.out.cell (World.block_lt_of_cell? w _ hw472_1)).trans hw472_1), ((HB.out.cell (World.block_lt_of_cell? w _ hw473_0)).trans hw473_0), ((HB.out.cell (World.block_lt_of_cell? w _ hw473_1)).trans hw473_1), ((HB.out.cell (World.block_lt_of_cell? w _ hw474_0)).trans hw474_0)⟩ (fun hHeld => ?_)
                 clear hK K
                 refine norm_ (a' := ?_) ?_ ?_
                 rotate_left
                 ·
                  show Act.put _ (some 55) _ = _
                  simp only [Act.put, List.setIfInBounds_toArray, List.set_cons_zero, List.set_cons_succ, i64_w, i32_w]
                  rfl
                 refine last_ (i := 20) (N := some 56) #[true, true, true, true, true, true, true, true, true, true, true, true, true, true, true, true, true, true, true, true, true, false, false] rfl rfl (one_of HT_.out (by kernel_rfl)) (by decide) (fun K hK => ?_)
                 refine value_ (w1 := ?_) (v := ?_) (by rfl) rfl ?_ ?_
                 rotate_left 2
                 ·
                  go_simp
                  constructor
                  ·
                   rfl
                  ·
                   rfl
                 refine hK.out _ _ ?_
                 clear hK K
                 refine norm_ (a' := ?_) ?_ ?_
                 rotate_left
                 ·
                  show Act.put _ (some 56) _ = _
                  simp only [Act.put, List.setIfInBounds_toArray, List.set_cons_zero, List.set_cons_succ, i64_w, i32_w]
                  rfl
                 refine last_ (i := 21) (N := some 57) #[true, true, true, true, true, true, true, true, true, true, true, true, true, true, true, true, true, true, true, true, true, true, false] rfl rfl (one_of HT_.out (by kernel_rfl)) (by decide) (fun K hK => ?_)
                 refine Kd.N_append_step (Kd.slice 37 k37) (w0 := w) w.heap.size (by rfl) (.tmp 36) (.tmp 56) 22 30 (.slice none 0 0) 24 rfl Try.underlying22 info30 rfl (by decide) (by omega) u5 x5_3 t475 [.slice Ao25 t475.length co25] (fun k_ => (w.heap.size ≤ k_) ∧ some k_ ≠ (.slice (some ad471) x3_1.length co13 : Value).ownBlock) (fun k_ => ((fun k_ => (w.heap.size ≤ k_) ∧ some k_ ≠ (.slice (some ad471) x3_1.length co13 : Value).ownBlock)) k_ ∧ some k_ ≠ (u5 : Value).ownBlock) rfl rfl ?aP (fun _ hk => hk) ?aF ?aO ?aB ?aS ?aL ?_
                 (case aP => exact (Kd.FK_slice_mk (Kd.R_reads' (Kd.R_mono (ok' := (fun k_ => ((fun k_ => (w.heap.size ≤ k_) ∧ some k_ ≠ (.slice (some ad471) x3_1.length co13 : Value).ownBlock)) k_ ∧ some k_ ≠ (u5 : Value).ownBlock)) (Kd.R_apart' (Kd.R_apart' (HO477.out) (Kd.N_typed HO_3.out) (by decide)) (Kd.N_typed HO_5.out) (by decide)) (fun k_ hk => ⟨⟨hk.1.1.1, hk.1.2⟩, hk.2⟩))).2.1 (Kd.R_F (Kd.R_mono (ok' := (fun k_ => ((fun k_ => (w.heap.size ≤ k_) ∧ some k_ ≠ (.slice (some ad471) x3_1.length co13 : Value).ownBlock)) k_ ∧ some k_ ≠ (u5 : Value).ownBlock)) (Kd.R_apart' (Kd.R_apart' (HO477.out) (Kd.N_typed HO_3.out) (by decide)) (Kd.N_typed HO_5.out) (by decide)) (fun k_ hk => ⟨⟨hk.1.1.1, hk.1.2⟩, hk.2⟩)))))
                 (case aB => exact (tB HB))
                 (case aF => exact (fun k_ hk => ⟨(Nat.le_trans (tS HB) hk), Kd.fresh' (Kd.N_lt (dN HO_3)) k_ hk⟩))
                 (case aO => exact (dN HO_5))
                 (case aS => exact (tS HB))
                 (case aL => have := LMc21.out; omega)
                 intro v479 w24 ho hb hg hat
                 rw [← Ny478.out] at ho
                 have n0_ := Aside0.mk (Kd.N_afterv (ok := (fun k_ => (w.heap.size ≤ k_) ∧ some k_ ≠ (.slice Ao25 t475.length co25 : Value).ownBlock)) (dN HO_3) hg hat)
                 have n1_ := Aside0.mk (Kd.V_afterv (ok := (fun k_ => (w.heap.size ≤ k_) ∧ some k_ ≠ (.slice (some ad471) x3_1.length co13 : Value).ownBlock ∧ some k_ ≠ (.slice Ao25 t475.length co25 : Value).ownBlock)) (dV HL471_0) hg hat)
                 have n2_ := Aside0.mk (hb)
                 have n3_ := Aside0.mk (ho)
                 revert n0_ n1_ n2_ n3_
                 clear HO_3 HL471_0 HB HO_5 HO477
                 intro HO_3 HL471_0 HB HO480
                 clear ho hb hg hat
                 refine hK.out _ _ ?_
                 clear hK K
                 refine norm_ (a' := ?_) ?_ ?_
                 rotate_left
                 ·
                  show Act.put _ (some 57) _ = _
                  simp only [Act.put, List.setIfInBounds_toArray, List.set_cons_zero, List.set_cons_succ, i64_w, i32_w]
                  rfl
                 refine pure_ (i := 22) (N := some 5) (v := ?_) (a' := ?_) #[true, true, true, true, true, true, true, true, true, true, true, true, true, true, true, true, true, true, true, true, true, true, true] rfl rfl (any_of HT_.out (by kernel_rfl)) (fun _ _ _ h => h) (Or.inl ⟨by rfl, ?_⟩) ?_ ?_
                 rotate_left
                 ·
                  intro w'
                  go_simp
                  with_reducible rfl
                 rotate_left
                 ·
                  simp only [Act.put, List.setIfInBounds_toArray, List.set_cons_zero, List.set_cons_succ, i64_w, i32_w]
                  rfl
                 refine done_ (done_of HT_.out (by kernel_rfl)) ?_
                 try go_wp2
                 go_roundg k3
                 case measure => have := HK1.out; have := HK2.out; have := HK3.out; omega
                 case rel => exact ⟨(y478), (wrap64 (x7_3 + 1)), tV1, H', ⟨by have := HK1.out; have := HK2.out; have := HK3.out; omega⟩, ⟨dN HO_3⟩, ⟨dN HO480⟩, ⟨tB HB⟩⟩
                ·
                 rw [if_neg c21] at H
                 exact absurd H (by simp)
               ·
                rw [if_neg c19] at H
                exact absurd H (by simp)
              ·
               rw [if_neg c18] at H
               exact absurd H (by simp)
             ·
              rw [if_neg c17] at H
              exact absurd H (by simp)
            ·
             rw [if_neg c16] at H
             have c16b0 : decide (x7_3 < (((rd_T90 l0 x4_1).f1).length : Int)) = false := decide_eq_false c16
             clear c16
             have H' := Aside0.mk H
             clear H
             have p470 : 0 ≤ (x4_1 : Int) := oD
             have q470 : x4_1 < (l0.length : Int) := oD
             obtain ⟨ad470, A470_1, c470_1, e470, hx470_0, hx470_1, hl470_1, hi470_1⟩ := at_T90 HR0.out x4_1 p470 q470
             cases e470
             replace hx470_0 := celB HB hx470_0
             replace hx470_1 := celB HB hx470_1
             have HR470_1 := Aside0.mk hi470_1
             have HC470_1 := Aside0.mk hl470_1
             clear hi470_1 hl470_1
             replace p470 := eq_true p470
             replace q470 := eq_true q470
             go_wp2
             go_roundg k3
             case measure => have := HK1.out; have := HK2.out; have := HK3.out; omega
             case rel => exact ⟨(x5_3), (wrap64 (x6_2 + 1)), tV1, H', ⟨by have := HK1.out; have := HK2.out; have := HK3.out; omega⟩, ⟨dN HO_3⟩, ⟨dN HO_5⟩, ⟨tB HB⟩⟩
           ·
            rw [if_neg c15] at H
            exact absurd H (by simp)
          ·
           rw [if_neg c14] at H
           exact absurd H (by simp)
       ·
        rw [if_neg c12] at H
        have c12b0 : decide (x6_2 < (x3_1.length : Int)) = false := decide_eq_false c12
        clear c12
        have H' := Aside0.mk H
        clear H
        obtain ⟨Ao26, co26, eo26⟩ := Kd.N_slice HO_3.out
        subst eo26
        go_wp2
        go_roundg k2
        case measure => have := HK1.out; have := HK2.out; omega
        case rel => exact ⟨(x5_2), (wrap64 (x4_1 + 1)), tV1, H', ⟨by have := HK1.out; have := HK2.out; omega⟩, ⟨dN HO_5⟩, ⟨tB HB⟩⟩
    ·
     rw [if_neg c9] at H
     have c9b0 : decide (x4_1 < (l0.length : Int)) = false := decide_eq_false c9
     clear c9
     obtain rfl := Option.some.inj H
     go_wp2
     go_ret
     exact ⟨_, tE, by (with_reducible repeat (first | apply Kd.N_alloc | apply Kd.N_drewN | apply Kd.N_drew)); exact HO_3.out, by repeat (first | (with_reducible first | exact HB.out | apply below_alloc | apply pw_below_drewN | apply below_drew1) | exact HB.out)⟩
 ·
  replace c3 := Bool.eq_false_iff.mpr c3
  subst c3
  rw [if_neg (show ¬ (false = true) by decide)] at H
  obtain rfl := Option.some.inj H
  go_enter Try.func48, Try.ntmps48
  go_wp2_with (first | ((with_reducible refine gate_callee (f := 47) rfl ?_); refine goesL_ (some 9) rfl rfl Try.func47 (by kernel_rfl) rfl #[.slice A0 l0.length c0] rfl (by (try simp only [List.map_toArray, List.map_cons, List.map_nil]); first | done | rfl | (simp only [List.length_drop, List.length_take]; rfl)) ?_; (with_reducible refine (pentaglotref02_Dimensions.calls k _ _ l0 false _ ?s1 ?s2 A2.out).mono ?_); (case s1 => repeat (first | exact HR0.out | (with_reducible refine Kd.C_alloc ?_ _) | (with_reducible refine Kd.C_drewN ?_ _) | (with_reducible refine Kd.C_drew ?_))); (case s2 => exact HC0.out); rintro e w' ⟨rfl, ⟨nd, rfl⟩⟩; refine ⟨_, rfl, ?_⟩))
  go_ret
  exact ⟨_, tE, by first | exact Kd.S_nil _ _ _ _ _ | exact Kd.N_nil _ _ _ _ _ | exact Kd.V_nil _ _ _ _ _ | exact Kd.Q_nil _ _ _ _ _ | exact Kd.R_nil _ _ _ _ _, by repeat (first | (with_reducible first | exact HB.out | apply below_alloc | apply pw_below_drewN | apply below_drew1) | exact HB.out)⟩

end Go.Proofs.Ytfbfopfhfeijdaa.Pr
