-- Written by a program of this session (ownprint.py, over the kit's printer). Not trusted: Lean checks it.
import Derived.Test.YtfbfopfhfeijdaaPr0
import Derived.Test.YtfbfopfhfeijdaaCt
import Derived.Test.YtfbfopfhfeijdaaPrF47
import Derived.Test.YtfbfopfhfeijdaaPrF48
namespace Go.Proofs.Ytfbfopfhfeijdaa.Pr
open Go.Proofs.Ytfbfopfhfeijdaa.Ct Go.RowKit Go.Proofs.YtfbfopfhfeijdaaW.PrintWords Go.Proofs.YtfbfopfhfeijdaaW.PrintLast Go.Proofs.YtfbfopfhfeijdaaW.PrintMore
attribute [local go_sem] max2_int min2_int max_two min_two max_three min_three max_four min_four   -- for this text's walks alone
set_option linter.unusedVariables false
set_option linter.unusedSimpArgs false

/-! ### pentaglotref33_Params: function 31 -/
def pentaglotref33_Params.l0 : Nat → Int → List (S90) → Int → Int → ByteArray → List (S90) → List ByteArray → Option ((List (List (S37))))
 | 0, _, _, _, _, _, _, _ => none
 | k + 1, x3, x7, x8, x9, x482000, x482001, x482002 => if x9 < x8 then (if 0 ≤ x9 then (if x9 < (x7.length : Int) then (pentaglotref33_Params.l0 k (mn (wrap64 (x3 * (((rd_T90 x7 x9).f1).length : Int))) 65) x7 x8 (wrap64 (x9 + 1)) x482000 x482001 x482002) else (none)) else (none)) else (if x3 > 64 then (some ([] : List (List (S37)))) else ((pentaglotref02_Dimensions.f k x482001).bind fun t484 => (if t484 = true then ((pentaglotref02_All.f k x482001).bind fun t485 => (some t485)) else (some ([] : List (List (S37)))))))
def pentaglotref33_Params.f (k : Nat) (a0_0 : ByteArray) (l0_1 : List (S90)) (l0_2 : List ByteArray) : Option ((List (List (S37)))) := pentaglotref33_Params.l0 k 1 l0_1 (l0_1.length : Int) 0 a0_0 l0_1 l0_2
set_option maxHeartbeats 8000000 in
set_option maxRecDepth 100000 in
theorem pentaglotref33_Params.calls (k : Nat) (a0_0 : ByteArray) (A0_1 : Option Addr) (c0_1 : Nat) (l0_1 : List (S90)) (A0_2 : Option Addr) (c0_2 : Nat) (l0_2 : List ByteArray) (r : List (List (S37))) (w : World) (hr0_1 : Kd.C k90 w A0_1 l0_1.length l0_1) (hc0_1 : l0_1.length ≤ c0_1) (hr0_2 : Kd.C Kd.string w A0_2 l0_2.length l0_2) (hc0_2 : l0_2.length ≤ c0_2) (h : pentaglotref33_Params.f k a0_0 l0_1 l0_2 = some r) :
 Calls Try.prog 31 #[.agg #[.string a0_0, .slice A0_1 l0_1.length c0_1, .slice A0_2 l0_2.length c0_2]] w fun e w' => ∃ v0_ : Value, e = .returned (v0_) ∧ Kd.N (Kd.slice 37 k37) 30 w' w.heap.size (fun k_ => (w.heap.size ≤ k_)) v0_ r ∧ Below w.heap.size w w' := by
 have hu68 := Try.underlying68
 have hu90 := Try.underlying90
 have HR0_1 := Aside0.mk hr0_1
 have HC0_1 := Aside0.mk hc0_1
 clear hr0_1 hc0_1
 have HR0_2 := Aside0.mk hr0_2
 have HC0_2 := Aside0.mk hc0_2
 clear hr0_2 hc0_2
 have HB := Aside0.mk (Below.refl w.heap.size w)
 have H : (pentaglotref33_Params.l0 k 1 l0_1 (l0_1.length : Int) 0 a0_0 l0_1 l0_2) = some r := h
 clear h
 have H' := Aside0.mk H
 clear H
 go_enter Try.func31, Try.ntmps31
 go_wp2_with (first | ((with_reducible refine gate_dst (N := 1) rfl ?_); refine box_event ?hg (N := 1) ?hd (cs := #[.string a0_0, .slice A0_1 l0_1.length c0_1, .slice A0_2 l0_2.length c0_2]) (t := 68) ?hr ?_; (case hd => rfl); (case hg => rfl); (case hr => first | (go_simp; done) | (go_simp; rfl)); intro gb481 hg w2 hbox hb; have n0_ := Aside0.mk (below_step (tB HB) hb); have n1_ := Aside0.mk (hbox); have n2_ := tZ hg (tS HB); have n3_ := tZ hg (tS HB); revert n0_ n1_ n2_ n3_; clear HB; intro HB BK481 GW481 GE481; clear hb hbox hg; have hcz3_0 := cel2 BK481 0 rfl; have hcz3_1 := cel2 BK481 1 rfl; have hcz3_2 := cel2 BK481 2 rfl; have hfz3_0 := blk_frozen BK481.out 0; have hfz3_1 := blk_frozen BK481.out 1; have hfz3_2 := blk_frozen BK481.out 2))
 go_loopg [3, 9] k (fun kq v3 v9 w' => ∃ (x3_1 : Int) (x9_1 : Int), v3 = .int .i64 x3_1 ∧ v9 = .int .i64 x9_1 ∧ Aside0 (pentaglotref33_Params.l0 kq x3_1 l0_1 (l0_1.length : Int) x9_1 a0_0 l0_1 l0_2 = some r) ∧ Aside0 (kq ≤ k) ∧ Aside0 (w'.heap[gb481]? = some (.cells #[.string a0_0, (.slice A0_1 l0_1.length c0_1), (.slice A0_2 l0_2.length c0_2)] 68 (0, 0))) ∧ Aside0 (Below w.heap.size w w'))
 case atStart => exact ⟨(1), (0), tV1, tV1, H', ⟨Nat.le_refl _⟩, ⟨tK BK481⟩, ⟨tB HB⟩⟩
 case round =>
  clear H'; (try clear hcz3_0); (try clear hcz3_1); (try clear hcz3_2); (try clear hfz3_0); (try clear hfz3_1); (try clear hfz3_2)
  obtain ⟨x3_1, x9_1, rfl, rfl, HA, HK1, BK481, HB⟩ := hrel
  cases gk with
  | zero => exact absurd HA.out (by simp [pentaglotref33_Params.l0])
  | succ k1 =>
   have H := HA.out
   clear HA
   simp only [pentaglotref33_Params.l0] at H
   by_cases c4 : x9_1 < (l0_1.length : Int)
   ·
    rw [if_pos c4] at H
    have c4b0 : decide (x9_1 < (l0_1.length : Int)) = true := decide_eq_true c4
    clear c4
    by_cases c5 : 0 ≤ x9_1
    ·
     rw [if_pos c5] at H
     have c5b0 : decide (0 ≤ x9_1) = true := decide_eq_true c5
     clear c5
     by_cases c6 : x9_1 < (l0_1.length : Int)
     ·
      rw [if_pos c6] at H
      have c6b0 : decide (x9_1 < (l0_1.length : Int)) = true := decide_eq_true c6
      clear c6
      obtain ⟨ji7, hji7⟩ : ∃ j_ : Int, (mn (wrap64 (x3_1 * (((rd_T90 l0_1 x9_1).f1).length : Int))) 65) = j_ := ⟨_, rfl⟩
      replace H : (pentaglotref33_Params.l0 k1 ji7 l0_1 (l0_1.length : Int) (wrap64 (x9_1 + 1)) a0_0 l0_1 l0_2) = some r := by first | (rw [hji7] at H; exact H) | (simp only [hji7] at H ⊢; exact H)
      have hji7_ : (if 65 < (wrap64 (x3_1 * (((rd_T90 l0_1 x9_1).f1).length : Int))) then 65 else (wrap64 (x3_1 * (((rd_T90 l0_1 x9_1).f1).length : Int)))) = ji7 := hji7
      have H' := Aside0.mk H
      clear H
      have p482 : 0 ≤ (x9_1 : Int) := oD
      have q482 : x9_1 < (l0_1.length : Int) := oD
      obtain ⟨ad482, A482_1, c482_1, e482, hx482_0, hx482_1, hl482_1, hi482_1⟩ := at_T90 HR0_1.out x9_1 p482 q482
      cases e482
      replace hx482_0 := celB HB hx482_0
      replace hx482_1 := celB HB hx482_1
      have HR482_1 := Aside0.mk hi482_1
      have HC482_1 := Aside0.mk hl482_1
      clear hi482_1 hl482_1
      replace p482 := eq_true p482
      replace q482 := eq_true q482
      go_wp2_with (first | ((with_reducible refine gate_dst (N := 5) rfl ?_); refine box_event ?hg (N := 5) ?hd (cs := #[.string (⟨#[]⟩ : ByteArray), .slice none 0 0]) (t := 90) ?hr ?_; (case hd => rfl); (case hg => rfl); (case hr => first | (go_simp; done) | (go_simp; rfl)); intro gb483 hg w8 hbox hb; have n0_ := Aside0.mk (blk_below (tK BK481) hb); have n1_ := Aside0.mk (below_step (tB HB) hb); have n2_ := Aside0.mk (hbox); have n3_ := tZ hg (tS HB); have n4_ := tZ hg (tS HB); have n5_ := tL hg (tK BK481); have n6_ := tG hg (tK BK481); revert n0_ n1_ n2_ n3_ n4_ n5_ n6_; clear BK481 HB; intro BK481 HB BK483 GW483 GE483 NB481_483 NB483_481; clear hb hbox hg; have hnb9 := NB483_481.out; have hnc9 := NB481_483.out; have hcz10_0 := cel2 BK483 0 rfl; have hcz10_1 := cel2 BK483 1 rfl; have hfz10_0 := blk_frozen BK483.out 0; have hfz10_1 := blk_frozen BK483.out 1))
      go_roundg k1
      case measure => have := HK1.out; omega
      case rel => exact ⟨(ji7), (wrap64 (x9_1 + 1)), (by first | rfl | (simp; done) | (simp only [← hji7] <;> (first | rfl | simp)) | (simp [*]; done)), tV1, H', ⟨by have := HK1.out; omega⟩, ⟨tK BK481⟩, ⟨tB HB⟩⟩
     ·
      rw [if_neg c6] at H
      exact absurd H (by simp)
    ·
     rw [if_neg c5] at H
     exact absurd H (by simp)
   ·
    rw [if_neg c4] at H
    have c4b0 : decide (x9_1 < (l0_1.length : Int)) = false := decide_eq_false c4
    clear c4
    by_cases c11 : x3_1 > 64
    ·
     rw [if_pos c11] at H
     have c11b0 : decide (64 < x3_1) = true := decide_eq_true c11
     clear c11
     obtain rfl := Option.some.inj H
     go_wp2
     go_ret
     exact ⟨_, tE, by first | exact Kd.S_nil _ _ _ _ _ | exact Kd.N_nil _ _ _ _ _ | exact Kd.V_nil _ _ _ _ _ | exact Kd.Q_nil _ _ _ _ _ | exact Kd.R_nil _ _ _ _ _, by repeat (first | (with_reducible first | exact HB.out | apply below_alloc | apply pw_below_drewN | apply below_drew1 | refine below_set ?_ GE481.out) | exact HB.out)⟩
    ·
     rw [if_neg c11] at H
     have c11b0 : decide (64 < x3_1) = false := decide_eq_false c11
     clear c11
     replace H := Option.bind_eq_some_iff.mp H
     obtain ⟨t484, A120, H⟩ := H
     (try dsimp only at H)
     have A12 := Aside0.mk A120
     clear A120
     by_cases c13 : t484 = true
     ·
      subst c13
      rw [if_pos rfl] at H
      replace H := Option.bind_eq_some_iff.mp H
      obtain ⟨t485, A140, H⟩ := H
      (try dsimp only at H)
      have A14 := Aside0.mk A140
      clear A140
      obtain rfl := Option.some.inj H
      obtain ⟨hcz15_0, hcz15_1, hcz15_2, hfz15_0, hfz15_1, hfz15_2⟩ := bx3 BK481
      go_wp2_with (first | (go_at_call 47; (with_reducible refine (pentaglotref02_Dimensions.calls k1 _ _ l0_1 true _ ?s1 ?s2 A12.out).mono ?_); (case s1 => exact tC HR0_1 HB); (case s2 => exact HC0_1.out); rintro e w' ⟨rfl, ⟨nd, rfl⟩⟩) | ((with_reducible refine gate_callee (f := 48) rfl ?_); refine goesL_ (some 30) rfl rfl Try.func48 (by kernel_rfl) rfl #[.slice A0_1 l0_1.length c0_1] rfl (by (try simp only [List.map_toArray, List.map_cons, List.map_nil]); first | done | rfl | (simp only [List.length_drop, List.length_take]; rfl)) ?_; (with_reducible refine (pentaglotref02_All.calls k1 _ _ l0_1 t485 _ ?s1 ?s2 A14.out).mono ?_); (case s1 => repeat (first | exact (Kd.C_below HR0_1.out (tB HB)) | (with_reducible refine Kd.C_alloc ?_ _) | (with_reducible refine Kd.C_drewN ?_ _) | (with_reducible refine Kd.C_drew ?_))); (case s2 => exact HC0_1.out); rintro e w16 ⟨v486, rfl, ho0, hb⟩; refine ⟨_, rfl, ?_⟩; have n0_ := Aside0.mk (Kd.N_lower (Kd.N_mono (ok' := fun k_ => (w.heap.size ≤ k_) ∧ k_ ≠ gb481) ho0 (fun k_ hk_ => ⟨(Nat.le_trans (tS HB) hk_), (Kd.freshB (tK BK481) k_ hk_)⟩)) (tS HB)); have n1_ := Aside0.mk (blk_below (tK BK481) hb); have n2_ := Aside0.mk (below_step (tB HB) hb); revert n0_ n1_ n2_; clear BK481 HB; intro HO487 BK481 HB; (try clear hb); (try clear hb2); (try clear hk); (try clear hi); (try clear ho0)))
      go_ret
      exact ⟨_, tE, by (with_reducible repeat (first | apply Kd.N_alloc | apply Kd.N_drewN | apply Kd.N_drew)); exact Kd.N_mono HO487.out (fun _ hk => hk.1), by repeat (first | (with_reducible first | exact HB.out | apply below_alloc | apply pw_below_drewN | apply below_drew1 | refine below_set ?_ GE481.out) | exact HB.out)⟩
     ·
      replace c13 := Bool.eq_false_iff.mpr c13
      subst c13
      rw [if_neg (show ¬ (false = true) by decide)] at H
      obtain rfl := Option.some.inj H
      obtain ⟨hcz17_0, hcz17_1, hcz17_2, hfz17_0, hfz17_1, hfz17_2⟩ := bx3 BK481
      go_wp2_with (first | (go_at_call 47; (with_reducible refine (pentaglotref02_Dimensions.calls k1 _ _ l0_1 false _ ?s1 ?s2 A12.out).mono ?_); (case s1 => exact tC HR0_1 HB); (case s2 => exact HC0_1.out); rintro e w' ⟨rfl, ⟨nd, rfl⟩⟩))
      go_ret
      exact ⟨_, tE, by first | exact Kd.S_nil _ _ _ _ _ | exact Kd.N_nil _ _ _ _ _ | exact Kd.V_nil _ _ _ _ _ | exact Kd.Q_nil _ _ _ _ _ | exact Kd.R_nil _ _ _ _ _, by repeat (first | (with_reducible first | exact HB.out | apply below_alloc | apply pw_below_drewN | apply below_drew1 | refine below_set ?_ GE481.out) | exact HB.out)⟩

end Go.Proofs.Ytfbfopfhfeijdaa.Pr
