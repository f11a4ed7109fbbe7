/- Several texts in one: PrF39, PrF18. -/
import Derived.Test.YtfbfopfhfeijdaaPr0
import Derived.Test.YtfbfopfhfeijdaaCt
import Derived.Test.YtfbfopfhfeijdaaTempB

namespace Go.Proofs.Ytfbfopfhfeijdaa.Pr
open Go.Proofs.Ytfbfopfhfeijdaa.Ct Go.RowKit Go.Proofs.YtfbfopfhfeijdaaW.PrintWords Go.Proofs.YtfbfopfhfeijdaaW.PrintLast Go.Proofs.YtfbfopfhfeijdaaW.PrintMore
attribute [local go_sem] max2_int min2_int max_two min_two max_three min_three max_four min_four   -- for this text's walks alone
set_option linter.unusedVariables false
set_option linter.unusedSimpArgs false

/-! ### concrete_substitute: function 39 -/
def concrete_substitute.l0 : Nat → List (List (S37)) → List (S37) → List (S37) → Int → Int → Option ((List (S37)) × Int)
 | 0, _, _, _, _, _ => none
 | k + 1, x1, x6, x11, x12, x13 => if x13 < x12 then (if 0 ≤ x13 then (if x13 < (x11.length : Int) then ((concrete_Template.f k ((rd_T37 x11 x13).f1) x1).bind fun bt112 => (if bt112.2 = 0 then (if x6.length < 4398046511104 then (concrete_substitute.l0 k x1 (x6 ++ [(⟨(rd_T37 x11 x13).f0, bt112.1⟩ : S37)]) x11 x12 (wrap64 (x13 + 1))) else (none)) else (some (([] : List (S37)), bt112.2)))) else (none)) else (none)) else (some (x6, 0))
def concrete_substitute.f (k : Nat) (l0 : List (S37)) (l1 : List (List (S37))) : Option ((List (S37)) × Int) := concrete_substitute.l0 k l1 ([] : List (S37)) l0 (l0.length : Int) 0
set_option maxHeartbeats 8000000 in
set_option maxRecDepth 100000 in
theorem concrete_substitute.calls (k : Nat) (A0 : Option Addr) (c0 : Nat) (l0 : List (S37)) (A1 : Option Addr) (c1 : Nat) (l1 : List (List (S37))) (r1 : List (S37)) (r2 : Int) (w : World) (hr0 : Kd.C k37 w A0 l0.length l0) (hc0 : l0.length ≤ c0) (hr1 : Kd.C (Kd.slice 37 k37) w A1 l1.length l1) (hc1 : l1.length ≤ c1) (h : concrete_substitute.f k l0 l1 = some (r1, r2)) :
 Calls Try.prog 39 #[.slice A0 l0.length c0, .slice A1 l1.length c1] w fun e w' => ∃ v0_ : Value, e = .returned (.tuple #[v0_, .int .i64 r2]) ∧ Kd.R k37 37 w' w.heap.size (fun _ => True) v0_ r1 ∧ Below w.heap.size w w' := by
 have hu37 := Try.underlying37
 have HR0 := Aside0.mk hr0
 have HC0 := Aside0.mk hc0
 clear hr0 hc0
 have HR1 := Aside0.mk hr1
 have HC1 := Aside0.mk hc1
 clear hr1 hc1
 have HB := Aside0.mk (Below.refl w.heap.size w)
 have H : (concrete_substitute.l0 k l1 ([] : List (S37)) l0 (l0.length : Int) 0) = some (r1, r2) := h
 clear h
 have H' := Aside0.mk H
 clear H
 go_enter Try.func39, Try.ntmps39
 go_wp2
 go_loopg [6, 13] k (fun kq v6 v13 w' => ∃ (x6_1 : List (S37)) (x13_1 : Int), v13 = .int .i64 x13_1 ∧ Aside0 (concrete_substitute.l0 kq l1 x6_1 l0 (l0.length : Int) x13_1 = some (r1, r2)) ∧ Aside0 (kq ≤ k) ∧ Aside0 (Kd.R k37 37 w' w.heap.size (fun _ => True) v6 x6_1) ∧ Aside0 (Below w.heap.size w w'))
 case atStart => exact ⟨(([] : List (S37))), (0), tV1, H', ⟨Nat.le_refl _⟩, ⟨by first | exact Kd.R_nil _ _ _ _ _ | exact Kd.N_nil _ _ _ _ _ | exact Kd.V_nil _ _ _ _ _ | exact Kd.Q_nil _ _ _ _ _ | exact Kd.S_nil _ _ _ _ _⟩, ⟨tB HB⟩⟩
 case round =>
  clear H'
  obtain ⟨x6_1, x13_1, rfl, HA, HK1, HO_6, HB⟩ := hrel
  cases gk with
  | zero => exact absurd HA.out (by simp [concrete_substitute.l0])
  | succ k1 =>
   have H := HA.out
   clear HA
   simp only [concrete_substitute.l0] at H
   by_cases c3 : x13_1 < (l0.length : Int)
   ·
    rw [if_pos c3] at H
    have c3b0 : decide (x13_1 < (l0.length : Int)) = true := decide_eq_true c3
    clear c3
    by_cases c4 : 0 ≤ x13_1
    ·
     rw [if_pos c4] at H
     have c4b0 : decide (0 ≤ x13_1) = true := decide_eq_true c4
     clear c4
     by_cases c5 : x13_1 < (l0.length : Int)
     ·
      rw [if_pos c5] at H
      have c5b0 : decide (x13_1 < (l0.length : Int)) = true := decide_eq_true c5
      clear c5
      replace H := Option.bind_eq_some_iff.mp H
      obtain ⟨⟨t112, t113⟩, A60, H⟩ := H
      (try dsimp only at H)
      have A6 := Aside0.mk A60
      clear A60
      by_cases c7 : t113 = 0
      ·
       rw [if_pos c7] at H
       have c7b0 := beq_iff_eq.mpr c7
       have c7b1 := bne_eq_false_iff_eq.mpr c7
       clear c7
       by_cases c8 : x6_1.length < 4398046511104
       ·
        rw [if_pos c8] at H
        have LMc8 := Aside0.mk c8
        clear c8
        obtain ⟨y114, hy114⟩ : ∃ y_ : List (S37), y_ = (x6_1 ++ [(⟨(rd_T37 l0 x13_1).f0, t112⟩ : S37)]) := ⟨_, rfl⟩
        replace H : (concrete_substitute.l0 k1 l1 y114 l0 (l0.length : Int) (wrap64 (x13_1 + 1))) = some (r1, r2) := by first | (rw [hy114]; with_reducible exact H) | (have H2_ := (Option.bind_some _ _).symm.trans H; rw [hy114]; with_reducible exact H2_) | (have H2_ := (Option.bind_some _ _).symm.trans H; with_reducible exact H2_) | with_reducible exact H | (rw [hy114]; exact H) | exact H
        have Ny114 := Aside0.mk hy114
        clear hy114
        have H' := Aside0.mk H
        clear H
        have p110 : 0 ≤ (x13_1 : Int) := oD
        have q110 : x13_1 < (l0.length : Int) := oD
        obtain ⟨ad110, e110, hx110_0, hx110_1⟩ := at_T37 HR0.out x13_1 p110 q110
        cases e110
        replace hx110_0 := celB HB hx110_0
        replace hx110_1 := celB HB hx110_1
        replace p110 := eq_true p110
        replace q110 := eq_true q110
        go_wp2_with (first | ((with_reducible refine gate_dst (N := 8) rfl ?_); refine box_event ?hg (N := 8) ?hd (cs := #[.string (⟨#[]⟩ : ByteArray), .string (⟨#[]⟩ : ByteArray)]) (t := 37) ?hr ?_; (case hd => rfl); (case hg => rfl); (case hr => first | (go_simp; done) | (go_simp; rfl)); intro gb111 hg w9 hbox hb; have n0_ := Aside0.mk (Kd.R_below (Kd.R_elderB (dR HO_6) gb111 (Nat.le_of_eq hg.symm)) hb); have n1_ := Aside0.mk (below_step (tB HB) hb); have n2_ := Aside0.mk (hbox); have n3_ := tZ hg (tS HB); have n4_ := tZ hg (tS HB); revert n0_ n1_ n2_ n3_ n4_; clear HO_6 HB; intro HO_6 HB BK111 GW111 GE111; clear hb hbox hg; have hcz10_0 := cel2 BK111 0 rfl; have hcz10_1 := cel2 BK111 1 rfl; have hfz10_0 := blk_frozen BK111.out 0; have hfz10_1 := blk_frozen BK111.out 1) | ((with_reducible refine gate_callee (f := 14) rfl ?_); refine goesL_ (some 21) rfl rfl Try.func14 (by kernel_rfl) rfl #[.string ((rd_T37 l0 x13_1).f1), .slice A1 l1.length c1] rfl (by (try simp only [List.map_toArray, List.map_cons, List.map_nil]); first | done | rfl | (simp only [List.length_drop, List.length_take]; rfl)) ?_; (with_reducible refine (concrete_Template.calls k1 ((rd_T37 l0 x13_1).f1) _ _ l1 t112 t113 _ ?s1 ?s2 A6.out).mono ?_); (case s1 => exact Kd.C_below HR1.out (tB HB)); (case s2 => exact HC1.out); rintro e w11 ⟨rfl, hb⟩; refine ⟨_, rfl, ?_⟩; have n0_ := Aside0.mk (Kd.R_below (dR HO_6) hb); have n1_ := Aside0.mk (blk_below (g := gb111) (o := .cells #[.string ((rd_T37 l0 x13_1).f0), .string ((rd_T37 l0 x13_1).f1)] 37 (0, 0)) (tKp BK111) hb); have n2_ := Aside0.mk (below_step (tB HB) hb); revert n0_ n1_ n2_; clear HO_6 BK111 HB; intro HO_6 BK111 HB; (try clear hb); (try clear hb2); (try clear hk); (try clear hi); have hcz12_0 := cel2 BK111 0 rfl; have hcz12_1 := cel2 BK111 1 rfl; have hfz12_0 := blk_frozen BK111.out 0; have hfz12_1 := blk_frozen BK111.out 1) | ((with_reducible refine gate_builtin (b := .append) (xs := #[.tmp 27, .tmp 32]) rfl ?_); at_builtin; refine Kd.R_append k37 (w0 := w) w.heap.size rfl (.tmp 27) (.tmp 32) 30 37 (.agg #[(.string ⟨#[]⟩), (.string ⟨#[]⟩)]) 32 rfl Try.underlying30 info37 rfl (by decide) (by omega) u6 x6_1 (⟨(rd_T37 l0 x13_1).f0, t112⟩ : S37) [.string ((rd_T37 l0 x13_1).f0), .string t112] (fun k_ => k_ ≠ gb111) (fun _ => False) rfl rfl ?aP (fun _ hk => hk.elim) ?aF ?aO ?aB ?aS ?aL ?_; (case aP => exact k37_mkM _ _ _ (⟨(rd_T37 l0 x13_1).f0, t112⟩ : S37)); (case aB => exact (tB HB)); (case aF => exact (fun k_ hk => Kd.freshB (tK BK111) k_ hk)); (case aO => exact (dR HO_6)); (case aS => exact (tS HB)); (case aL => have := LMc8.out; omega); intro v115 w13 ho hb hg hat; rw [← Ny114.out] at ho; have n0_ := Aside0.mk (blk_grown (tK BK111) hg (Kd.R_away HO_6.out (fun _ hk => hk.2))); have n1_ := Aside0.mk (hb); have n2_ := Aside0.mk (ho); revert n0_ n1_ n2_; clear BK111 HB HO_6; intro BK111 HB HO116; clear ho hb hg hat))
        go_roundg k1
        case measure => have := HK1.out; omega
        case rel => exact ⟨(y114), (wrap64 (x13_1 + 1)), tV1, H', ⟨by have := HK1.out; omega⟩, ⟨dR HO116⟩, ⟨tB HB⟩⟩
       ·
        rw [if_neg c8] at H
        exact absurd H (by simp)
      ·
       rw [if_neg c7] at H
       have c7b0 := beq_eq_false_iff_ne.mpr c7
       have c7b1 := bne_iff_ne.mpr c7
       simp only [Option.some.injEq, Prod.mk.injEq] at H
       obtain ⟨rfl, rfl⟩ := H
       have p110 : 0 ≤ (x13_1 : Int) := oD
       have q110 : x13_1 < (l0.length : Int) := oD
       obtain ⟨ad110, e110, hx110_0, hx110_1⟩ := at_T37 HR0.out x13_1 p110 q110
       cases e110
       replace hx110_0 := celB HB hx110_0
       replace hx110_1 := celB HB hx110_1
       replace p110 := eq_true p110
       replace q110 := eq_true q110
       go_wp2_with (first | ((with_reducible refine gate_dst (N := 8) rfl ?_); refine box_event ?hg (N := 8) ?hd (cs := #[.string (⟨#[]⟩ : ByteArray), .string (⟨#[]⟩ : ByteArray)]) (t := 37) ?hr ?_; (case hd => rfl); (case hg => rfl); (case hr => first | (go_simp; done) | (go_simp; rfl)); intro gb111 hg w14 hbox hb; have n0_ := Aside0.mk (Kd.R_below (Kd.R_elderB (dR HO_6) gb111 (Nat.le_of_eq hg.symm)) hb); have n1_ := Aside0.mk (below_step (tB HB) hb); have n2_ := Aside0.mk (hbox); have n3_ := tZ hg (tS HB); have n4_ := tZ hg (tS HB); revert n0_ n1_ n2_ n3_ n4_; clear HO_6 HB; intro HO_6 HB BK111 GW111 GE111; clear hb hbox hg; have hcz15_0 := cel2 BK111 0 rfl; have hcz15_1 := cel2 BK111 1 rfl; have hfz15_0 := blk_frozen BK111.out 0; have hfz15_1 := blk_frozen BK111.out 1) | ((with_reducible refine gate_callee (f := 14) rfl ?_); refine goesL_ (some 21) rfl rfl Try.func14 (by kernel_rfl) rfl #[.string ((rd_T37 l0 x13_1).f1), .slice A1 l1.length c1] rfl (by (try simp only [List.map_toArray, List.map_cons, List.map_nil]); first | done | rfl | (simp only [List.length_drop, List.length_take]; rfl)) ?_; (with_reducible refine (concrete_Template.calls k1 ((rd_T37 l0 x13_1).f1) _ _ l1 t112 t113 _ ?s1 ?s2 A6.out).mono ?_); (case s1 => exact Kd.C_below HR1.out (tB HB)); (case s2 => exact HC1.out); rintro e w16 ⟨rfl, hb⟩; refine ⟨_, rfl, ?_⟩; have n0_ := Aside0.mk (Kd.R_below (dR HO_6) hb); have n1_ := Aside0.mk (blk_below (g := gb111) (o := .cells #[.string ((rd_T37 l0 x13_1).f0), .string ((rd_T37 l0 x13_1).f1)] 37 (0, 0)) (tKp BK111) hb); have n2_ := Aside0.mk (below_step (tB HB) hb); revert n0_ n1_ n2_; clear HO_6 BK111 HB; intro HO_6 BK111 HB; (try clear hb); (try clear hb2); (try clear hk); (try clear hi)))
       go_ret2
       exact ⟨_, tE, by first | exact Kd.R_nil _ _ _ _ _ | exact Kd.N_nil _ _ _ _ _ | exact Kd.V_nil _ _ _ _ _ | exact Kd.Q_nil _ _ _ _ _ | exact Kd.S_nil _ _ _ _ _, by repeat (first | (with_reducible first | exact HB.out | apply below_alloc | apply pw_below_drewN | apply below_drew1 | refine below_set ?_ GE111.out) | exact HB.out)⟩
     ·
      rw [if_neg c5] at H
      exact absurd H (by simp)
    ·
     rw [if_neg c4] at H
     exact absurd H (by simp)
   ·
    rw [if_neg c3] at H
    have c3b0 : decide (x13_1 < (l0.length : Int)) = false := decide_eq_false c3
    clear c3
    simp only [Option.some.injEq, Prod.mk.injEq] at H
    obtain ⟨rfl, rfl⟩ := H
    go_wp2
    go_ret2
    exact ⟨_, tE, by (with_reducible repeat (first | apply Kd.R_alloc | apply Kd.R_drewN | apply Kd.R_drew)); exact HO_6.out, by repeat (first | (with_reducible first | exact HB.out | apply below_alloc | apply pw_below_drewN | apply below_drew1) | exact HB.out)⟩

end Go.Proofs.Ytfbfopfhfeijdaa.Pr

namespace Go.Proofs.Ytfbfopfhfeijdaa.Pr
open Go.Proofs.Ytfbfopfhfeijdaa.Ct Go.RowKit Go.Proofs.YtfbfopfhfeijdaaW.PrintWords Go.Proofs.YtfbfopfhfeijdaaW.PrintLast Go.Proofs.YtfbfopfhfeijdaaW.PrintMore
attribute [local go_sem] max2_int min2_int max_two min_two max_three min_three max_four min_four   -- for this text's walks alone
set_option linter.unusedVariables false
set_option linter.unusedSimpArgs false

/-! ### concrete_Result: function 18 -/
def concrete_Result.f (k : Nat) (a0_0 : ByteArray) (l0_1 : List (List (S37))) (l0_2 : List (S37)) (l0_3 : List (S88)) (l1 : List (List (S37))) : Option ((List (S37)) × Int) := (concrete_substitute.f k l0_2 l1).bind fun bt118 => (some (bt118.1, bt118.2))
set_option maxHeartbeats 8000000 in
set_option maxRecDepth 100000 in
theorem concrete_Result.calls (k : Nat) (a0_0 : ByteArray) (A0_1 : Option Addr) (c0_1 : Nat) (l0_1 : List (List (S37))) (A0_2 : Option Addr) (c0_2 : Nat) (l0_2 : List (S37)) (A0_3 : Option Addr) (c0_3 : Nat) (l0_3 : List (S88)) (A1 : Option Addr) (c1 : Nat) (l1 : List (List (S37))) (r1 : List (S37)) (r2 : Int) (w : World) (hr0_1 : Kd.C (Kd.slice 37 k37) w A0_1 l0_1.length l0_1) (hc0_1 : l0_1.length ≤ c0_1) (hr0_2 : Kd.C k37 w A0_2 l0_2.length l0_2) (hc0_2 : l0_2.length ≤ c0_2) (hr0_3 : Kd.C k88 w A0_3 l0_3.length l0_3) (hc0_3 : l0_3.length ≤ c0_3) (hr1 : Kd.C (Kd.slice 37 k37) w A1 l1.length l1) (hc1 : l1.length ≤ c1) (h : concrete_Result.f k a0_0 l0_1 l0_2 l0_3 l1 = some (r1, r2)) :
 Calls Try.prog 18 #[.agg #[.string a0_0, .slice A0_1 l0_1.length c0_1, .slice A0_2 l0_2.length c0_2, .slice A0_3 l0_3.length c0_3], .slice A1 l1.length c1] w fun e w' => ∃ v0_ : Value, e = .returned (.tuple #[v0_, .int .i64 r2]) ∧ Kd.R k37 37 w' w.heap.size (fun _ => True) v0_ r1 ∧ Below w.heap.size w w' := by
 have hu33 := Try.underlying33
 have HR0_1 := Aside0.mk hr0_1
 have HC0_1 := Aside0.mk hc0_1
 clear hr0_1 hc0_1
 have HR0_2 := Aside0.mk hr0_2
 have HC0_2 := Aside0.mk hc0_2
 clear hr0_2 hc0_2
 have HR0_3 := Aside0.mk hr0_3
 have HC0_3 := Aside0.mk hc0_3
 clear hr0_3 hc0_3
 have HR1 := Aside0.mk hr1
 have HC1 := Aside0.mk hc1
 clear hr1 hc1
 have HB := Aside0.mk (Below.refl w.heap.size w)
 have H : ((concrete_substitute.f k l0_2 l1).bind fun bt118 => (some (bt118.1, bt118.2))) = some (r1, r2) := h
 clear h
 replace H := Option.bind_eq_some_iff.mp H
 obtain ⟨⟨t118, t119⟩, A30, H⟩ := H
 (try dsimp only at H)
 have A3 := Aside0.mk A30
 clear A30
 simp only [Option.some.injEq, Prod.mk.injEq] at H
 obtain ⟨rfl, rfl⟩ := H
 go_enter Try.func18, Try.ntmps18
 go_wp2_with (first | ((with_reducible refine gate_dst (N := 2) rfl ?_); refine box_event ?hg (N := 2) ?hd (cs := #[.string a0_0, .slice A0_1 l0_1.length c0_1, .slice A0_2 l0_2.length c0_2, .slice A0_3 l0_3.length c0_3]) (t := 33) ?hr ?_; (case hd => rfl); (case hg => rfl); (case hr => first | (go_simp; done) | (go_simp; rfl)); intro gb117 hg w4 hbox hb; have n0_ := Aside0.mk (below_step (tB HB) hb); have n1_ := Aside0.mk (hbox); have n2_ := tZ hg (tS HB); have n3_ := tZ hg (tS HB); revert n0_ n1_ n2_ n3_; clear HB; intro HB BK117 GW117 GE117; clear hb hbox hg; have hcz5_0 := cel2 BK117 0 rfl; have hcz5_1 := cel2 BK117 1 rfl; have hcz5_2 := cel2 BK117 2 rfl; have hcz5_3 := cel2 BK117 3 rfl; have hfz5_0 := blk_frozen BK117.out 0; have hfz5_1 := blk_frozen BK117.out 1; have hfz5_2 := blk_frozen BK117.out 2; have hfz5_3 := blk_frozen BK117.out 3) | ((with_reducible refine gate_callee (f := 39) rfl ?_); refine goesL_ (some 9) rfl rfl Try.func39 (by kernel_rfl) rfl #[.slice A0_2 l0_2.length c0_2, .slice A1 l1.length c1] rfl (by (try simp only [List.map_toArray, List.map_cons, List.map_nil]); first | done | rfl | (simp only [List.length_drop, List.length_take]; rfl)) ?_; (with_reducible refine (concrete_substitute.calls k _ _ l0_2 _ _ l1 t118 t119 _ ?s1 ?s2 ?s3 ?s4 A3.out).mono ?_); (case s1 => exact tC HR0_2 HB); (case s2 => exact HC0_2.out); (case s3 => exact tC HR1 HB); (case s4 => exact HC1.out); rintro e w6 ⟨v120, rfl, ho0, hb⟩; refine ⟨_, rfl, ?_⟩; have n0_ := Aside0.mk (Kd.R_lower ho0 (tS HB)); have n1_ := Aside0.mk (blk_below (tK BK117) hb); have n2_ := Aside0.mk (below_step (tB HB) hb); revert n0_ n1_ n2_; clear BK117 HB; intro HO121 BK117 HB; (try clear hb); (try clear hb2); (try clear hk); (try clear hi); (try clear ho0)))
 go_ret2
 exact ⟨_, tE, by (with_reducible repeat (first | apply Kd.R_alloc | apply Kd.R_drewN | apply Kd.R_drew)); exact HO121.out, by repeat (first | (with_reducible first | exact HB.out | apply below_alloc | apply pw_below_drewN | apply below_drew1 | refine below_set ?_ GE117.out) | exact HB.out)⟩

end Go.Proofs.Ytfbfopfhfeijdaa.Pr
