/- Several texts in one: PrF72, PrF53. -/
import Derived.Test.YtfbfopfhfeijdaaPr0
import Derived.Test.YtfbfopfhfeijdaaCt
import Derived.Test.YtfbfopfhfeijdaaMg7

namespace Go.Proofs.Ytfbfopfhfeijdaa.Pr
open Go.Proofs.Ytfbfopfhfeijdaa.Ct Go.RowKit Go.Proofs.YtfbfopfhfeijdaaW.PrintWords Go.Proofs.YtfbfopfhfeijdaaW.PrintLast Go.Proofs.YtfbfopfhfeijdaaW.PrintMore
attribute [local go_sem] max2_int min2_int max_two min_two max_three min_three max_four min_four   -- for this text's walks alone
set_option linter.unusedVariables false
set_option linter.unusedSimpArgs false

attribute [local go_sem high] eqA37
/-! ### api_Feature_72: function 72 -/
def api_Feature_72.l0 : Nat → List (S37) → Int → Int → ByteArray → ByteArray → Option (Int)
 | 0, _, _, _, _, _ => none
 | k + 1, x0, x7, x8, x104000, x104001 => if x8 < x7 then (if 0 ≤ x8 then (if x8 < (x0.length : Int) then (if (x104000.toList == (((rd_T37 x0 x8).f0).toList) && (x104001.toList == (((rd_T37 x0 x8).f1).toList))) = true then (some x8) else (api_Feature_72.l0 k x0 x7 (wrap64 (x8 + 1)) x104000 x104001)) else (none)) else (none)) else (some (-1))
def api_Feature_72.f (k : Nat) (l0 : List (S37)) (a1_0 : ByteArray) (a1_1 : ByteArray) : Option (Int) := api_Feature_72.l0 k l0 (l0.length : Int) 0 a1_0 a1_1
set_option maxHeartbeats 8000000 in
set_option maxRecDepth 100000 in
theorem api_Feature_72.calls (k : Nat) (A0 : Option Addr) (c0 : Nat) (l0 : List (S37)) (a1_0 : ByteArray) (a1_1 : ByteArray) (r : Int) (w : World) (hr0 : Kd.C k37 w A0 l0.length l0) (hc0 : l0.length ≤ c0) (h : api_Feature_72.f k l0 a1_0 a1_1 = some r) :
 Calls Try.prog 72 #[.slice A0 l0.length c0, .agg #[.string a1_0, .string a1_1]] w fun e w' => e = .returned (.int .i64 r) ∧ Below w.heap.size w w' := by
 have hu37 := Try.underlying37
 have HR0 := Aside0.mk hr0
 have HC0 := Aside0.mk hc0
 clear hr0 hc0
 have HB := Aside0.mk (Below.refl w.heap.size w)
 have H : (api_Feature_72.l0 k l0 (l0.length : Int) 0 a1_0 a1_1) = some r := h
 clear h
 have H' := Aside0.mk H
 clear H
 go_enter Try.func72, Try.ntmps72
 go_wp2_with (first | ((with_reducible refine gate_dst (N := 3) rfl ?_); refine box_event ?hg (N := 3) ?hd (cs := #[.string a1_0, .string a1_1]) (t := 37) ?hr ?_; (case hd => rfl); (case hg => rfl); (case hr => first | (go_simp; done) | (go_simp; rfl)); intro gb103 hg w3 hbox hb; have n0_ := Aside0.mk (below_step (tB HB) hb); have n1_ := Aside0.mk (hbox); have n2_ := tZ hg (tS HB); have n3_ := tZ hg (tS HB); revert n0_ n1_ n2_ n3_; clear HB; intro HB BK103 GW103 GE103; clear hb hbox hg))
 repeat (go_quiet (first | ((with_reducible refine gate_dst (N := 3) rfl ?_); refine box_event ?hg (N := 3) ?hd (cs := #[.string a1_0, .string a1_1]) (t := 37) ?hr ?_; (case hd => rfl); (case hg => rfl); (case hr => first | (go_simp; done) | (go_simp; rfl)); intro gb103 hg w3 hbox hb; have n0_ := Aside0.mk (below_step (tB HB) hb); have n1_ := Aside0.mk (hbox); have n2_ := tZ hg (tS HB); have n3_ := tZ hg (tS HB); revert n0_ n1_ n2_ n3_; clear HB; intro HB BK103 GW103 GE103; clear hb hbox hg)); try go_wp2_with (first | ((with_reducible refine gate_dst (N := 3) rfl ?_); refine box_event ?hg (N := 3) ?hd (cs := #[.string a1_0, .string a1_1]) (t := 37) ?hr ?_; (case hd => rfl); (case hg => rfl); (case hr => first | (go_simp; done) | (go_simp; rfl)); intro gb103 hg w3 hbox hb; have n0_ := Aside0.mk (below_step (tB HB) hb); have n1_ := Aside0.mk (hbox); have n2_ := tZ hg (tS HB); have n3_ := tZ hg (tS HB); revert n0_ n1_ n2_ n3_; clear HB; intro HB BK103 GW103 GE103; clear hb hbox hg)))
 go_loopg [8] k (fun kq v8 w' => ∃ (x8_1 : Int), v8 = .int .i64 x8_1 ∧ Aside0 (api_Feature_72.l0 kq l0 (l0.length : Int) x8_1 a1_0 a1_1 = some r) ∧ Aside0 (kq ≤ k) ∧ Aside0 (w'.heap[gb103]? = some (.cells #[.string a1_0, .string a1_1] 37 (0, 0))) ∧ Aside0 (Below w.heap.size w w'))
 case atStart => exact ⟨(0), tV1, H', ⟨Nat.le_refl _⟩, ⟨tK BK103⟩, ⟨tB HB⟩⟩
 case round =>
  clear H'
  obtain ⟨x8_1, rfl, HA, HK1, BK103, HB⟩ := hrel
  cases gk with
  | zero => exact absurd HA.out (by simp [api_Feature_72.l0])
  | succ k1 =>
   have H := HA.out
   clear HA
   simp only [api_Feature_72.l0] at H
   by_cases c4 : x8_1 < (l0.length : Int)
   ·
    rw [if_pos c4] at H
    have c4b0 : decide (x8_1 < (l0.length : Int)) = true := decide_eq_true c4
    clear c4
    by_cases c5 : 0 ≤ x8_1
    ·
     rw [if_pos c5] at H
     have c5b0 : decide (0 ≤ x8_1) = true := decide_eq_true c5
     clear c5
     by_cases c6 : x8_1 < (l0.length : Int)
     ·
      rw [if_pos c6] at H
      have c6b0 : decide (x8_1 < (l0.length : Int)) = true := decide_eq_true c6
      clear c6
      by_cases c7 : (a1_0.toList == (((rd_T37 l0 x8_1).f0).toList) && (a1_1.toList == (((rd_T37 l0 x8_1).f1).toList))) = true
      ·
       rw [if_pos c7] at H
       have c7b0 : (a1_0.toList == (((rd_T37 l0 x8_1).f0).toList) && (a1_1.toList == (((rd_T37 l0 x8_1).f1).toList))) = true := c7
       (try (have c7b1 : decide (a1_0.toList = (((rd_T37 l0 x8_1).f0).toList) && (a1_1.toList == (((rd_T37 l0 x8_1).f1).toList))) = true := by simpa using c7))
       (try (have c7b2 : (a1_0.toList == (((rd_T37 l0 x8_1).f0).toList) && (a1_1.toList == (((rd_T37 l0 x8_1).f1).toList))) = true := by simpa using c7))
       clear c7
       obtain rfl := Option.some.inj H
       obtain ⟨hcz8_0, hcz8_1, hfz8_0, hfz8_1⟩ := bx2 BK103
       have p104 : 0 ≤ (x8_1 : Int) := oD
       have q104 : x8_1 < (l0.length : Int) := oD
       obtain ⟨ad104, e104, hx104_0, hx104_1⟩ := at_T37 HR0.out x8_1 p104 q104
       cases e104
       replace hx104_0 := celB HB hx104_0
       replace hx104_1 := celB HB hx104_1
       replace p104 := eq_true p104
       replace q104 := eq_true q104
       go_wp2
       repeat (go_quiet (fail); try go_wp2)
       go_ret
       exact ⟨tE, by repeat (first | (with_reducible first | exact HB.out | apply below_alloc | apply pw_below_drewN | apply below_drew1 | refine below_set ?_ GE103.out) | exact HB.out)⟩
      ·
       rw [if_neg c7] at H
       have c7b0 : (a1_0.toList == (((rd_T37 l0 x8_1).f0).toList) && (a1_1.toList == (((rd_T37 l0 x8_1).f1).toList))) = false := by simpa using c7
       (try (have c7b1 : decide (a1_0.toList = (((rd_T37 l0 x8_1).f0).toList) && (a1_1.toList == (((rd_T37 l0 x8_1).f1).toList))) = false := by simpa using c7))
       (try (have c7b2 : (a1_0.toList == (((rd_T37 l0 x8_1).f0).toList) && (a1_1.toList == (((rd_T37 l0 x8_1).f1).toList))) = false := by simpa using c7))
       (try (have c7b3 : ¬ (a1_0.toList = (((rd_T37 l0 x8_1).f0).toList) && (a1_1.toList == (((rd_T37 l0 x8_1).f1).toList))) := by simpa using c7))
       clear c7
       have H' := Aside0.mk H
       clear H
       obtain ⟨hcz9_0, hcz9_1, hfz9_0, hfz9_1⟩ := bx2 BK103
       have p104 : 0 ≤ (x8_1 : Int) := oD
       have q104 : x8_1 < (l0.length : Int) := oD
       obtain ⟨ad104, e104, hx104_0, hx104_1⟩ := at_T37 HR0.out x8_1 p104 q104
       cases e104
       replace hx104_0 := celB HB hx104_0
       replace hx104_1 := celB HB hx104_1
       replace p104 := eq_true p104
       replace q104 := eq_true q104
       go_wp2
       repeat (go_quiet (fail); try go_wp2)
       go_roundg k1
       case measure => have := HK1.out; omega
       case rel => exact ⟨(wrap64 (x8_1 + 1)), tV1, H', ⟨by have := HK1.out; omega⟩, ⟨tK BK103⟩, ⟨tB HB⟩⟩
     ·
      rw [if_neg c6] at H
      exact absurd H (by simp)
    ·
     rw [if_neg c5] at H
     exact absurd H (by simp)
   ·
    rw [if_neg c4] at H
    have c4b0 : decide (x8_1 < (l0.length : Int)) = false := decide_eq_false c4
    clear c4
    obtain rfl := Option.some.inj H
    go_wp2
    repeat (go_quiet (fail); try go_wp2)
    go_ret
    exact ⟨tE, by repeat (first | (with_reducible first | exact HB.out | apply below_alloc | apply pw_below_drewN | apply below_drew1 | refine below_set ?_ GE103.out) | exact HB.out)⟩

end Go.Proofs.Ytfbfopfhfeijdaa.Pr

namespace Go.Proofs.Ytfbfopfhfeijdaa.Pr
open Go.Proofs.Ytfbfopfhfeijdaa.Ct Go.RowKit Go.Proofs.YtfbfopfhfeijdaaW.PrintWords Go.Proofs.YtfbfopfhfeijdaaW.PrintLast Go.Proofs.YtfbfopfhfeijdaaW.PrintMore
attribute [local go_sem] max2_int min2_int max_two min_two max_three min_three max_four min_four   -- for this text's walks alone
set_option linter.unusedVariables false
set_option linter.unusedSimpArgs false

/-! ### api_Feature_53: function 53 -/
def api_Feature_53.f (k : Nat) (l0 : List (S37)) (a1_0 : ByteArray) (a1_1 : ByteArray) : Option (Bool) := (api_Feature_72.f k l0 a1_0 a1_1).bind fun t106 => (some (decide (t106 ≥ 0)))
set_option maxHeartbeats 8000000 in
set_option maxRecDepth 100000 in
theorem api_Feature_53.calls (k : Nat) (A0 : Option Addr) (c0 : Nat) (l0 : List (S37)) (a1_0 : ByteArray) (a1_1 : ByteArray) (r : Bool) (w : World) (hr0 : Kd.C k37 w A0 l0.length l0) (hc0 : l0.length ≤ c0) (h : api_Feature_53.f k l0 a1_0 a1_1 = some r) :
 Calls Try.prog 53 #[.slice A0 l0.length c0, .agg #[.string a1_0, .string a1_1]] w fun e w' => e = .returned (.bool r) ∧ Below w.heap.size w w' := by
 have hu37 := Try.underlying37
 have HR0 := Aside0.mk hr0
 have HC0 := Aside0.mk hc0
 clear hr0 hc0
 have HB := Aside0.mk (Below.refl w.heap.size w)
 have H : ((api_Feature_72.f k l0 a1_0 a1_1).bind fun t106 => (some (decide (t106 ≥ 0)))) = some r := h
 clear h
 replace H := Option.bind_eq_some_iff.mp H
 obtain ⟨t106, A30, H⟩ := H
 (try dsimp only at H)
 have A3 := Aside0.mk A30
 clear A30
 obtain rfl := Option.some.inj H
 go_enter Try.func53, Try.ntmps53
 go_wp2_with (first | ((with_reducible refine gate_dst (N := 3) rfl ?_); refine box_event ?hg (N := 3) ?hd (cs := #[.string a1_0, .string a1_1]) (t := 37) ?hr ?_; (case hd => rfl); (case hg => rfl); (case hr => first | (go_simp; done) | (go_simp; rfl)); intro gb105 hg w4 hbox hb; have n0_ := Aside0.mk (below_step (tB HB) hb); have n1_ := Aside0.mk (hbox); have n2_ := tZ hg (tS HB); have n3_ := tZ hg (tS HB); revert n0_ n1_ n2_ n3_; clear HB; intro HB BK105 GW105 GE105; clear hb hbox hg; have hcz5_0 := cel2 BK105 0 rfl; have hcz5_1 := cel2 BK105 1 rfl; have hfz5_0 := blk_frozen BK105.out 0; have hfz5_1 := blk_frozen BK105.out 1) | ((with_reducible refine gate_callee (f := 72) rfl ?_); refine goesL_ (some 7) rfl rfl Try.func72 (by kernel_rfl) rfl #[.slice A0 l0.length c0, .agg #[.string a1_0, .string a1_1]] rfl (by (try simp only [List.map_toArray, List.map_cons, List.map_nil]); first | done | rfl | (simp only [List.length_drop, List.length_take]; rfl)) ?_; (with_reducible refine (api_Feature_72.calls k _ _ l0 a1_0 a1_1 t106 _ ?s1 ?s2 A3.out).mono ?_); (case s1 => exact tC HR0 HB); (case s2 => exact HC0.out); rintro e w6 ⟨rfl, hb⟩; refine ⟨_, rfl, ?_⟩; have n0_ := Aside0.mk (blk_below (tK BK105) hb); have n1_ := Aside0.mk (below_step (tB HB) hb); revert n0_ n1_; clear BK105 HB; intro BK105 HB; (try clear hb); (try clear hb2); (try clear hk); (try clear hi)))
 go_ret
 exact ⟨tE, by repeat (first | (with_reducible first | exact HB.out | apply below_alloc | apply pw_below_drewN | apply below_drew1 | refine below_set ?_ GE105.out) | exact HB.out)⟩

end Go.Proofs.Ytfbfopfhfeijdaa.Pr
