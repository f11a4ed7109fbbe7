-- Written by a program of this session (ownprint.py, over the kit's printer). Not trusted: Lean checks it.
import Derived.Test.YtfbfopfhfeijdaaPr0
import Derived.Test.YtfbfopfhfeijdaaCt
import Derived.Test.YtfbfopfhfeijdaaPrF20
namespace Go.Proofs.Ytfbfopfhfeijdaa.Pr
open Go.Proofs.Ytfbfopfhfeijdaa.Ct Go.RowKit Go.Proofs.YtfbfopfhfeijdaaW.PrintWords Go.Proofs.YtfbfopfhfeijdaaW.PrintLast Go.Proofs.YtfbfopfhfeijdaaW.PrintMore
attribute [local go_sem] max2_int min2_int max_two min_two max_three min_three max_four min_four   -- for this text's walks alone
set_option linter.unusedVariables false
set_option linter.unusedSimpArgs false

/-! ### pentaglotref33_SamePiece: function 42 -/
def pentaglotref33_SamePiece.f (k : Nat) (a0_0 : Int) (a0_1 : ByteArray) (a0_2 : Int) (a0_3 : ByteArray) (l0_4 : List (S37)) (a1_0 : Int) (a1_1 : ByteArray) (a1_2 : Int) (a1_3 : ByteArray) (l1_4 : List (S37)) : Option (Bool) := if a0_0 = a1_0 then (if a0_1.toList = a1_1.toList then (if a0_2 = a1_2 then (if a0_3.toList = a1_3.toList then ((pentaglotref02_Same.f k l0_4 l1_4).bind fun t288 => (some t288)) else (some false)) else (some false)) else (some false)) else (some false)
set_option maxHeartbeats 8000000 in
set_option maxRecDepth 100000 in
theorem pentaglotref33_SamePiece.calls (k : Nat) (a0_0 : Int) (a0_1 : ByteArray) (a0_2 : Int) (a0_3 : ByteArray) (A0_4 : Option Addr) (c0_4 : Nat) (l0_4 : List (S37)) (a1_0 : Int) (a1_1 : ByteArray) (a1_2 : Int) (a1_3 : ByteArray) (A1_4 : Option Addr) (c1_4 : Nat) (l1_4 : List (S37)) (r : Bool) (w : World) (hr0_4 : Kd.C k37 w A0_4 l0_4.length l0_4) (hc0_4 : l0_4.length ≤ c0_4) (hr1_4 : Kd.C k37 w A1_4 l1_4.length l1_4) (hc1_4 : l1_4.length ≤ c1_4) (h : pentaglotref33_SamePiece.f k a0_0 a0_1 a0_2 a0_3 l0_4 a1_0 a1_1 a1_2 a1_3 l1_4 = some r) :
 Calls Try.prog 42 #[.agg #[.int .i64 a0_0, .string a0_1, .int .i64 a0_2, .string a0_3, .slice A0_4 l0_4.length c0_4], .agg #[.int .i64 a1_0, .string a1_1, .int .i64 a1_2, .string a1_3, .slice A1_4 l1_4.length c1_4]] w fun e w' => e = .returned (.bool r) ∧ Below w.heap.size w w' := by
 have hu94 := Try.underlying94
 have HR0_4 := Aside0.mk hr0_4
 have HC0_4 := Aside0.mk hc0_4
 clear hr0_4 hc0_4
 have HR1_4 := Aside0.mk hr1_4
 have HC1_4 := Aside0.mk hc1_4
 clear hr1_4 hc1_4
 have HB := Aside0.mk (Below.refl w.heap.size w)
 have H : (if a0_0 = a1_0 then (if a0_1.toList = a1_1.toList then (if a0_2 = a1_2 then (if a0_3.toList = a1_3.toList then ((pentaglotref02_Same.f k l0_4 l1_4).bind fun t288 => (some t288)) else (some false)) else (some false)) else (some false)) else (some false)) = some r := h
 clear h
 by_cases c3 : a0_0 = a1_0
 ·
  rw [if_pos c3] at H
  have c3b0 := beq_iff_eq.mpr c3
  have c3b1 := bne_eq_false_iff_eq.mpr c3
  clear c3
  by_cases c4 : a0_1.toList = a1_1.toList
  ·
   rw [if_pos c4] at H
   have c4b0 := beq_iff_eq.mpr c4
   have c4b1 := bne_eq_false_iff_eq.mpr c4
   clear c4
   by_cases c5 : a0_2 = a1_2
   ·
    rw [if_pos c5] at H
    have c5b0 := beq_iff_eq.mpr c5
    have c5b1 := bne_eq_false_iff_eq.mpr c5
    clear c5
    by_cases c6 : a0_3.toList = a1_3.toList
    ·
     rw [if_pos c6] at H
     have c6b0 := beq_iff_eq.mpr c6
     have c6b1 := bne_eq_false_iff_eq.mpr c6
     clear c6
     replace H := Option.bind_eq_some_iff.mp H
     obtain ⟨t288, A70, H⟩ := H
     (try dsimp only at H)
     have A7 := Aside0.mk A70
     clear A70
     obtain rfl := Option.some.inj H
     go_enter Try.func42, Try.ntmps42
     go_wp2_with (first | ((with_reducible refine gate_dst (N := 2) rfl ?_); refine box_event ?hg (N := 2) ?hd (cs := #[.int .i64 a0_0, .string a0_1, .int .i64 a0_2, .string a0_3, .slice A0_4 l0_4.length c0_4]) (t := 94) ?hr ?_; (case hd => rfl); (case hg => rfl); (case hr => first | (go_simp; done) | (go_simp; rfl)); intro gb286 hg w8 hbox hb; have n0_ := Aside0.mk (below_step (tB HB) hb); have n1_ := Aside0.mk (hbox); have n2_ := tZ hg (tS HB); have n3_ := tZ hg (tS HB); revert n0_ n1_ n2_ n3_; clear HB; intro HB BK286 GW286 GE286; clear hb hbox hg) | ((with_reducible refine gate_dst (N := 3) rfl ?_); refine box_event ?hg (N := 3) ?hd (cs := #[.int .i64 a1_0, .string a1_1, .int .i64 a1_2, .string a1_3, .slice A1_4 l1_4.length c1_4]) (t := 94) ?hr ?_; (case hd => rfl); (case hg => rfl); (case hr => first | (go_simp; done) | (go_simp; rfl)); intro gb287 hg w9 hbox hb; have n0_ := Aside0.mk (blk_below (tK BK286) hb); have n1_ := Aside0.mk (below_step (tB HB) hb); have n2_ := Aside0.mk (hbox); have n3_ := tZ hg (tS HB); have n4_ := tZ hg (tS HB); have n5_ := tL hg (tK BK286); have n6_ := tG hg (tK BK286); revert n0_ n1_ n2_ n3_ n4_ n5_ n6_; clear BK286 HB; intro BK286 HB BK287 GW287 GE287 NB286_287 NB287_286; clear hb hbox hg; have hnb10 := NB286_287.out; have hnc10 := NB287_286.out; have hcz11_0 := cel2 BK286 0 rfl; have hcz11_1 := cel2 BK286 1 rfl; have hcz11_2 := cel2 BK286 2 rfl; have hcz11_3 := cel2 BK286 3 rfl; have hcz11_4 := cel2 BK286 4 rfl; have hfz11_0 := blk_frozen BK286.out 0; have hfz11_1 := blk_frozen BK286.out 1; have hfz11_2 := blk_frozen BK286.out 2; have hfz11_3 := blk_frozen BK286.out 3; have hfz11_4 := blk_frozen BK286.out 4; have hcz12_0 := cel2 BK287 0 rfl; have hcz12_1 := cel2 BK287 1 rfl; have hcz12_2 := cel2 BK287 2 rfl; have hcz12_3 := cel2 BK287 3 rfl; have hcz12_4 := cel2 BK287 4 rfl; have hfz12_0 := blk_frozen BK287.out 0; have hfz12_1 := blk_frozen BK287.out 1; have hfz12_2 := blk_frozen BK287.out 2; have hfz12_3 := blk_frozen BK287.out 3; have hfz12_4 := blk_frozen BK287.out 4) | (go_at_call 20; (with_reducible refine (pentaglotref02_Same.calls k _ _ l0_4 _ _ l1_4 t288 _ ?s1 ?s2 ?s3 ?s4 A7.out).mono ?_); (case s1 => exact tC HR0_4 HB); (case s2 => exact HC0_4.out); (case s3 => exact tC HR1_4 HB); (case s4 => exact HC1_4.out); rintro e w' ⟨rfl, ⟨nd, rfl⟩⟩))
     go_ret
     exact ⟨tE, by repeat (first | (with_reducible first | exact HB.out | apply below_alloc | apply pw_below_drewN | apply below_drew1 | refine below_set ?_ GE286.out | refine below_set ?_ GE287.out) | exact HB.out)⟩
    ·
     rw [if_neg c6] at H
     have c6b0 := beq_eq_false_iff_ne.mpr c6
     have c6b1 := bne_iff_ne.mpr c6
     obtain rfl := Option.some.inj H
     go_enter Try.func42, Try.ntmps42
     go_wp2_with (first | ((with_reducible refine gate_dst (N := 2) rfl ?_); refine box_event ?hg (N := 2) ?hd (cs := #[.int .i64 a0_0, .string a0_1, .int .i64 a0_2, .string a0_3, .slice A0_4 l0_4.length c0_4]) (t := 94) ?hr ?_; (case hd => rfl); (case hg => rfl); (case hr => first | (go_simp; done) | (go_simp; rfl)); intro gb286 hg w13 hbox hb; have n0_ := Aside0.mk (below_step (tB HB) hb); have n1_ := Aside0.mk (hbox); have n2_ := tZ hg (tS HB); have n3_ := tZ hg (tS HB); revert n0_ n1_ n2_ n3_; clear HB; intro HB BK286 GW286 GE286; clear hb hbox hg) | ((with_reducible refine gate_dst (N := 3) rfl ?_); refine box_event ?hg (N := 3) ?hd (cs := #[.int .i64 a1_0, .string a1_1, .int .i64 a1_2, .string a1_3, .slice A1_4 l1_4.length c1_4]) (t := 94) ?hr ?_; (case hd => rfl); (case hg => rfl); (case hr => first | (go_simp; done) | (go_simp; rfl)); intro gb287 hg w14 hbox hb; have n0_ := Aside0.mk (blk_below (tK BK286) hb); have n1_ := Aside0.mk (below_step (tB HB) hb); have n2_ := Aside0.mk (hbox); have n3_ := tZ hg (tS HB); have n4_ := tZ hg (tS HB); have n5_ := tL hg (tK BK286); have n6_ := tG hg (tK BK286); revert n0_ n1_ n2_ n3_ n4_ n5_ n6_; clear BK286 HB; intro BK286 HB BK287 GW287 GE287 NB286_287 NB287_286; clear hb hbox hg; have hnb15 := NB286_287.out; have hnc15 := NB287_286.out; have hcz16_0 := cel2 BK286 0 rfl; have hcz16_1 := cel2 BK286 1 rfl; have hcz16_2 := cel2 BK286 2 rfl; have hcz16_3 := cel2 BK286 3 rfl; have hcz16_4 := cel2 BK286 4 rfl; have hfz16_0 := blk_frozen BK286.out 0; have hfz16_1 := blk_frozen BK286.out 1; have hfz16_2 := blk_frozen BK286.out 2; have hfz16_3 := blk_frozen BK286.out 3; have hfz16_4 := blk_frozen BK286.out 4; have hcz17_0 := cel2 BK287 0 rfl; have hcz17_1 := cel2 BK287 1 rfl; have hcz17_2 := cel2 BK287 2 rfl; have hcz17_3 := cel2 BK287 3 rfl; have hcz17_4 := cel2 BK287 4 rfl; have hfz17_0 := blk_frozen BK287.out 0; have hfz17_1 := blk_frozen BK287.out 1; have hfz17_2 := blk_frozen BK287.out 2; have hfz17_3 := blk_frozen BK287.out 3; have hfz17_4 := blk_frozen BK287.out 4))
     go_ret
     exact ⟨tE, by repeat (first | (with_reducible first | exact HB.out | apply below_alloc | apply pw_below_drewN | apply below_drew1 | refine below_set ?_ GE286.out | refine below_set ?_ GE287.out) | exact HB.out)⟩
   ·
    rw [if_neg c5] at H
    have c5b0 := beq_eq_false_iff_ne.mpr c5
    have c5b1 := bne_iff_ne.mpr c5
    obtain rfl := Option.some.inj H
    go_enter Try.func42, Try.ntmps42
    go_wp2_with (first | ((with_reducible refine gate_dst (N := 2) rfl ?_); refine box_event ?hg (N := 2) ?hd (cs := #[.int .i64 a0_0, .string a0_1, .int .i64 a0_2, .string a0_3, .slice A0_4 l0_4.length c0_4]) (t := 94) ?hr ?_; (case hd => rfl); (case hg => rfl); (case hr => first | (go_simp; done) | (go_simp; rfl)); intro gb286 hg w18 hbox hb; have n0_ := Aside0.mk (below_step (tB HB) hb); have n1_ := Aside0.mk (hbox); have n2_ := tZ hg (tS HB); have n3_ := tZ hg (tS HB); revert n0_ n1_ n2_ n3_; clear HB; intro HB BK286 GW286 GE286; clear hb hbox hg) | ((with_reducible refine gate_dst (N := 3) rfl ?_); refine box_event ?hg (N := 3) ?hd (cs := #[.int .i64 a1_0, .string a1_1, .int .i64 a1_2, .string a1_3, .slice A1_4 l1_4.length c1_4]) (t := 94) ?hr ?_; (case hd => rfl); (case hg => rfl); (case hr => first | (go_simp; done) | (go_simp; rfl)); intro gb287 hg w19 hbox hb; have n0_ := Aside0.mk (blk_below (tK BK286) hb); have n1_ := Aside0.mk (below_step (tB HB) hb); have n2_ := Aside0.mk (hbox); have n3_ := tZ hg (tS HB); have n4_ := tZ hg (tS HB); have n5_ := tL hg (tK BK286); have n6_ := tG hg (tK BK286); revert n0_ n1_ n2_ n3_ n4_ n5_ n6_; clear BK286 HB; intro BK286 HB BK287 GW287 GE287 NB286_287 NB287_286; clear hb hbox hg; have hnb20 := NB286_287.out; have hnc20 := NB287_286.out; have hcz21_0 := cel2 BK286 0 rfl; have hcz21_1 := cel2 BK286 1 rfl; have hcz21_2 := cel2 BK286 2 rfl; have hcz21_3 := cel2 BK286 3 rfl; have hcz21_4 := cel2 BK286 4 rfl; have hfz21_0 := blk_frozen BK286.out 0; have hfz21_1 := blk_frozen BK286.out 1; have hfz21_2 := blk_frozen BK286.out 2; have hfz21_3 := blk_frozen BK286.out 3; have hfz21_4 := blk_frozen BK286.out 4; have hcz22_0 := cel2 BK287 0 rfl; have hcz22_1 := cel2 BK287 1 rfl; have hcz22_2 := cel2 BK287 2 rfl; have hcz22_3 := cel2 BK287 3 rfl; have hcz22_4 := cel2 BK287 4 rfl; have hfz22_0 := blk_frozen BK287.out 0; have hfz22_1 := blk_frozen BK287.out 1; have hfz22_2 := blk_frozen BK287.out 2; have hfz22_3 := blk_frozen BK287.out 3; have hfz22_4 := blk_frozen BK287.out 4))
    go_ret
    exact ⟨tE, by repeat (first | (with_reducible first | exact HB.out | apply below_alloc | apply pw_below_drewN | apply below_drew1 | refine below_set ?_ GE286.out | refine below_set ?_ GE287.out) | exact HB.out)⟩
  ·
   rw [if_neg c4] at H
   have c4b0 := beq_eq_false_iff_ne.mpr c4
   have c4b1 := bne_iff_ne.mpr c4
   obtain rfl := Option.some.inj H
   go_enter Try.func42, Try.ntmps42
   go_wp2_with (first | ((with_reducible refine gate_dst (N := 2) rfl ?_); refine box_event ?hg (N := 2) ?hd (cs := #[.int .i64 a0_0, .string a0_1, .int .i64 a0_2, .string a0_3, .slice A0_4 l0_4.length c0_4]) (t := 94) ?hr ?_; (case hd => rfl); (case hg => rfl); (case hr => first | (go_simp; done) | (go_simp; rfl)); intro gb286 hg w23 hbox hb; have n0_ := Aside0.mk (below_step (tB HB) hb); have n1_ := Aside0.mk (hbox); have n2_ := tZ hg (tS HB); have n3_ := tZ hg (tS HB); revert n0_ n1_ n2_ n3_; clear HB; intro HB BK286 GW286 GE286; clear hb hbox hg) | ((with_reducible refine gate_dst (N := 3) rfl ?_); refine box_event ?hg (N := 3) ?hd (cs := #[.int .i64 a1_0, .string a1_1, .int .i64 a1_2, .string a1_3, .slice A1_4 l1_4.length c1_4]) (t := 94) ?hr ?_; (case hd => rfl); (case hg => rfl); (case hr => first | (go_simp; done) | (go_simp; rfl)); intro gb287 hg w24 hbox hb; have n0_ := Aside0.mk (blk_below (tK BK286) hb); have n1_ := Aside0.mk (below_step (tB HB) hb); have n2_ := Aside0.mk (hbox); have n3_ := tZ hg (tS HB); have n4_ := tZ hg (tS HB); have n5_ := tL hg (tK BK286); have n6_ := tG hg (tK BK286); revert n0_ n1_ n2_ n3_ n4_ n5_ n6_; clear BK286 HB; intro BK286 HB BK287 GW287 GE287 NB286_287 NB287_286; clear hb hbox hg; have hnb25 := NB286_287.out; have hnc25 := NB287_286.out; have hcz26_0 := cel2 BK286 0 rfl; have hcz26_1 := cel2 BK286 1 rfl; have hcz26_2 := cel2 BK286 2 rfl; have hcz26_3 := cel2 BK286 3 rfl; have hcz26_4 := cel2 BK286 4 rfl; have hfz26_0 := blk_frozen BK286.out 0; have hfz26_1 := blk_frozen BK286.out 1; have hfz26_2 := blk_frozen BK286.out 2; have hfz26_3 := blk_frozen BK286.out 3; have hfz26_4 := blk_frozen BK286.out 4; have hcz27_0 := cel2 BK287 0 rfl; have hcz27_1 := cel2 BK287 1 rfl; have hcz27_2 := cel2 BK287 2 rfl; have hcz27_3 := cel2 BK287 3 rfl; have hcz27_4 := cel2 BK287 4 rfl; have hfz27_0 := blk_frozen BK287.out 0; have hfz27_1 := blk_frozen BK287.out 1; have hfz27_2 := blk_frozen BK287.out 2; have hfz27_3 := blk_frozen BK287.out 3; have hfz27_4 := blk_frozen BK287.out 4))
   go_ret
   exact ⟨tE, by repeat (first | (with_reducible first | exact HB.out | apply below_alloc | apply pw_below_drewN | apply below_drew1 | refine below_set ?_ GE286.out | refine below_set ?_ GE287.out) | exact HB.out)⟩
 ·
  rw [if_neg c3] at H
  have c3b0 := beq_eq_false_iff_ne.mpr c3
  have c3b1 := bne_iff_ne.mpr c3
  obtain rfl := Option.some.inj H
  go_enter Try.func42, Try.ntmps42
  go_wp2_with (first | ((with_reducible refine gate_dst (N := 2) rfl ?_); refine box_event ?hg (N := 2) ?hd (cs := #[.int .i64 a0_0, .string a0_1, .int .i64 a0_2, .string a0_3, .slice A0_4 l0_4.length c0_4]) (t := 94) ?hr ?_; (case hd => rfl); (case hg => rfl); (case hr => first | (go_simp; done) | (go_simp; rfl)); intro gb286 hg w28 hbox hb; have n0_ := Aside0.mk (below_step (tB HB) hb); have n1_ := Aside0.mk (hbox); have n2_ := tZ hg (tS HB); have n3_ := tZ hg (tS HB); revert n0_ n1_ n2_ n3_; clear HB; intro HB BK286 GW286 GE286; clear hb hbox hg) | ((with_reducible refine gate_dst (N := 3) rfl ?_); refine box_event ?hg (N := 3) ?hd (cs := #[.int .i64 a1_0, .string a1_1, .int .i64 a1_2, .string a1_3, .slice A1_4 l1_4.length c1_4]) (t := 94) ?hr ?_; (case hd => rfl); (case hg => rfl); (case hr => first | (go_simp; done) | (go_simp; rfl)); intro gb287 hg w29 hbox hb; have n0_ := Aside0.mk (blk_below (tK BK286) hb); have n1_ := Aside0.mk (below_step (tB HB) hb); have n2_ := Aside0.mk (hbox); have n3_ := tZ hg (tS HB); have n4_ := tZ hg (tS HB); have n5_ := tL hg (tK BK286); have n6_ := tG hg (tK BK286); revert n0_ n1_ n2_ n3_ n4_ n5_ n6_; clear BK286 HB; intro BK286 HB BK287 GW287 GE287 NB286_287 NB287_286; clear hb hbox hg; have hnb30 := NB286_287.out; have hnc30 := NB287_286.out; have hcz31_0 := cel2 BK286 0 rfl; have hcz31_1 := cel2 BK286 1 rfl; have hcz31_2 := cel2 BK286 2 rfl; have hcz31_3 := cel2 BK286 3 rfl; have hcz31_4 := cel2 BK286 4 rfl; have hfz31_0 := blk_frozen BK286.out 0; have hfz31_1 := blk_frozen BK286.out 1; have hfz31_2 := blk_frozen BK286.out 2; have hfz31_3 := blk_frozen BK286.out 3; have hfz31_4 := blk_frozen BK286.out 4; have hcz32_0 := cel2 BK287 0 rfl; have hcz32_1 := cel2 BK287 1 rfl; have hcz32_2 := cel2 BK287 2 rfl; have hcz32_3 := cel2 BK287 3 rfl; have hcz32_4 := cel2 BK287 4 rfl; have hfz32_0 := blk_frozen BK287.out 0; have hfz32_1 := blk_frozen BK287.out 1; have hfz32_2 := blk_frozen BK287.out 2; have hfz32_3 := blk_frozen BK287.out 3; have hfz32_4 := blk_frozen BK287.out 4))
  go_ret
  exact ⟨tE, by repeat (first | (with_reducible first | exact HB.out | apply below_alloc | apply pw_below_drewN | apply below_drew1 | refine below_set ?_ GE286.out | refine below_set ?_ GE287.out) | exact HB.out)⟩

end Go.Proofs.Ytfbfopfhfeijdaa.Pr
