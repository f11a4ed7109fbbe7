-- Written by a program of this session (ownprint.py, over the kit's printer). Not trusted: Lean checks it.
import Derived.Test.YtfbfopfhfeijdaaPr0
import Derived.Test.YtfbfopfhfeijdaaCt
namespace Go.Proofs.Ytfbfopfhfeijdaa.Pr
open Go.Proofs.Ytfbfopfhfeijdaa.Ct Go.RowKit Go.Proofs.YtfbfopfhfeijdaaW.PrintWords Go.Proofs.YtfbfopfhfeijdaaW.PrintLast Go.Proofs.YtfbfopfhfeijdaaW.PrintMore
attribute [local go_sem] max2_int min2_int max_two min_two max_three min_three max_four min_four   -- for this text's walks alone
set_option linter.unusedVariables false
set_option linter.unusedSimpArgs false

/-! ### pentaglotref33_Find: function 26 -/
def pentaglotref33_Find.l0 : Nat → ByteArray → List (S68) → Int → Int → Option (ByteArray × (List (S90)) × List ByteArray × Bool)
 | 0, _, _, _, _ => none
 | k + 1, x1, x9, x10, x11 => if x11 < x10 then (if 0 ≤ x11 then (if x11 < (x9.length : Int) then (if ((rd_T68 x9 x11).f0).toList = x1.toList then (some ((rd_T68 x9 x11).f0, (rd_T68 x9 x11).f1, (rd_T68 x9 x11).f2, true)) else (pentaglotref33_Find.l0 k x1 x9 x10 (wrap64 (x11 + 1)))) else (none)) else (none)) else (some ((⟨#[]⟩ : ByteArray), ([] : List (S90)), ([] : List ByteArray), false))
def pentaglotref33_Find.f (k : Nat) (a0_0 : ByteArray) (a0_1 : Bool) (l0_2 : List (S173)) (l0_3 : List (S176)) (l0_4 : List (S179)) (l0_5 : List (S181)) (l0_6 : List (List Int)) (a0_7 : Int) (a0_8 : Int) (l0_9 : List (S176)) (a0_10 : Int) (l0_11 : List ByteArray) (l0_12 : List ByteArray) (a0_13 : Bool) (a0_14 : ByteArray) (a0_15 : Int) (a0_16 : ByteArray) (a0_17 : Bool) (a0_18 : Int) (a0_19 : Int) (l0_20 : List (S184)) (l0_21 : List (S184)) (l0_22 : List ByteArray) (l0_23 : List ByteArray) (l0_24 : List ByteArray) (a0_25 : Bool) (l0_26 : List (S186)) (l0_27 : List (S68)) (l0_28 : List (S33)) (a0_29 : ByteArray) (a1 : ByteArray) : Option (ByteArray × (List (S90)) × List ByteArray × Bool) := pentaglotref33_Find.l0 k a1 l0_27 (l0_27.length : Int) 0
set_option maxHeartbeats 8000000 in
set_option maxRecDepth 100000 in
theorem pentaglotref33_Find.calls (k : Nat) (a0_0 : ByteArray) (a0_1 : Bool) (A0_2 : Option Addr) (c0_2 : Nat) (l0_2 : List (S173)) (A0_3 : Option Addr) (c0_3 : Nat) (l0_3 : List (S176)) (A0_4 : Option Addr) (c0_4 : Nat) (l0_4 : List (S179)) (A0_5 : Option Addr) (c0_5 : Nat) (l0_5 : List (S181)) (A0_6 : Option Addr) (c0_6 : Nat) (l0_6 : List (List Int)) (a0_7 : Int) (a0_8 : Int) (A0_9 : Option Addr) (c0_9 : Nat) (l0_9 : List (S176)) (a0_10 : Int) (A0_11 : Option Addr) (c0_11 : Nat) (l0_11 : List ByteArray) (A0_12 : Option Addr) (c0_12 : Nat) (l0_12 : List ByteArray) (a0_13 : Bool) (a0_14 : ByteArray) (a0_15 : Int) (a0_16 : ByteArray) (a0_17 : Bool) (a0_18 : Int) (a0_19 : Int) (A0_20 : Option Addr) (c0_20 : Nat) (l0_20 : List (S184)) (A0_21 : Option Addr) (c0_21 : Nat) (l0_21 : List (S184)) (A0_22 : Option Addr) (c0_22 : Nat) (l0_22 : List ByteArray) (A0_23 : Option Addr) (c0_23 : Nat) (l0_23 : List ByteArray) (A0_24 : Option Addr) (c0_24 : Nat) (l0_24 : List ByteArray) (a0_25 : Bool) (A0_26 : Option Addr) (c0_26 : Nat) (l0_26 : List (S186)) (P0_27_ : Nat → Prop) (A0_27 : Option Addr) (c0_27 : Nat) (l0_27 : List (S68)) (A0_28 : Option Addr) (c0_28 : Nat) (l0_28 : List (S33)) (a0_29 : ByteArray) (a1 : ByteArray) (r1 : ByteArray) (r2 : List (S90)) (r3 : List ByteArray) (r4 : Bool) (w : World) (hr0_2 : Kd.C k173 w A0_2 l0_2.length l0_2) (hc0_2 : l0_2.length ≤ c0_2) (hr0_3 : Kd.C k176 w A0_3 l0_3.length l0_3) (hc0_3 : l0_3.length ≤ c0_3) (hr0_4 : Kd.C k179 w A0_4 l0_4.length l0_4) (hc0_4 : l0_4.length ≤ c0_4) (hr0_5 : Kd.C k181 w A0_5 l0_5.length l0_5) (hc0_5 : l0_5.length ≤ c0_5) (hr0_6 : Kd.C (Kd.slice 143 (Kd.int .u32)) w A0_6 l0_6.length l0_6) (hc0_6 : l0_6.length ≤ c0_6) (hr0_9 : Kd.C k176 w A0_9 l0_9.length l0_9) (hc0_9 : l0_9.length ≤ c0_9) (hr0_11 : Kd.C Kd.string w A0_11 l0_11.length l0_11) (hc0_11 : l0_11.length ≤ c0_11) (hr0_12 : Kd.C Kd.string w A0_12 l0_12.length l0_12) (hc0_12 : l0_12.length ≤ c0_12) (hr0_20 : Kd.C k184 w A0_20 l0_20.length l0_20) (hc0_20 : l0_20.length ≤ c0_20) (hr0_21 : Kd.C k184 w A0_21 l0_21.length l0_21) (hc0_21 : l0_21.length ≤ c0_21) (hr0_22 : Kd.C Kd.string w A0_22 l0_22.length l0_22) (hc0_22 : l0_22.length ≤ c0_22) (hr0_23 : Kd.C Kd.string w A0_23 l0_23.length l0_23) (hc0_23 : l0_23.length ≤ c0_23) (hr0_24 : Kd.C Kd.string w A0_24 l0_24.length l0_24) (hc0_24 : l0_24.length ≤ c0_24) (hr0_26 : Kd.C k186 w A0_26 l0_26.length l0_26) (hc0_26 : l0_26.length ≤ c0_26) (hs0_27 : Kd.V k68 68 w w.heap.size (fun k_ => P0_27_ k_) (.slice A0_27 l0_27.length c0_27) l0_27) (hr0_28 : Kd.C k33 w A0_28 l0_28.length l0_28) (hc0_28 : l0_28.length ≤ c0_28) (h : pentaglotref33_Find.f k a0_0 a0_1 l0_2 l0_3 l0_4 l0_5 l0_6 a0_7 a0_8 l0_9 a0_10 l0_11 l0_12 a0_13 a0_14 a0_15 a0_16 a0_17 a0_18 a0_19 l0_20 l0_21 l0_22 l0_23 l0_24 a0_25 l0_26 l0_27 l0_28 a0_29 a1 = some (r1, r2, r3, r4)) :
 Calls Try.prog 26 #[.agg #[.string a0_0, .bool a0_1, .slice A0_2 l0_2.length c0_2, .slice A0_3 l0_3.length c0_3, .slice A0_4 l0_4.length c0_4, .slice A0_5 l0_5.length c0_5, .slice A0_6 l0_6.length c0_6, .int .i64 a0_7, .int .i64 a0_8, .slice A0_9 l0_9.length c0_9, .int .i64 a0_10, .slice A0_11 l0_11.length c0_11, .slice A0_12 l0_12.length c0_12, .bool a0_13, .string a0_14, .int .i64 a0_15, .string a0_16, .bool a0_17, .int .i64 a0_18, .int .i64 a0_19, .slice A0_20 l0_20.length c0_20, .slice A0_21 l0_21.length c0_21, .slice A0_22 l0_22.length c0_22, .slice A0_23 l0_23.length c0_23, .slice A0_24 l0_24.length c0_24, .bool a0_25, .slice A0_26 l0_26.length c0_26, .slice A0_27 l0_27.length c0_27, .slice A0_28 l0_28.length c0_28, .string a0_29], .string a1] w fun e w' => ∃ v1_ v2_ : Value, e = .returned (.tuple #[.agg #[.string r1, v1_, v2_], .bool r4]) ∧ Kd.V k90 90 w' w.heap.size (fun k_ => (P0_27_ k_ ∨ w.heap.size ≤ k_)) v1_ r2 ∧ Kd.V Kd.string 9 w' w.heap.size (fun k_ => (P0_27_ k_ ∨ w.heap.size ≤ k_)) v2_ r3 ∧ Below w.heap.size w w' := by
 have hu60 := Try.underlying60
 have hu68 := Try.underlying68
 have HR0_2 := Aside0.mk hr0_2
 have HC0_2 := Aside0.mk hc0_2
 clear hr0_2 hc0_2
 have HR0_3 := Aside0.mk hr0_3
 have HC0_3 := Aside0.mk hc0_3
 clear hr0_3 hc0_3
 have HR0_4 := Aside0.mk hr0_4
 have HC0_4 := Aside0.mk hc0_4
 clear hr0_4 hc0_4
 have HR0_5 := Aside0.mk hr0_5
 have HC0_5 := Aside0.mk hc0_5
 clear hr0_5 hc0_5
 have HR0_6 := Aside0.mk hr0_6
 have HC0_6 := Aside0.mk hc0_6
 clear hr0_6 hc0_6
 have HR0_9 := Aside0.mk hr0_9
 have HC0_9 := Aside0.mk hc0_9
 clear hr0_9 hc0_9
 have HR0_11 := Aside0.mk hr0_11
 have HC0_11 := Aside0.mk hc0_11
 clear hr0_11 hc0_11
 have HR0_12 := Aside0.mk hr0_12
 have HC0_12 := Aside0.mk hc0_12
 clear hr0_12 hc0_12
 have HR0_20 := Aside0.mk hr0_20
 have HC0_20 := Aside0.mk hc0_20
 clear hr0_20 hc0_20
 have HR0_21 := Aside0.mk hr0_21
 have HC0_21 := Aside0.mk hc0_21
 clear hr0_21 hc0_21
 have HR0_22 := Aside0.mk hr0_22
 have HC0_22 := Aside0.mk hc0_22
 clear hr0_22 hc0_22
 have HR0_23 := Aside0.mk hr0_23
 have HC0_23 := Aside0.mk hc0_23
 clear hr0_23 hc0_23
 have HR0_24 := Aside0.mk hr0_24
 have HC0_24 := Aside0.mk hc0_24
 clear hr0_24 hc0_24
 have HR0_26 := Aside0.mk hr0_26
 have HC0_26 := Aside0.mk hc0_26
 clear hr0_26 hc0_26
 have HO0_27 := Aside0.mk (show Kd.V k68 68 w w.heap.size (fun k_ => (P0_27_ k_ ∨ w.heap.size ≤ k_)) (.slice A0_27 l0_27.length c0_27) l0_27 from Kd.V_mono hs0_27 (fun k_ hk => .inl hk))
 have HR0_28 := Aside0.mk hr0_28
 have HC0_28 := Aside0.mk hc0_28
 clear hr0_28 hc0_28
 have HB := Aside0.mk (Below.refl w.heap.size w)
 have H : (pentaglotref33_Find.l0 k a1 l0_27 (l0_27.length : Int) 0) = some (r1, r2, r3, r4) := h
 clear h
 have H' := Aside0.mk H
 clear H
 go_enter Try.func26, Try.ntmps26
 go_wp2_with (first | ((with_reducible refine gate_load (t := 60) (p := 2) rfl ?_); (try (refine gate_guard (by rfl) ?_; dsimp only)); refine wpList_load_row rfl 60 (.tmp 2) rfl gb369 rfl 60 _ (0, 0) _ (tK BK369) Try.underlying60 rfl (by kernel_rfl) ?_) | ((with_reducible refine gate_dst (N := 2) rfl ?_); refine box_event ?hg (N := 2) ?hd (cs := #[.string a0_0, .bool a0_1, .slice A0_2 l0_2.length c0_2, .slice A0_3 l0_3.length c0_3, .slice A0_4 l0_4.length c0_4, .slice A0_5 l0_5.length c0_5, .slice A0_6 l0_6.length c0_6, .int .i64 a0_7, .int .i64 a0_8, .slice A0_9 l0_9.length c0_9, .int .i64 a0_10, .slice A0_11 l0_11.length c0_11, .slice A0_12 l0_12.length c0_12, .bool a0_13, .string a0_14, .int .i64 a0_15, .string a0_16, .bool a0_17, .int .i64 a0_18, .int .i64 a0_19, .slice A0_20 l0_20.length c0_20, .slice A0_21 l0_21.length c0_21, .slice A0_22 l0_22.length c0_22, .slice A0_23 l0_23.length c0_23, .slice A0_24 l0_24.length c0_24, .bool a0_25, .slice A0_26 l0_26.length c0_26, .slice A0_27 l0_27.length c0_27, .slice A0_28 l0_28.length c0_28, .string a0_29]) (t := 60) ?hr ?_; (case hd => rfl); (case hg => rfl); (case hr => first | (go_simp; done) | (go_simp; rfl)); intro gb369 hg w3 hbox hb; have n0_ := Aside0.mk (Kd.V_below (Kd.V_elderB (dV HO0_27) gb369 (Nat.le_of_eq hg.symm)) hb); have n1_ := Aside0.mk (below_step (tB HB) hb); have n2_ := Aside0.mk (hbox); have n3_ := tZ hg (tS HB); have n4_ := tZ hg (tS HB); revert n0_ n1_ n2_ n3_ n4_; clear HO0_27 HB; intro HO0_27 HB BK369 GW369 GE369; clear hb hbox hg) | ((with_reducible refine gate_dst (N := 4) rfl ?_); refine box_event ?hg (N := 4) ?hd (cs := #[.string (⟨#[]⟩ : ByteArray), .slice none 0 0, .slice none 0 0]) (t := 68) ?hr ?_; (case hd => rfl); (case hg => rfl); (case hr => first | (go_simp; done) | (go_simp; rfl)); intro gb370 hg w4 hbox hb; have n0_ := Aside0.mk (Kd.V_below (Kd.V_elderB (dV HO0_27) gb370 (Nat.le_of_eq hg.symm)) hb); have n1_ := Aside0.mk (blk_below (tK BK369) hb); have n2_ := Aside0.mk (below_step (tB HB) hb); have n3_ := Aside0.mk (hbox); have n4_ := tZ hg (tS HB); have n5_ := tZ hg (tS HB); have n6_ := tL hg (tK BK369); have n7_ := tG hg (tK BK369); revert n0_ n1_ n2_ n3_ n4_ n5_ n6_ n7_; clear HO0_27 BK369 HB; intro HO0_27 BK369 HB BK370 GW370 GE370 NB369_370 NB370_369; clear hb hbox hg; have hnb5 := NB369_370.out; have hnc5 := NB370_369.out; have hcz6_27 := cel2 BK369 27 rfl; have hfz6_27 := blk_frozen BK369.out 27))
 go_loopg [11] k (fun kq v11 w' => ∃ (x11_1 : Int) (x371000_1 : ByteArray), v11 = .int .i64 x11_1 ∧ Aside0 (pentaglotref33_Find.l0 kq a1 l0_27 (l0_27.length : Int) x11_1 = some (r1, r2, r3, r4)) ∧ Aside0 (kq ≤ k) ∧ Aside0 (Kd.V k68 68 w' w.heap.size (fun k_ => (P0_27_ k_ ∨ w.heap.size ≤ k_) ∧ k_ ≠ gb369 ∧ k_ ≠ gb370) (.slice A0_27 l0_27.length c0_27) l0_27) ∧ Aside0 (Kd.V k68 68 w' w.heap.size (fun k_ => (P0_27_ k_ ∨ w.heap.size ≤ k_) ∧ k_ ≠ gb369 ∧ k_ ≠ gb370) (.slice A0_27 l0_27.length c0_27) l0_27) ∧ Aside0 (w'.heap[gb369]? = some (.cells #[.string a0_0, .bool a0_1, (.slice A0_2 l0_2.length c0_2), (.slice A0_3 l0_3.length c0_3), (.slice A0_4 l0_4.length c0_4), (.slice A0_5 l0_5.length c0_5), (.slice A0_6 l0_6.length c0_6), .int .i64 a0_7, .int .i64 a0_8, (.slice A0_9 l0_9.length c0_9), .int .i64 a0_10, (.slice A0_11 l0_11.length c0_11), (.slice A0_12 l0_12.length c0_12), .bool a0_13, .string a0_14, .int .i64 a0_15, .string a0_16, .bool a0_17, .int .i64 a0_18, .int .i64 a0_19, (.slice A0_20 l0_20.length c0_20), (.slice A0_21 l0_21.length c0_21), (.slice A0_22 l0_22.length c0_22), (.slice A0_23 l0_23.length c0_23), (.slice A0_24 l0_24.length c0_24), .bool a0_25, (.slice A0_26 l0_26.length c0_26), (.slice A0_27 l0_27.length c0_27), (.slice A0_28 l0_28.length c0_28), .string a0_29] 60 (0, 0))) ∧ Aside0 (w'.heap[gb370]? = some (.cells #[.string x371000_1, (.slice none 0 0), (.slice none 0 0)] 68 (0, 0))) ∧ Aside0 (Below w.heap.size w w'))
 case atStart => exact ⟨(0), ((⟨#[]⟩ : ByteArray)), tV1, H', ⟨Nat.le_refl _⟩, ⟨dV HO0_27⟩, ⟨dV HO0_27⟩, ⟨tK BK369⟩, ⟨tK BK370⟩, ⟨tB HB⟩⟩
 case round =>
  clear H'; (try clear hcz6_27); (try clear hfz6_27)
  obtain ⟨x11_1, x371000_1, rfl, HA, HK1, HO_9, HO_370027, BK369, BK370, HB⟩ := hrel
  cases gk with
  | zero => exact absurd HA.out (by simp [pentaglotref33_Find.l0])
  | succ k1 =>
   have H := HA.out
   clear HA
   simp only [pentaglotref33_Find.l0] at H
   by_cases c7 : x11_1 < (l0_27.length : Int)
   ·
    rw [if_pos c7] at H
    have c7b0 : decide (x11_1 < (l0_27.length : Int)) = true := decide_eq_true c7
    clear c7
    by_cases c8 : 0 ≤ x11_1
    ·
     rw [if_pos c8] at H
     have c8b0 : decide (0 ≤ x11_1) = true := decide_eq_true c8
     clear c8
     by_cases c9 : x11_1 < (l0_27.length : Int)
     ·
      rw [if_pos c9] at H
      have c9b0 : decide (x11_1 < (l0_27.length : Int)) = true := decide_eq_true c9
      clear c9
      by_cases c10 : ((rd_T68 l0_27 x11_1).f0).toList = a1.toList
      ·
       rw [if_pos c10] at H
       have c10b0 := beq_iff_eq.mpr c10
       have c10b1 := bne_eq_false_iff_eq.mpr c10
       clear c10
       simp only [Option.some.injEq, Prod.mk.injEq] at H
       obtain ⟨rfl, rfl, rfl, rfl⟩ := H
       have p371 : 0 ≤ (x11_1 : Int) := oD
       have q371 : x11_1 < (l0_27.length : Int) := oD
       obtain ⟨ad371, A371_1, c371_1, A371_2, c371_2, e371, hx371_0, hx371_1, hx371_2, hl371_1, hi371_1, hl371_2, hi371_2⟩ := at_T68 (Kd.V_reads' HO_9.out).2.2 x11_1 p371 q371
       cases e371
       obtain ⟨ce371, hce371, hMe371, hcc371⟩ := Kd.V_get HO_9.out z68 x11_1 p371 (by first | exact q371 | exact oD | (have e_ := (Kd.V_reads' HO_9.out).1; omega))
       obtain ⟨ua371_1, uc371_1, ua371_2, uc371_2, rfl, ul371_1, ge371_1, ul371_2, ge371_2⟩ := k68_openF hMe371
       have hv371_1 := hcc371 1 _ rfl
       rw [add_field _ _ 1 (by omega)] at hv371_1
       replace hv371_1 := Option.some.inj (hv371_1.symm.trans hx371_1)
       injection hv371_1 with hva_ hvn_ hvc_
       rw [hva_] at ge371_1
       rw [hvc_] at ul371_1
       have HL371_1 := Aside0.mk (show Kd.V k90 90 _ w.heap.size _ _ ((rd_T68 l0_27 x11_1).f1) from Kd.V_mk ul371_1 ge371_1)
       clear hva_ hvn_ hvc_ ge371_1 ul371_1
       have hv371_2 := hcc371 2 _ rfl
       rw [add_field _ _ 2 (by omega)] at hv371_2
       replace hv371_2 := Option.some.inj (hv371_2.symm.trans hx371_2)
       injection hv371_2 with hva_ hvn_ hvc_
       rw [hva_] at ge371_2
       rw [hvc_] at ul371_2
       have HL371_2 := Aside0.mk (show Kd.V Kd.string 9 _ w.heap.size _ _ ((rd_T68 l0_27 x11_1).f2) from Kd.V_mk ul371_2 ge371_2)
       clear hva_ hvn_ hvc_ ge371_2 ul371_2; clear hcc371 hce371
       have HR371_1 := Aside0.mk hi371_1
       have HC371_1 := Aside0.mk hl371_1
       clear hi371_1 hl371_1
       have HR371_2 := Aside0.mk hi371_2
       have HC371_2 := Aside0.mk hl371_2
       clear hi371_2 hl371_2
       replace p371 := eq_true p371
       replace q371 := eq_true q371
       go_wp2_with (first | ((with_reducible refine gate_load (t := 60) (p := 2) rfl ?_); (try (refine gate_guard (by rfl) ?_; dsimp only)); refine wpList_load_row rfl 60 (.tmp 2) rfl gb369 rfl 60 _ (0, 0) _ (tK BK369) Try.underlying60 rfl (by kernel_rfl) ?_) | ((with_reducible refine gate_dst (N := 7) rfl ?_); refine box_event ?hg (N := 7) ?hd (cs := #[.string (⟨#[]⟩ : ByteArray), .slice none 0 0, .slice none 0 0]) (t := 68) ?hr ?_; (case hd => rfl); (case hg => rfl); (case hr => first | (go_simp; done) | (go_simp; rfl)); intro gb372 hg w11 hbox hb; have n0_ := Aside0.mk (Kd.V_below (Kd.V_elderB (dV HO_9) gb372 (Nat.le_of_eq hg.symm)) hb); have n1_ := Aside0.mk (Kd.V_below (Kd.V_elderB (dV HO_370027) gb372 (Nat.le_of_eq hg.symm)) hb); have n2_ := Aside0.mk (Kd.V_below (Kd.V_elderB (dV HL371_1) gb372 (Nat.le_of_eq hg.symm)) hb); have n3_ := Aside0.mk (Kd.V_below (Kd.V_elderB (dV HL371_2) gb372 (Nat.le_of_eq hg.symm)) hb); have n4_ := Aside0.mk (blk_below (tK BK369) hb); have n5_ := Aside0.mk (blk_below (tK BK370) hb); have n6_ := Aside0.mk (Kd.C_below (by repeat (first | (with_reducible exact HR371_1.out) | (with_reducible refine Kd.C_alloc ?_ _) | (with_reducible refine Kd.C_drewN ?_ _) | (with_reducible refine Kd.C_drew ?_) | exact HR371_1.out)) hb); have n7_ := Aside0.mk (Kd.C_below (by repeat (first | (with_reducible exact HR371_2.out) | (with_reducible refine Kd.C_alloc ?_ _) | (with_reducible refine Kd.C_drewN ?_ _) | (with_reducible refine Kd.C_drew ?_) | exact HR371_2.out)) hb); have n8_ := Aside0.mk (below_step (tB HB) hb); have n9_ := Aside0.mk (hbox); have n10_ := tZ hg (tS HB); have n11_ := tZ hg (tS HB); have n12_ := tL hg (tK BK369); have n13_ := tG hg (tK BK369); have n14_ := tL hg (tK BK370); have n15_ := tG hg (tK BK370); revert n0_ n1_ n2_ n3_ n4_ n5_ n6_ n7_ n8_ n9_ n10_ n11_ n12_ n13_ n14_ n15_; clear HO_9 HO_370027 HL371_1 HL371_2 BK369 BK370 HR371_1 HR371_2 HB; intro HO_9 HO_370027 HL371_1 HL371_2 BK369 BK370 HR371_1 HR371_2 HB BK372 GW372 GE372 NB369_372 NB372_369 NB370_372 NB372_370; clear hb hbox hg; have hnb12 := NB372_369.out; have hnc12 := NB369_372.out; have hnb13 := NB372_370.out; have hnc13 := NB370_372.out; have hcz14_0 := cel2 BK372 0 rfl; have hcz14_1 := cel2 BK372 1 rfl; have hcz14_2 := cel2 BK372 2 rfl; have hfz14_0 := blk_frozen BK372.out 0; have hfz14_1 := blk_frozen BK372.out 1; have hfz14_2 := blk_frozen BK372.out 2; have hnb15 := NB370_369.out; have hnc15 := NB369_370.out; have hcz16_0 := cel2 BK370 0 rfl; have hcz16_1 := cel2 BK370 1 rfl; have hcz16_2 := cel2 BK370 2 rfl; have hfz16_0 := blk_frozen BK370.out 0; have hfz16_1 := blk_frozen BK370.out 1; have hfz16_2 := blk_frozen BK370.out 2))
       refine bodyPost_ret (results_ct rfl _ _ gb370 68 #[.string ((rd_T68 l0_27 x11_1).f0), .slice A371_1 ((rd_T68 l0_27 x11_1).f1).length c371_1, .slice A371_2 ((rd_T68 l0_27 x11_1).f2).length c371_2] (0, 0) _ rfl (tKp BK370) Try.underlying68 rfl (by kernel_rfl)) rfl ?_
       exact ⟨_, _, tE, by (with_reducible repeat (first | apply Kd.V_alloc | apply Kd.V_drewN | apply Kd.V_drew)); exact Kd.V_mono (Kd.V_far (p := ⟨gb370, 2, none⟩) (Kd.V_far (p := ⟨gb370, 1, none⟩) (Kd.V_far (p := ⟨gb370, 0, none⟩) (Kd.V_far (p := ⟨gb372, 2, none⟩) (Kd.V_far (p := ⟨gb372, 1, none⟩) (Kd.V_far (p := ⟨gb372, 0, none⟩) (Kd.V_mono (Kd.V_mono HL371_1.out (fun k_ hk => (⟨hk, hk.2⟩ : _ ∧ k_ ≠ gb372))) (fun k_ hk => (⟨hk, hk.1.1.2.2⟩ : _ ∧ k_ ≠ gb370))) (fun _ hk => hk.1.2) (.string ((rd_T68 l0_27 x11_1).f0))) (fun _ hk => hk.1.2) (.slice A371_1 ((rd_T68 l0_27 x11_1).f1).length c371_1)) (fun _ hk => hk.1.2) (.slice A371_2 ((rd_T68 l0_27 x11_1).f2).length c371_2)) (fun _ hk => hk.2) (.string ((rd_T68 l0_27 x11_1).f0))) (fun _ hk => hk.2) (.slice A371_1 ((rd_T68 l0_27 x11_1).f1).length c371_1)) (fun _ hk => hk.2) (.slice A371_2 ((rd_T68 l0_27 x11_1).f2).length c371_2)) (fun _ hk => hk.1.1.1.1), by (with_reducible repeat (first | apply Kd.V_alloc | apply Kd.V_drewN | apply Kd.V_drew)); exact Kd.V_mono (Kd.V_far (p := ⟨gb370, 2, none⟩) (Kd.V_far (p := ⟨gb370, 1, none⟩) (Kd.V_far (p := ⟨gb370, 0, none⟩) (Kd.V_far (p := ⟨gb372, 2, none⟩) (Kd.V_far (p := ⟨gb372, 1, none⟩) (Kd.V_far (p := ⟨gb372, 0, none⟩) (Kd.V_mono (Kd.V_mono HL371_2.out (fun k_ hk => (⟨hk, hk.2⟩ : _ ∧ k_ ≠ gb372))) (fun k_ hk => (⟨hk, hk.1.1.2.2⟩ : _ ∧ k_ ≠ gb370))) (fun _ hk => hk.1.2) (.string ((rd_T68 l0_27 x11_1).f0))) (fun _ hk => hk.1.2) (.slice A371_1 ((rd_T68 l0_27 x11_1).f1).length c371_1)) (fun _ hk => hk.1.2) (.slice A371_2 ((rd_T68 l0_27 x11_1).f2).length c371_2)) (fun _ hk => hk.2) (.string ((rd_T68 l0_27 x11_1).f0))) (fun _ hk => hk.2) (.slice A371_1 ((rd_T68 l0_27 x11_1).f1).length c371_1)) (fun _ hk => hk.2) (.slice A371_2 ((rd_T68 l0_27 x11_1).f2).length c371_2)) (fun _ hk => hk.1.1.1.1), by repeat (first | (with_reducible first | exact HB.out | apply below_alloc | apply pw_below_drewN | apply below_drew1 | refine below_set ?_ GE369.out | refine below_set ?_ GE370.out | refine below_set ?_ GE372.out) | exact HB.out)⟩
      ·
       rw [if_neg c10] at H
       have c10b0 := beq_eq_false_iff_ne.mpr c10
       have c10b1 := bne_iff_ne.mpr c10
       have H' := Aside0.mk H
       clear H
       have p371 : 0 ≤ (x11_1 : Int) := oD
       have q371 : x11_1 < (l0_27.length : Int) := oD
       obtain ⟨ad371, A371_1, c371_1, A371_2, c371_2, e371, hx371_0, hx371_1, hx371_2, hl371_1, hi371_1, hl371_2, hi371_2⟩ := at_T68 (Kd.V_reads' HO_9.out).2.2 x11_1 p371 q371
       cases e371
       obtain ⟨ce371, hce371, hMe371, hcc371⟩ := Kd.V_get HO_9.out z68 x11_1 p371 (by first | exact q371 | exact oD | (have e_ := (Kd.V_reads' HO_9.out).1; omega))
       obtain ⟨ua371_1, uc371_1, ua371_2, uc371_2, rfl, ul371_1, ge371_1, ul371_2, ge371_2⟩ := k68_openF hMe371
       have hv371_1 := hcc371 1 _ rfl
       rw [add_field _ _ 1 (by omega)] at hv371_1
       replace hv371_1 := Option.some.inj (hv371_1.symm.trans hx371_1)
       injection hv371_1 with hva_ hvn_ hvc_
       rw [hva_] at ge371_1
       rw [hvc_] at ul371_1
       have HL371_1 := Aside0.mk (show Kd.V k90 90 _ w.heap.size _ _ ((rd_T68 l0_27 x11_1).f1) from Kd.V_mk ul371_1 ge371_1)
       clear hva_ hvn_ hvc_ ge371_1 ul371_1
       have hv371_2 := hcc371 2 _ rfl
       rw [add_field _ _ 2 (by omega)] at hv371_2
       replace hv371_2 := Option.some.inj (hv371_2.symm.trans hx371_2)
       injection hv371_2 with hva_ hvn_ hvc_
       rw [hva_] at ge371_2
       rw [hvc_] at ul371_2
       have HL371_2 := Aside0.mk (show Kd.V Kd.string 9 _ w.heap.size _ _ ((rd_T68 l0_27 x11_1).f2) from Kd.V_mk ul371_2 ge371_2)
       clear hva_ hvn_ hvc_ ge371_2 ul371_2; clear hcc371 hce371
       have HR371_1 := Aside0.mk hi371_1
       have HC371_1 := Aside0.mk hl371_1
       clear hi371_1 hl371_1
       have HR371_2 := Aside0.mk hi371_2
       have HC371_2 := Aside0.mk hl371_2
       clear hi371_2 hl371_2
       replace p371 := eq_true p371
       replace q371 := eq_true q371
       go_wp2_with (first | ((with_reducible refine gate_load (t := 60) (p := 2) rfl ?_); (try (refine gate_guard (by rfl) ?_; dsimp only)); refine wpList_load_row rfl 60 (.tmp 2) rfl gb369 rfl 60 _ (0, 0) _ (tK BK369) Try.underlying60 rfl (by kernel_rfl) ?_) | ((with_reducible refine gate_dst (N := 7) rfl ?_); refine box_event ?hg (N := 7) ?hd (cs := #[.string (⟨#[]⟩ : ByteArray), .slice none 0 0, .slice none 0 0]) (t := 68) ?hr ?_; (case hd => rfl); (case hg => rfl); (case hr => first | (go_simp; done) | (go_simp; rfl)); intro gb372 hg w17 hbox hb; have n0_ := Aside0.mk (Kd.V_below (Kd.V_elderB (dV HO_9) gb372 (Nat.le_of_eq hg.symm)) hb); have n1_ := Aside0.mk (Kd.V_below (Kd.V_elderB (dV HO_370027) gb372 (Nat.le_of_eq hg.symm)) hb); have n2_ := Aside0.mk (Kd.V_below (Kd.V_elderB (dV HL371_1) gb372 (Nat.le_of_eq hg.symm)) hb); have n3_ := Aside0.mk (Kd.V_below (Kd.V_elderB (dV HL371_2) gb372 (Nat.le_of_eq hg.symm)) hb); have n4_ := Aside0.mk (blk_below (tK BK369) hb); have n5_ := Aside0.mk (blk_below (tK BK370) hb); have n6_ := Aside0.mk (Kd.C_below (by repeat (first | (with_reducible exact HR371_1.out) | (with_reducible refine Kd.C_alloc ?_ _) | (with_reducible refine Kd.C_drewN ?_ _) | (with_reducible refine Kd.C_drew ?_) | exact HR371_1.out)) hb); have n7_ := Aside0.mk (Kd.C_below (by repeat (first | (with_reducible exact HR371_2.out) | (with_reducible refine Kd.C_alloc ?_ _) | (with_reducible refine Kd.C_drewN ?_ _) | (with_reducible refine Kd.C_drew ?_) | exact HR371_2.out)) hb); have n8_ := Aside0.mk (below_step (tB HB) hb); have n9_ := Aside0.mk (hbox); have n10_ := tZ hg (tS HB); have n11_ := tZ hg (tS HB); have n12_ := tL hg (tK BK369); have n13_ := tG hg (tK BK369); have n14_ := tL hg (tK BK370); have n15_ := tG hg (tK BK370); revert n0_ n1_ n2_ n3_ n4_ n5_ n6_ n7_ n8_ n9_ n10_ n11_ n12_ n13_ n14_ n15_; clear HO_9 HO_370027 HL371_1 HL371_2 BK369 BK370 HR371_1 HR371_2 HB; intro HO_9 HO_370027 HL371_1 HL371_2 BK369 BK370 HR371_1 HR371_2 HB BK372 GW372 GE372 NB369_372 NB372_369 NB370_372 NB372_370; clear hb hbox hg; have hnb18 := NB372_369.out; have hnc18 := NB369_372.out; have hnb19 := NB372_370.out; have hnc19 := NB370_372.out; have hcz20_0 := cel2 BK372 0 rfl; have hcz20_1 := cel2 BK372 1 rfl; have hcz20_2 := cel2 BK372 2 rfl; have hfz20_0 := blk_frozen BK372.out 0; have hfz20_1 := blk_frozen BK372.out 1; have hfz20_2 := blk_frozen BK372.out 2))
       go_roundg k1
       case measure => have := HK1.out; omega
       case rel => exact ⟨(wrap64 (x11_1 + 1)), (x371000_1), tV1, H', ⟨by have := HK1.out; omega⟩, ⟨dV HO_9⟩, ⟨dV HO_370027⟩, ⟨tK BK369⟩, ⟨tK BK370⟩, ⟨tB HB⟩⟩
     ·
      rw [if_neg c9] at H
      exact absurd H (by simp)
    ·
     rw [if_neg c8] at H
     exact absurd H (by simp)
   ·
    rw [if_neg c7] at H
    have c7b0 : decide (x11_1 < (l0_27.length : Int)) = false := decide_eq_false c7
    clear c7
    simp only [Option.some.injEq, Prod.mk.injEq] at H
    obtain ⟨rfl, rfl, rfl, rfl⟩ := H
    have hnb21 := NB370_369.out
    have hnc21 := NB369_370.out
    obtain ⟨hcz22_0, hcz22_1, hcz22_2, hfz22_0, hfz22_1, hfz22_2⟩ := bx3 BK370
    go_wp2
    refine bodyPost_ret (results_ct rfl _ _ gb370 68 #[.string (⟨#[]⟩ : ByteArray), .slice none 0 0, .slice none 0 0] (0, 0) _ rfl (tKp BK370) Try.underlying68 rfl (by kernel_rfl)) rfl ?_
    exact ⟨_, _, tE, Kd.V_nil _ _ _ _ _, Kd.V_nil _ _ _ _ _, by repeat (first | (with_reducible first | exact HB.out | apply below_alloc | apply pw_below_drewN | apply below_drew1 | refine below_set ?_ GE369.out | refine below_set ?_ GE370.out) | exact HB.out)⟩

end Go.Proofs.Ytfbfopfhfeijdaa.Pr
