-- Written by a program of this session (ownprint.py, over the kit's printer). Not trusted: Lean checks it.
import Derived.Test.YtfbfopfhfeijdaaPr0
import Derived.Test.YtfbfopfhfeijdaaCt
import Derived.Test.YtfbfopfhfeijdaaAwake
import Derived.Test.YtfbfopfhfeijdaaPrF21
import Derived.Test.YtfbfopfhfeijdaaPrF24
import Derived.Test.YtfbfopfhfeijdaaPrF25
import Derived.Test.YtfbfopfhfeijdaaPrF26
import Derived.Test.YtfbfopfhfeijdaaPrF27
import Derived.Test.YtfbfopfhfeijdaaPrF28
namespace Go.Proofs.Ytfbfopfhfeijdaa.Pr
open Go.Proofs.Ytfbfopfhfeijdaa.Ct Go.RowKit Go.Proofs.YtfbfopfhfeijdaaW.PrintWords Go.Proofs.YtfbfopfhfeijdaaW.PrintLast Go.Proofs.YtfbfopfhfeijdaaW.PrintMore
attribute [local go_sem] max2_int min2_int max_two min_two max_three min_three max_four min_four   -- for this text's walks alone
set_option linter.unusedVariables false
set_option linter.unusedSimpArgs false

/-! ### pentaglotlaw33_ConcreteFind: function 10 -/
mutual
def pentaglotlaw33_ConcreteFind.j0 : Nat → ByteArray → Bool → ByteArray → Bool → List (S173) → List (S176) → List (S179) → List (S181) → List (List Int) → Int → Int → List (S176) → Int → List ByteArray → List ByteArray → Bool → ByteArray → Int → ByteArray → Bool → Int → Int → List (S184) → List (S184) → List ByteArray → List ByteArray → List ByteArray → Bool → List (S186) → List (S68) → List (S33) → ByteArray → Option (Bool)
 | 0, _, _, _, _, _, _, _, _, _, _, _, _, _, _, _, _, _, _, _, _, _, _, _, _, _, _, _, _, _, _, _, _ => none
 | k + 1, x1, x18, x390000, x390001, x390002, x390003, x390004, x390005, x390006, x390007, x390008, x390009, x390010, x390011, x390012, x390013, x390014, x390015, x390016, x390017, x390018, x390019, x390020, x390021, x390022, x390023, x390024, x390025, x390026, x390027, x390028, x390029 => if x18 = true then ((pentaglotlaw33_awake.f).bind fun t392 => (some t392)) else ((concrete_Find.f k x390000 x390001 x390002 x390003 x390004 x390005 x390006 x390007 x390008 x390009 x390010 x390011 x390012 x390013 x390014 x390015 x390016 x390017 x390018 x390019 x390020 x390021 x390022 x390023 x390024 x390025 x390026 x390027 x390028 x390029 x1).bind fun bt393 => ((pentaglotref33_Find.f k x390000 x390001 x390002 x390003 x390004 x390005 x390006 x390007 x390008 x390009 x390010 x390011 x390012 x390013 x390014 x390015 x390016 x390017 x390018 x390019 x390020 x390021 x390022 x390023 x390024 x390025 x390026 x390027 x390028 x390029 x1).bind fun bt402 => ((concrete_Rules.f k x390000 x390001 x390002 x390003 x390004 x390005 x390006 x390007 x390008 x390009 x390010 x390011 x390012 x390013 x390014 x390015 x390016 x390017 x390018 x390019 x390020 x390021 x390022 x390023 x390024 x390025 x390026 x390027 x390028 x390029 x1).bind fun t411 => ((pentaglotref33_Rules.f k x390000 x390001 x390002 x390003 x390004 x390005 x390006 x390007 x390008 x390009 x390010 x390011 x390012 x390013 x390014 x390015 x390016 x390017 x390018 x390019 x390020 x390021 x390022 x390023 x390024 x390025 x390026 x390027 x390028 x390029 x1).bind fun t414 => (if (bt393.2.2.2 != bt402.2.2.2) = true then (pentaglotlaw33_ConcreteFind.j1 k t411 t414 true) else (if bt393.1.toList = bt402.1.toList then (if (bt393.2.2.1.length : Int) = (bt402.2.2.1.length : Int) then (if (bt393.2.1.length : Int) = (bt402.2.1.length : Int) then (pentaglotlaw33_ConcreteFind.j1 k t411 t414 ((t411.length : Int) != (t414.length : Int))) else (pentaglotlaw33_ConcreteFind.j1 k t411 t414 true)) else (pentaglotlaw33_ConcreteFind.j1 k t411 t414 true)) else (pentaglotlaw33_ConcreteFind.j1 k t411 t414 true)))))))
def pentaglotlaw33_ConcreteFind.j1 : Nat → List (S33) → List (S33) → Bool → Option (Bool)
 | 0, _, _, _ => none
 | k + 1, x9, x10, x72 => if x72 = true then (some false) else (pentaglotlaw33_ConcreteFind.l0 k x9 x10 (x10.length : Int) 0)
def pentaglotlaw33_ConcreteFind.l0 : Nat → List (S33) → List (S33) → Int → Int → Option (Bool)
 | 0, _, _, _, _ => none
 | k + 1, x9, x10, x74, x75 => if x75 < x74 then (if 0 ≤ x75 then (if x75 < (x9.length : Int) then (if x75 < (x10.length : Int) then ((pentaglotref33_SameRule.f k ((rd_T33 x9 x75).f0) ((rd_T33 x9 x75).f1) ((rd_T33 x9 x75).f2) ((rd_T33 x9 x75).f3) ((rd_T33 x10 x75).f0) ((rd_T33 x10 x75).f1) ((rd_T33 x10 x75).f2) ((rd_T33 x10 x75).f3)).bind fun t419 => (if t419 = true then (pentaglotlaw33_ConcreteFind.l0 k x9 x10 x74 (wrap64 (x75 + 1))) else (some false))) else (none)) else (none)) else (none)) else (some true)
end
def pentaglotlaw33_ConcreteFind.f (k : Nat) (a0_0 : ByteArray) (a0_1 : Bool) (l0_2 : List (S173)) (l0_3 : List (S176)) (l0_4 : List (S179)) (l0_5 : List (S181)) (l0_6 : List (List Int)) (a0_7 : Int) (a0_8 : Int) (l0_9 : List (S176)) (a0_10 : Int) (l0_11 : List ByteArray) (l0_12 : List ByteArray) (a0_13 : Bool) (a0_14 : ByteArray) (a0_15 : Int) (a0_16 : ByteArray) (a0_17 : Bool) (a0_18 : Int) (a0_19 : Int) (l0_20 : List (S184)) (l0_21 : List (S184)) (l0_22 : List ByteArray) (l0_23 : List ByteArray) (l0_24 : List ByteArray) (a0_25 : Bool) (l0_26 : List (S186)) (l0_27 : List (S68)) (l0_28 : List (S33)) (a0_29 : ByteArray) (a1 : ByteArray) : Option (Bool) := (pentaglotlaw33_awake.f).bind fun t390 => (if t390 = true then ((pentaglotlaw33_few.f k ([] : List (S85)) a0_0 a0_1 l0_2 l0_3 l0_4 l0_5 l0_6 a0_7 a0_8 l0_9 a0_10 l0_11 l0_12 a0_13 a0_14 a0_15 a0_16 a0_17 a0_18 a0_19 l0_20 l0_21 l0_22 l0_23 l0_24 a0_25 l0_26 l0_27 l0_28 a0_29).bind fun t391 => (pentaglotlaw33_ConcreteFind.j0 k a1 (!t391) a0_0 a0_1 l0_2 l0_3 l0_4 l0_5 l0_6 a0_7 a0_8 l0_9 a0_10 l0_11 l0_12 a0_13 a0_14 a0_15 a0_16 a0_17 a0_18 a0_19 l0_20 l0_21 l0_22 l0_23 l0_24 a0_25 l0_26 l0_27 l0_28 a0_29)) else (pentaglotlaw33_ConcreteFind.j0 k a1 true a0_0 a0_1 l0_2 l0_3 l0_4 l0_5 l0_6 a0_7 a0_8 l0_9 a0_10 l0_11 l0_12 a0_13 a0_14 a0_15 a0_16 a0_17 a0_18 a0_19 l0_20 l0_21 l0_22 l0_23 l0_24 a0_25 l0_26 l0_27 l0_28 a0_29))
def pentaglotlaw33_ConcreteFind.T5 : Bool × List (List Nat × List Nat) := (true, [([], []), ([], []), ([0, 1], [0, 1]), ([], []), ([], []), ([3, 4, 2], [3, 4]), ([2, 5, 0, 1, 2], [2]), ([5, 6, 0, 1, 2, 3, 4, 5, 6], [5])])
def pentaglotlaw33_ConcreteFind.B5 : List Nat := [0, 0, 3, 0, 0, 31, 63, 127]
theorem pentaglotlaw33_ConcreteFind.tab5 : rtab .any (opsOf Try.f10 5) = pentaglotlaw33_ConcreteFind.T5 := by kernel_rfl
theorem pentaglotlaw33_ConcreteFind.bits5 : waitsOk pentaglotlaw33_ConcreteFind.T5.2 pentaglotlaw33_ConcreteFind.B5 = true := by kernel_rfl
def pentaglotlaw33_ConcreteFind.T11 : Bool × List (List Nat × List Nat) := (true, [([], []), ([], []), ([0, 1], [0, 1]), ([2], [2]), ([], []), ([], []), ([4, 5], [4, 5]), ([6], [6]), ([3, 7], [3, 7]), ([8], [8])])
def pentaglotlaw33_ConcreteFind.B11 : List Nat := [0, 0, 3, 7, 0, 0, 48, 112, 255, 511]
theorem pentaglotlaw33_ConcreteFind.tab11 : rtab .any (opsOf Try.f10 11) = pentaglotlaw33_ConcreteFind.T11 := by kernel_rfl
theorem pentaglotlaw33_ConcreteFind.bits11 : waitsOk pentaglotlaw33_ConcreteFind.T11.2 pentaglotlaw33_ConcreteFind.B11 = true := by kernel_rfl
set_option maxHeartbeats 8000000 in
set_option maxRecDepth 100000 in
theorem pentaglotlaw33_ConcreteFind.calls (k : Nat) (a0_0 : ByteArray) (a0_1 : Bool) (A0_2 : Option Addr) (c0_2 : Nat) (l0_2 : List (S173)) (A0_3 : Option Addr) (c0_3 : Nat) (l0_3 : List (S176)) (A0_4 : Option Addr) (c0_4 : Nat) (l0_4 : List (S179)) (A0_5 : Option Addr) (c0_5 : Nat) (l0_5 : List (S181)) (A0_6 : Option Addr) (c0_6 : Nat) (l0_6 : List (List Int)) (a0_7 : Int) (a0_8 : Int) (A0_9 : Option Addr) (c0_9 : Nat) (l0_9 : List (S176)) (a0_10 : Int) (A0_11 : Option Addr) (c0_11 : Nat) (l0_11 : List ByteArray) (A0_12 : Option Addr) (c0_12 : Nat) (l0_12 : List ByteArray) (a0_13 : Bool) (a0_14 : ByteArray) (a0_15 : Int) (a0_16 : ByteArray) (a0_17 : Bool) (a0_18 : Int) (a0_19 : Int) (A0_20 : Option Addr) (c0_20 : Nat) (l0_20 : List (S184)) (A0_21 : Option Addr) (c0_21 : Nat) (l0_21 : List (S184)) (A0_22 : Option Addr) (c0_22 : Nat) (l0_22 : List ByteArray) (A0_23 : Option Addr) (c0_23 : Nat) (l0_23 : List ByteArray) (A0_24 : Option Addr) (c0_24 : Nat) (l0_24 : List ByteArray) (a0_25 : Bool) (A0_26 : Option Addr) (c0_26 : Nat) (l0_26 : List (S186)) (A0_27 : Option Addr) (c0_27 : Nat) (l0_27 : List (S68)) (A0_28 : Option Addr) (c0_28 : Nat) (l0_28 : List (S33)) (a0_29 : ByteArray) (a1 : ByteArray) (r : Bool) (w : World) (hr0_2 : Kd.C k173 w A0_2 l0_2.length l0_2) (hc0_2 : l0_2.length ≤ c0_2) (hr0_3 : Kd.C k176 w A0_3 l0_3.length l0_3) (hc0_3 : l0_3.length ≤ c0_3) (hr0_4 : Kd.C k179 w A0_4 l0_4.length l0_4) (hc0_4 : l0_4.length ≤ c0_4) (hr0_5 : Kd.C k181 w A0_5 l0_5.length l0_5) (hc0_5 : l0_5.length ≤ c0_5) (hr0_6 : Kd.C (Kd.slice 143 (Kd.int .u32)) w A0_6 l0_6.length l0_6) (hc0_6 : l0_6.length ≤ c0_6) (hr0_9 : Kd.C k176 w A0_9 l0_9.length l0_9) (hc0_9 : l0_9.length ≤ c0_9) (hr0_11 : Kd.C Kd.string w A0_11 l0_11.length l0_11) (hc0_11 : l0_11.length ≤ c0_11) (hr0_12 : Kd.C Kd.string w A0_12 l0_12.length l0_12) (hc0_12 : l0_12.length ≤ c0_12) (hr0_20 : Kd.C k184 w A0_20 l0_20.length l0_20) (hc0_20 : l0_20.length ≤ c0_20) (hr0_21 : Kd.C k184 w A0_21 l0_21.length l0_21) (hc0_21 : l0_21.length ≤ c0_21) (hr0_22 : Kd.C Kd.string w A0_22 l0_22.length l0_22) (hc0_22 : l0_22.length ≤ c0_22) (hr0_23 : Kd.C Kd.string w A0_23 l0_23.length l0_23) (hc0_23 : l0_23.length ≤ c0_23) (hr0_24 : Kd.C Kd.string w A0_24 l0_24.length l0_24) (hc0_24 : l0_24.length ≤ c0_24) (hr0_26 : Kd.C k186 w A0_26 l0_26.length l0_26) (hc0_26 : l0_26.length ≤ c0_26) (hr0_27 : Kd.C k68 w A0_27 l0_27.length l0_27) (hc0_27 : l0_27.length ≤ c0_27) (hr0_28 : Kd.C k33 w A0_28 l0_28.length l0_28) (hc0_28 : l0_28.length ≤ c0_28) (h : pentaglotlaw33_ConcreteFind.f k a0_0 a0_1 l0_2 l0_3 l0_4 l0_5 l0_6 a0_7 a0_8 l0_9 a0_10 l0_11 l0_12 a0_13 a0_14 a0_15 a0_16 a0_17 a0_18 a0_19 l0_20 l0_21 l0_22 l0_23 l0_24 a0_25 l0_26 l0_27 l0_28 a0_29 a1 = some r) :
 Calls Try.prog 10 #[.agg #[.string a0_0, .bool a0_1, .slice A0_2 l0_2.length c0_2, .slice A0_3 l0_3.length c0_3, .slice A0_4 l0_4.length c0_4, .slice A0_5 l0_5.length c0_5, .slice A0_6 l0_6.length c0_6, .int .i64 a0_7, .int .i64 a0_8, .slice A0_9 l0_9.length c0_9, .int .i64 a0_10, .slice A0_11 l0_11.length c0_11, .slice A0_12 l0_12.length c0_12, .bool a0_13, .string a0_14, .int .i64 a0_15, .string a0_16, .bool a0_17, .int .i64 a0_18, .int .i64 a0_19, .slice A0_20 l0_20.length c0_20, .slice A0_21 l0_21.length c0_21, .slice A0_22 l0_22.length c0_22, .slice A0_23 l0_23.length c0_23, .slice A0_24 l0_24.length c0_24, .bool a0_25, .slice A0_26 l0_26.length c0_26, .slice A0_27 l0_27.length c0_27, .slice A0_28 l0_28.length c0_28, .string a0_29], .string a1] w fun e w' => e = .returned (.bool r) ∧ Below w.heap.size w w' := by
 have hu60 := Try.underlying60
 have hu68 := Try.underlying68
 have hu33 := Try.underlying33
 have HR0_2 := Aside0.mk hr0_2
 have HC0_2 := Aside0.mk hc0_2
 clear hr0_2 hc0_2
 have HR0_3 := Aside0.mk hr0_3
 have HC0_3 := Aside0.mk hc0_3
 clear hr0_3 hc0_3
 have HR0_4 := Aside0.mk hr0_4
 have HC0_4 := Aside0.mk hc0_4
 clear hr0_4 hc0_4
 have HR0_5 := Aside0.mk hr0_5
 have HC0_5 := Aside0.mk hc0_5
 clear hr0_5 hc0_5
 have HR0_6 := Aside0.mk hr0_6
 have HC0_6 := Aside0.mk hc0_6
 clear hr0_6 hc0_6
 have HR0_9 := Aside0.mk hr0_9
 have HC0_9 := Aside0.mk hc0_9
 clear hr0_9 hc0_9
 have HR0_11 := Aside0.mk hr0_11
 have HC0_11 := Aside0.mk hc0_11
 clear hr0_11 hc0_11
 have HR0_12 := Aside0.mk hr0_12
 have HC0_12 := Aside0.mk hc0_12
 clear hr0_12 hc0_12
 have HR0_20 := Aside0.mk hr0_20
 have HC0_20 := Aside0.mk hc0_20
 clear hr0_20 hc0_20
 have HR0_21 := Aside0.mk hr0_21
 have HC0_21 := Aside0.mk hc0_21
 clear hr0_21 hc0_21
 have HR0_22 := Aside0.mk hr0_22
 have HC0_22 := Aside0.mk hc0_22
 clear hr0_22 hc0_22
 have HR0_23 := Aside0.mk hr0_23
 have HC0_23 := Aside0.mk hc0_23
 clear hr0_23 hc0_23
 have HR0_24 := Aside0.mk hr0_24
 have HC0_24 := Aside0.mk hc0_24
 clear hr0_24 hc0_24
 have HR0_26 := Aside0.mk hr0_26
 have HC0_26 := Aside0.mk hc0_26
 clear hr0_26 hc0_26
 have HR0_27 := Aside0.mk hr0_27
 have HC0_27 := Aside0.mk hc0_27
 clear hr0_27 hc0_27
 have HR0_28 := Aside0.mk hr0_28
 have HC0_28 := Aside0.mk hc0_28
 clear hr0_28 hc0_28
 have HB := Aside0.mk (Below.refl w.heap.size w)
 have H : ((pentaglotlaw33_awake.f).bind fun t390 => (if t390 = true then ((pentaglotlaw33_few.f k ([] : List (S85)) a0_0 a0_1 l0_2 l0_3 l0_4 l0_5 l0_6 a0_7 a0_8 l0_9 a0_10 l0_11 l0_12 a0_13 a0_14 a0_15 a0_16 a0_17 a0_18 a0_19 l0_20 l0_21 l0_22 l0_23 l0_24 a0_25 l0_26 l0_27 l0_28 a0_29).bind fun t391 => (pentaglotlaw33_ConcreteFind.j0 k a1 (!t391) a0_0 a0_1 l0_2 l0_3 l0_4 l0_5 l0_6 a0_7 a0_8 l0_9 a0_10 l0_11 l0_12 a0_13 a0_14 a0_15 a0_16 a0_17 a0_18 a0_19 l0_20 l0_21 l0_22 l0_23 l0_24 a0_25 l0_26 l0_27 l0_28 a0_29)) else (pentaglotlaw33_ConcreteFind.j0 k a1 true a0_0 a0_1 l0_2 l0_3 l0_4 l0_5 l0_6 a0_7 a0_8 l0_9 a0_10 l0_11 l0_12 a0_13 a0_14 a0_15 a0_16 a0_17 a0_18 a0_19 l0_20 l0_21 l0_22 l0_23 l0_24 a0_25 l0_26 l0_27 l0_28 a0_29))) = some r := h
 clear h
 have HC3 := Aside0.mk H
 clear H
 go_enter Try.func10, Try.ntmps10
 go_upto_region 1 with (first | ((with_reducible refine gate_load (t := 60) (p := 2) rfl ?_); (try (refine gate_guard (by rfl) ?_; dsimp only)); refine wpList_load_row rfl 60 (.tmp 2) rfl gb389 rfl 60 _ (0, 0) _ (tK BK389) Try.underlying60 rfl (by kernel_rfl) ?_) | ((with_reducible refine gate_dst (N := 2) rfl ?_); (try (refine gate_guard (by rfl) ?_; dsimp only)); refine box_event ?hg (N := 2) ?hd (cs := #[.string a0_0, .bool a0_1, .slice A0_2 l0_2.length c0_2, .slice A0_3 l0_3.length c0_3, .slice A0_4 l0_4.length c0_4, .slice A0_5 l0_5.length c0_5, .slice A0_6 l0_6.length c0_6, .int .i64 a0_7, .int .i64 a0_8, .slice A0_9 l0_9.length c0_9, .int .i64 a0_10, .slice A0_11 l0_11.length c0_11, .slice A0_12 l0_12.length c0_12, .bool a0_13, .string a0_14, .int .i64 a0_15, .string a0_16, .bool a0_17, .int .i64 a0_18, .int .i64 a0_19, .slice A0_20 l0_20.length c0_20, .slice A0_21 l0_21.length c0_21, .slice A0_22 l0_22.length c0_22, .slice A0_23 l0_23.length c0_23, .slice A0_24 l0_24.length c0_24, .bool a0_25, .slice A0_26 l0_26.length c0_26, .slice A0_27 l0_27.length c0_27, .slice A0_28 l0_28.length c0_28, .string a0_29]) (t := 60) ?hr ?_; (case hd => rfl); (case hg => rfl); (case hr => first | (go_simp; done) | (go_simp; rfl)); intro gb389 hg w4 hbox hb; have n0_ := Aside0.mk (below_step (tB HB) hb); have n1_ := Aside0.mk (hbox); have n2_ := tZ hg (tS HB); have n3_ := tZ hg (tS HB); revert n0_ n1_ n2_ n3_; clear HB; intro HB BK389 GW389 GE389; clear hb hbox hg))
 (try simp only [Act.put, List.setIfInBounds_toArray, List.set_cons_zero, List.set_cons_succ])
 go_cut [18] (fun v18 wc => ∃ (kq : Nat) (x18_2 : Bool), v18 = .bool x18_2 ∧ Aside0 (pentaglotlaw33_ConcreteFind.j0 kq a1 x18_2 a0_0 a0_1 l0_2 l0_3 l0_4 l0_5 l0_6 a0_7 a0_8 l0_9 a0_10 l0_11 l0_12 a0_13 a0_14 a0_15 a0_16 a0_17 a0_18 a0_19 l0_20 l0_21 l0_22 l0_23 l0_24 a0_25 l0_26 l0_27 l0_28 a0_29 = some r) ∧ Aside0 (kq ≤ k) ∧ Aside0 (wc.heap[gb389]? = some (.cells #[.string a0_0, .bool a0_1, (.slice A0_2 l0_2.length c0_2), (.slice A0_3 l0_3.length c0_3), (.slice A0_4 l0_4.length c0_4), (.slice A0_5 l0_5.length c0_5), (.slice A0_6 l0_6.length c0_6), .int .i64 a0_7, .int .i64 a0_8, (.slice A0_9 l0_9.length c0_9), .int .i64 a0_10, (.slice A0_11 l0_11.length c0_11), (.slice A0_12 l0_12.length c0_12), .bool a0_13, .string a0_14, .int .i64 a0_15, .string a0_16, .bool a0_17, .int .i64 a0_18, .int .i64 a0_19, (.slice A0_20 l0_20.length c0_20), (.slice A0_21 l0_21.length c0_21), (.slice A0_22 l0_22.length c0_22), (.slice A0_23 l0_23.length c0_23), (.slice A0_24 l0_24.length c0_24), .bool a0_25, (.slice A0_26 l0_26.length c0_26), (.slice A0_27 l0_27.length c0_27), (.slice A0_28 l0_28.length c0_28), .string a0_29] 60 (0, 0))) ∧ Aside0 (Below w.heap.size w wc))
 case first =>
  have H := HC3.out
  clear HC3
  replace H := Option.bind_eq_some_iff.mp H
  obtain ⟨t390, A50, H⟩ := H
  (try dsimp only at H)
  have A5 := Aside0.mk A50
  clear A50
  by_cases c6 : t390 = true
  ·
   subst c6
   rw [if_pos rfl] at H
   replace H := Option.bind_eq_some_iff.mp H
   obtain ⟨t391, A70, H⟩ := H
   (try dsimp only at H)
   have A7 := Aside0.mk A70
   clear A70
   have H' := Aside0.mk H
   clear H
   go_wp2_with (first | ((with_reducible refine gate_load (t := 60) (p := 2) rfl ?_); (try (refine gate_guard (by rfl) ?_; dsimp only)); refine wpList_load_row rfl 60 (.tmp 2) rfl gb389 rfl 60 _ (0, 0) _ (tK BK389) Try.underlying60 rfl (by kernel_rfl) ?_) | ((with_reducible refine gate_callee (f := 12) rfl ?_); refine goesL_ (some 12) rfl rfl Try.func12 (by kernel_rfl) rfl #[] rfl (by (try simp only [List.map_toArray, List.map_cons, List.map_nil]); first | done | rfl | (simp only [List.length_drop, List.length_take]; rfl)) ?_; (with_reducible refine (pentaglotlaw33_awake.calls  true _ A5.out).mono ?_); rintro e w8 ⟨rfl, hb⟩; refine ⟨_, rfl, ?_⟩; have n0_ := Aside0.mk (blk_below (tK BK389) hb); have n1_ := Aside0.mk (below_step (tB HB) hb); revert n0_ n1_; clear BK389 HB; intro BK389 HB; (try clear hb); (try clear hb2); (try clear hk); (try clear hi)) | (go_at_call 21; (refine (pentaglotlaw33_few.calls k _ _ ([] : List (S85)) a0_0 a0_1 _ _ l0_2 _ _ l0_3 _ _ l0_4 _ _ l0_5 _ _ l0_6 a0_7 a0_8 _ _ l0_9 a0_10 _ _ l0_11 _ _ l0_12 a0_13 a0_14 a0_15 a0_16 a0_17 a0_18 a0_19 _ _ l0_20 _ _ l0_21 _ _ l0_22 _ _ l0_23 _ _ l0_24 a0_25 _ _ l0_26 _ _ l0_27 _ _ l0_28 a0_29 t391 _ ?s1 ?s2 ?s3 ?s4 ?s5 ?s6 ?s7 ?s8 ?s9 ?s10 ?s11 ?s12 ?s13 ?s14 ?s15 ?s16 ?s17 ?s18 ?s19 ?s20 ?s21 ?s22 ?s23 ?s24 ?s25 ?s26 ?s27 ?s28 ?s29 ?s30 ?s31 ?s32 ?s33 ?s34 A7.out).mono ?_); (case s1 => exact Kd.C_nil _ _); (case s2 => exact Nat.le_refl _); (case s3 => exact tC HR0_2 HB); (case s4 => exact HC0_2.out); (case s5 => exact tC HR0_3 HB); (case s6 => exact HC0_3.out); (case s7 => exact tC HR0_4 HB); (case s8 => exact HC0_4.out); (case s9 => exact tC HR0_5 HB); (case s10 => exact HC0_5.out); (case s11 => exact tC HR0_6 HB); (case s12 => exact HC0_6.out); (case s13 => exact tC HR0_9 HB); (case s14 => exact HC0_9.out); (case s15 => exact tC HR0_11 HB); (case s16 => exact HC0_11.out); (case s17 => exact tC HR0_12 HB); (case s18 => exact HC0_12.out); (case s19 => exact tC HR0_20 HB); (case s20 => exact HC0_20.out); (case s21 => exact tC HR0_21 HB); (case s22 => exact HC0_21.out); (case s23 => exact tC HR0_22 HB); (case s24 => exact HC0_22.out); (case s25 => exact tC HR0_23 HB); (case s26 => exact HC0_23.out); (case s27 => exact tC HR0_24 HB); (case s28 => exact HC0_24.out); (case s29 => exact tC HR0_26 HB); (case s30 => exact HC0_26.out); (case s31 => exact tC HR0_27 HB); (case s32 => exact HC0_27.out); (case s33 => exact tC HR0_28 HB); (case s34 => exact HC0_28.out); rintro e w10 ⟨rfl, hb⟩; have n0_ := Aside0.mk (blk_below (tK BK389) hb); have n1_ := Aside0.mk (below_step (tB HB) hb); revert n0_ n1_; clear BK389 HB; intro BK389 HB; (try clear hb); (try clear hb2); (try clear hk); (try clear hi)))
   go_meet
   case rel => exact ⟨_, (!t391), tV1, H', ⟨tU⟩, ⟨tK BK389⟩, ⟨tB HB⟩⟩
  ·
   replace c6 := Bool.eq_false_iff.mpr c6
   subst c6
   rw [if_neg (show ¬ (false = true) by decide)] at H
   have H' := Aside0.mk H
   clear H
   go_wp2_with (first | ((with_reducible refine gate_load (t := 60) (p := 2) rfl ?_); (try (refine gate_guard (by rfl) ?_; dsimp only)); refine wpList_load_row rfl 60 (.tmp 2) rfl gb389 rfl 60 _ (0, 0) _ (tK BK389) Try.underlying60 rfl (by kernel_rfl) ?_) | ((with_reducible refine gate_callee (f := 12) rfl ?_); refine goesL_ (some 12) rfl rfl Try.func12 (by kernel_rfl) rfl #[] rfl (by (try simp only [List.map_toArray, List.map_cons, List.map_nil]); first | done | rfl | (simp only [List.length_drop, List.length_take]; rfl)) ?_; (with_reducible refine (pentaglotlaw33_awake.calls  false _ A5.out).mono ?_); rintro e w11 ⟨rfl, hb⟩; refine ⟨_, rfl, ?_⟩; have n0_ := Aside0.mk (blk_below (tK BK389) hb); have n1_ := Aside0.mk (below_step (tB HB) hb); revert n0_ n1_; clear BK389 HB; intro BK389 HB; (try clear hb); (try clear hb2); (try clear hk); (try clear hi)))
   go_meet
   case rel => exact ⟨_, (true), tV1, H', ⟨tU⟩, ⟨tK BK389⟩, ⟨tB HB⟩⟩
 case rest =>
  clear HC3
  obtain ⟨kq, x18_2, rfl, HA, HJ2, BK389, HB⟩ := hcut
  cases kq with
  | zero => exact absurd HA.out (by simp [pentaglotlaw33_ConcreteFind.j0])
  | succ kj2 =>
   have H := HA.out
   clear HA
   simp only [pentaglotlaw33_ConcreteFind.j0] at H
   by_cases c12 : x18_2 = true
   ·
    subst c12
    rw [if_pos rfl] at H
    replace H := Option.bind_eq_some_iff.mp H
    obtain ⟨t392, A130, H⟩ := H
    (try dsimp only at H)
    have A13 := Aside0.mk A130
    clear A130
    obtain rfl := Option.some.inj H
    go_wp2_with (first | ((with_reducible refine gate_load (t := 60) (p := 2) rfl ?_); (try (refine gate_guard (by rfl) ?_; dsimp only)); refine wpList_load_row rfl 60 (.tmp 2) rfl gb389 rfl 60 _ (0, 0) _ (tK BK389) Try.underlying60 rfl (by kernel_rfl) ?_) | ((with_reducible refine gate_callee (f := 12) rfl ?_); refine goesL_ (some 19) rfl rfl Try.func12 (by kernel_rfl) rfl #[] rfl (by (try simp only [List.map_toArray, List.map_cons, List.map_nil]); first | done | rfl | (simp only [List.length_drop, List.length_take]; rfl)) ?_; (with_reducible refine (pentaglotlaw33_awake.calls  t392 _ A13.out).mono ?_); rintro e w14 ⟨rfl, hb⟩; refine ⟨_, rfl, ?_⟩; have n0_ := Aside0.mk (blk_below (tK BK389) hb); have n1_ := Aside0.mk (below_step (tB HB) hb); revert n0_ n1_; clear BK389 HB; intro BK389 HB; (try clear hb); (try clear hb2); (try clear hk); (try clear hi)))
    go_ret
    exact ⟨tE, by repeat (first | (with_reducible first | exact HB.out | apply below_alloc | apply pw_below_drewN | apply below_drew1 | refine below_set ?_ GE389.out) | exact HB.out)⟩
   ·
    replace c12 := Bool.eq_false_iff.mpr c12
    subst c12
    rw [if_neg (show ¬ (false = true) by decide)] at H
    replace H := Option.bind_eq_some_iff.mp H
    obtain ⟨⟨t393, t394, t397, t400⟩, A150, H⟩ := H
    (try dsimp only at H)
    have A15 := Aside0.mk A150
    clear A150
    replace H := Option.bind_eq_some_iff.mp H
    obtain ⟨⟨t402, t403, t406, t409⟩, A160, H⟩ := H
    (try dsimp only at H)
    have A16 := Aside0.mk A160
    clear A160
    replace H := Option.bind_eq_some_iff.mp H
    obtain ⟨t411, A170, H⟩ := H
    (try dsimp only at H)
    have A17 := Aside0.mk A170
    clear A170
    replace H := Option.bind_eq_some_iff.mp H
    obtain ⟨t414, A180, H⟩ := H
    (try dsimp only at H)
    have A18 := Aside0.mk A180
    clear A180
    have HC19 := Aside0.mk H
    clear H
    try go_wp2_with (first | ((with_reducible refine gate_load (t := 60) (p := 2) rfl ?_); (try (refine gate_guard (by rfl) ?_; dsimp only)); refine wpList_load_row rfl 60 (.tmp 2) rfl gb389 rfl 60 _ (0, 0) _ (tK BK389) Try.underlying60 rfl (by kernel_rfl) ?_) | ((with_reducible refine gate_callee (f := 25) rfl ?_); refine goesL_ (some 23) rfl rfl Try.func25 (by kernel_rfl) rfl #[.agg #[.string a0_0, .bool a0_1, .slice A0_2 l0_2.length c0_2, .slice A0_3 l0_3.length c0_3, .slice A0_4 l0_4.length c0_4, .slice A0_5 l0_5.length c0_5, .slice A0_6 l0_6.length c0_6, .int .i64 a0_7, .int .i64 a0_8, .slice A0_9 l0_9.length c0_9, .int .i64 a0_10, .slice A0_11 l0_11.length c0_11, .slice A0_12 l0_12.length c0_12, .bool a0_13, .string a0_14, .int .i64 a0_15, .string a0_16, .bool a0_17, .int .i64 a0_18, .int .i64 a0_19, .slice A0_20 l0_20.length c0_20, .slice A0_21 l0_21.length c0_21, .slice A0_22 l0_22.length c0_22, .slice A0_23 l0_23.length c0_23, .slice A0_24 l0_24.length c0_24, .bool a0_25, .slice A0_26 l0_26.length c0_26, .slice A0_27 l0_27.length c0_27, .slice A0_28 l0_28.length c0_28, .string a0_29], .string a1] rfl (by (try simp only [List.map_toArray, List.map_cons, List.map_nil]); first | done | rfl | (simp only [List.length_drop, List.length_take]; rfl)) ?_; (with_reducible refine (concrete_Find.calls kj2 a0_0 a0_1 _ _ l0_2 _ _ l0_3 _ _ l0_4 _ _ l0_5 _ _ l0_6 a0_7 a0_8 _ _ l0_9 a0_10 _ _ l0_11 _ _ l0_12 a0_13 a0_14 a0_15 a0_16 a0_17 a0_18 a0_19 _ _ l0_20 _ _ l0_21 _ _ l0_22 _ _ l0_23 _ _ l0_24 a0_25 _ _ l0_26 (fun k_ => k_ < w.heap.size) _ _ l0_27 _ _ l0_28 a0_29 a1 t393 t394 t397 t400 _ ?s1 ?s2 ?s3 ?s4 ?s5 ?s6 ?s7 ?s8 ?s9 ?s10 ?s11 ?s12 ?s13 ?s14 ?s15 ?s16 ?s17 ?s18 ?s19 ?s20 ?s21 ?s22 ?s23 ?s24 ?s25 ?s26 ?s27 ?s28 ?s29 ?s30 ?s31 A15.out).mono ?_); (case s1 => exact tC HR0_2 HB); (case s2 => exact HC0_2.out); (case s3 => exact tC HR0_3 HB); (case s4 => exact HC0_3.out); (case s5 => exact tC HR0_4 HB); (case s6 => exact HC0_4.out); (case s7 => exact tC HR0_5 HB); (case s8 => exact HC0_5.out); (case s9 => exact tC HR0_6 HB); (case s10 => exact HC0_6.out); (case s11 => exact tC HR0_9 HB); (case s12 => exact HC0_9.out); (case s13 => exact tC HR0_11 HB); (case s14 => exact HC0_11.out); (case s15 => exact tC HR0_12 HB); (case s16 => exact HC0_12.out); (case s17 => exact tC HR0_20 HB); (case s18 => exact HC0_20.out); (case s19 => exact tC HR0_21 HB); (case s20 => exact HC0_21.out); (case s21 => exact tC HR0_22 HB); (case s22 => exact HC0_22.out); (case s23 => exact tC HR0_23 HB); (case s24 => exact HC0_23.out); (case s25 => exact tC HR0_24 HB); (case s26 => exact HC0_24.out); (case s27 => exact tC HR0_26 HB); (case s28 => exact HC0_26.out); (case s29 => exact Kd.V_mk HC0_27.out (Kd.F_below (Kd.C_F k68_heap HR0_27.out) (tB HB))); (case s30 => exact tC HR0_28 HB); (case s31 => exact HC0_28.out); rintro e w21 ⟨v395, v398, rfl, ho0, ho1, hb⟩; refine ⟨_, rfl, ?_⟩; have n0_ := Aside0.mk (Kd.N_lower (Kd.N_mono (ok' := fun k_ => k_ ≠ gb389) ho0 (fun k_ hk_ => Or.elim hk_ (fun hs_ => fun e_ => Nat.not_le.2 hs_ (by rw [e_]; exact GW389.out)) (fun hn_ => (Kd.freshB (tK BK389) k_ hn_)))) (tS HB)); have n1_ := Aside0.mk (Kd.V_lower (Kd.V_mono (ok' := fun k_ => some k_ ≠ (v395 : Value).ownBlock ∧ k_ ≠ gb389) ho1 (fun k_ hk_ => ⟨hk_.2, Or.elim hk_.1 (fun hs_ => fun e_ => Nat.not_le.2 hs_ (by rw [e_]; exact GW389.out)) (fun hn_ => (Kd.freshB (tK BK389) k_ hn_))⟩)) (tS HB)); have n2_ := Aside0.mk (blk_below (tK BK389) hb); have n3_ := Aside0.mk (below_step (tB HB) hb); revert n0_ n1_ n2_ n3_; clear BK389 HB; intro HO396 HO399 BK389 HB; (try clear hb); (try clear hb2); (try clear hk); (try clear hi); (try clear ho0); (try clear ho1)) | ((with_reducible refine gate_dst (N := 5) rfl ?_); (try (refine gate_guard (by rfl) ?_; dsimp only)); refine box_event ?hg (N := 5) ?hd (cs := #[.string (⟨#[]⟩ : ByteArray), .slice none 0 0, .slice none 0 0]) (t := 68) ?hr ?_; (case hd => rfl); (case hg => rfl); (case hr => first | (go_simp; done) | (go_simp; rfl)); intro gb401 hg w22 hbox hb; have n0_ := Aside0.mk (Kd.N_below (Kd.N_elderB (dN HO396) gb401 (Nat.le_of_eq hg.symm)) hb); have n1_ := Aside0.mk (Kd.V_below (Kd.V_elderB (dV HO399) gb401 (Nat.le_of_eq hg.symm)) hb); have n2_ := Aside0.mk (blk_below (tK BK389) hb); have n3_ := Aside0.mk (below_step (tB HB) hb); have n4_ := Aside0.mk (hbox); have n5_ := tZ hg (tS HB); have n6_ := tZ hg (tS HB); have n7_ := tL hg (tK BK389); have n8_ := tG hg (tK BK389); revert n0_ n1_ n2_ n3_ n4_ n5_ n6_ n7_ n8_; clear HO396 HO399 BK389 HB; intro HO396 HO399 BK389 HB BK401 GW401 GE401 NB389_401 NB401_389; clear hb hbox hg; have hnb23 := NB401_389.out; have hnc23 := NB389_401.out; have hcz24_0 := cel2 BK401 0 rfl; have hcz24_1 := cel2 BK401 1 rfl; have hcz24_2 := cel2 BK401 2 rfl; have hfz24_0 := blk_frozen BK401.out 0; have hfz24_1 := blk_frozen BK401.out 1; have hfz24_2 := blk_frozen BK401.out 2; obtain ⟨Ao25, co25, eo25⟩ := Kd.N_slice HO396.out; subst eo25; obtain ⟨Ao26, co26, eo26⟩ := Kd.V_slice HO399.out; subst eo26) | ((with_reducible refine gate_store (t := 68) (p := 5) rfl ?_); refine store_event (t := 68) (p := 5) (v := ?vo_w27) (w1 := (((w22.setCell ⟨gb401, 0, none⟩ (.string t393)).setCell ⟨gb401, 1, none⟩ (.slice Ao25 t394.length co25)).setCell ⟨gb401, 2, none⟩ (.slice Ao26 t397.length co26))) ?hg ?ho ?hn ?hr ?_; (case ho => rfl); (case hg => rfl); (case hn => rfl); (case hr => first | (go_simp; done) | (go_simp; rfl)); intro w27 hw; have n0_ : Aside0 (Kd.N k90 90 w27 w.heap.size (fun k_ => k_ ≠ gb389 ∧ k_ ≠ gb401) (.slice Ao25 t394.length co25) t394) := ⟨(by rw [hw]; exact (dN HO396))⟩; have n1_ : Aside0 (Kd.V Kd.string 9 w27 w.heap.size (fun k_ => some k_ ≠ (.slice Ao25 t394.length co25 : Value).ownBlock ∧ k_ ≠ gb389 ∧ k_ ≠ gb401) (.slice Ao26 t397.length co26) t397) := ⟨(by rw [hw]; exact (dV HO399))⟩; have n2_ : Aside0 (w27.heap[gb389]? = some (.cells #[.string a0_0, .bool a0_1, .slice A0_2 l0_2.length c0_2, .slice A0_3 l0_3.length c0_3, .slice A0_4 l0_4.length c0_4, .slice A0_5 l0_5.length c0_5, .slice A0_6 l0_6.length c0_6, .int .i64 a0_7, .int .i64 a0_8, .slice A0_9 l0_9.length c0_9, .int .i64 a0_10, .slice A0_11 l0_11.length c0_11, .slice A0_12 l0_12.length c0_12, .bool a0_13, .string a0_14, .int .i64 a0_15, .string a0_16, .bool a0_17, .int .i64 a0_18, .int .i64 a0_19, .slice A0_20 l0_20.length c0_20, .slice A0_21 l0_21.length c0_21, .slice A0_22 l0_22.length c0_22, .slice A0_23 l0_23.length c0_23, .slice A0_24 l0_24.length c0_24, .bool a0_25, .slice A0_26 l0_26.length c0_26, .slice A0_27 l0_27.length c0_27, .slice A0_28 l0_28.length c0_28, .string a0_29] 60 (0, 0))) := ⟨(by rw [hw]; exact (tK BK389))⟩; have n3_ : Aside0 (w27.heap[gb401]? = some (.cells #[.string t393, .slice Ao25 t394.length co25, .slice Ao26 t397.length co26] 68 (0, 0))) := ⟨(by rw [hw]; exact (tKp BK401))⟩; have n4_ : Aside0 (Below w.heap.size w w27) := ⟨(by rw [hw]; exact (tB HB))⟩; revert n0_ n1_ n2_ n3_ n4_; clear hw HO396 HO399 BK389 BK401 HB; intro HO396 HO399 BK389 BK401 HB) | ((with_reducible refine gate_callee (f := 26) rfl ?_); refine goesL_ (some 29) rfl rfl Try.func26 (by kernel_rfl) rfl #[.agg #[.string a0_0, .bool a0_1, .slice A0_2 l0_2.length c0_2, .slice A0_3 l0_3.length c0_3, .slice A0_4 l0_4.length c0_4, .slice A0_5 l0_5.length c0_5, .slice A0_6 l0_6.length c0_6, .int .i64 a0_7, .int .i64 a0_8, .slice A0_9 l0_9.length c0_9, .int .i64 a0_10, .slice A0_11 l0_11.length c0_11, .slice A0_12 l0_12.length c0_12, .bool a0_13, .string a0_14, .int .i64 a0_15, .string a0_16, .bool a0_17, .int .i64 a0_18, .int .i64 a0_19, .slice A0_20 l0_20.length c0_20, .slice A0_21 l0_21.length c0_21, .slice A0_22 l0_22.length c0_22, .slice A0_23 l0_23.length c0_23, .slice A0_24 l0_24.length c0_24, .bool a0_25, .slice A0_26 l0_26.length c0_26, .slice A0_27 l0_27.length c0_27, .slice A0_28 l0_28.length c0_28, .string a0_29], .string a1] rfl (by (try simp only [List.map_toArray, List.map_cons, List.map_nil]); first | done | rfl | (simp only [List.length_drop, List.length_take]; rfl)) ?_; (with_reducible refine (pentaglotref33_Find.calls kj2 a0_0 a0_1 _ _ l0_2 _ _ l0_3 _ _ l0_4 _ _ l0_5 _ _ l0_6 a0_7 a0_8 _ _ l0_9 a0_10 _ _ l0_11 _ _ l0_12 a0_13 a0_14 a0_15 a0_16 a0_17 a0_18 a0_19 _ _ l0_20 _ _ l0_21 _ _ l0_22 _ _ l0_23 _ _ l0_24 a0_25 _ _ l0_26 (fun k_ => k_ < w.heap.size) _ _ l0_27 _ _ l0_28 a0_29 a1 t402 t403 t406 t409 _ ?s1 ?s2 ?s3 ?s4 ?s5 ?s6 ?s7 ?s8 ?s9 ?s10 ?s11 ?s12 ?s13 ?s14 ?s15 ?s16 ?s17 ?s18 ?s19 ?s20 ?s21 ?s22 ?s23 ?s24 ?s25 ?s26 ?s27 ?s28 ?s29 ?s30 ?s31 A16.out).mono ?_); (case s1 => exact tC HR0_2 HB); (case s2 => exact HC0_2.out); (case s3 => exact tC HR0_3 HB); (case s4 => exact HC0_3.out); (case s5 => exact tC HR0_4 HB); (case s6 => exact HC0_4.out); (case s7 => exact tC HR0_5 HB); (case s8 => exact HC0_5.out); (case s9 => exact tC HR0_6 HB); (case s10 => exact HC0_6.out); (case s11 => exact tC HR0_9 HB); (case s12 => exact HC0_9.out); (case s13 => exact tC HR0_11 HB); (case s14 => exact HC0_11.out); (case s15 => exact tC HR0_12 HB); (case s16 => exact HC0_12.out); (case s17 => exact tC HR0_20 HB); (case s18 => exact HC0_20.out); (case s19 => exact tC HR0_21 HB); (case s20 => exact HC0_21.out); (case s21 => exact tC HR0_22 HB); (case s22 => exact HC0_22.out); (case s23 => exact tC HR0_23 HB); (case s24 => exact HC0_23.out); (case s25 => exact tC HR0_24 HB); (case s26 => exact HC0_24.out); (case s27 => exact tC HR0_26 HB); (case s28 => exact HC0_26.out); (case s29 => exact Kd.V_mk HC0_27.out (Kd.F_below (Kd.C_F k68_heap HR0_27.out) (tB HB))); (case s30 => exact tC HR0_28 HB); (case s31 => exact HC0_28.out); rintro e w29 ⟨v404, v407, rfl, ho0, ho1, hb⟩; refine ⟨_, rfl, ?_⟩; have n0_ := Aside0.mk (Kd.N_below (dN HO396) hb); have n1_ := Aside0.mk (Kd.V_below (dV HO399) hb); have n2_ := Aside0.mk (Kd.V_lower (Kd.V_mono (ok' := fun k_ => some k_ ≠ (.slice Ao25 t394.length co25 : Value).ownBlock ∧ k_ ≠ gb389 ∧ k_ ≠ gb401) ho0 (fun k_ hk_ => ⟨Or.elim hk_ (fun hs_ => fun e_ => Nat.not_le.2 hs_ (Kd.N_base HO396.out k_ e_.symm)) (fun hn_ => (Kd.fresh' (Kd.N_lt (dN HO396)) k_ hn_)), Or.elim hk_ (fun hs_ => fun e_ => Nat.not_le.2 hs_ (by rw [e_]; exact GW389.out)) (fun hn_ => (Kd.freshB (tK BK389) k_ hn_)), Or.elim hk_ (fun hs_ => fun e_ => Nat.not_le.2 hs_ (by rw [e_]; exact GW401.out)) (fun hn_ => (Kd.freshB (tK BK401) k_ hn_))⟩)) (tS HB)); have n3_ := Aside0.mk (Kd.V_lower (Kd.V_mono (ok' := fun k_ => some k_ ≠ (.slice Ao25 t394.length co25 : Value).ownBlock ∧ k_ ≠ gb389 ∧ k_ ≠ gb401) ho1 (fun k_ hk_ => ⟨Or.elim hk_ (fun hs_ => fun e_ => Nat.not_le.2 hs_ (Kd.N_base HO396.out k_ e_.symm)) (fun hn_ => (Kd.fresh' (Kd.N_lt (dN HO396)) k_ hn_)), Or.elim hk_ (fun hs_ => fun e_ => Nat.not_le.2 hs_ (by rw [e_]; exact GW389.out)) (fun hn_ => (Kd.freshB (tK BK389) k_ hn_)), Or.elim hk_ (fun hs_ => fun e_ => Nat.not_le.2 hs_ (by rw [e_]; exact GW401.out)) (fun hn_ => (Kd.freshB (tK BK401) k_ hn_))⟩)) (tS HB)); have n4_ := Aside0.mk (blk_below (tK BK389) hb); have n5_ := Aside0.mk (blk_below (tK BK401) hb); have n6_ := Aside0.mk (below_step (tB HB) hb); revert n0_ n1_ n2_ n3_ n4_ n5_ n6_; clear HO396 HO399 BK389 BK401 HB; intro HO396 HO399 HO405 HO408 BK389 BK401 HB; (try clear hb); (try clear hb2); (try clear hk); (try clear hi); (try clear ho0); (try clear ho1)) | ((with_reducible refine gate_dst (N := 7) rfl ?_); (try (refine gate_guard (by rfl) ?_; dsimp only)); refine box_event ?hg (N := 7) ?hd (cs := #[.string (⟨#[]⟩ : ByteArray), .slice none 0 0, .slice none 0 0]) (t := 68) ?hr ?_; (case hd => rfl); (case hg => rfl); (case hr => first | (go_simp; done) | (go_simp; rfl)); intro gb410 hg w30 hbox hb; have n0_ := Aside0.mk (Kd.N_below (Kd.N_elderB (dN HO396) gb410 (Nat.le_of_eq hg.symm)) hb); have n1_ := Aside0.mk (Kd.V_below (Kd.V_elderB (dV HO399) gb410 (Nat.le_of_eq hg.symm)) hb); have n2_ := Aside0.mk (Kd.V_below (Kd.V_elderB (dV HO405) gb410 (Nat.le_of_eq hg.symm)) hb); have n3_ := Aside0.mk (Kd.V_below (Kd.V_elderB (dV HO408) gb410 (Nat.le_of_eq hg.symm)) hb); have n4_ := Aside0.mk (blk_below (tK BK389) hb); have n5_ := Aside0.mk (blk_below (tK BK401) hb); have n6_ := Aside0.mk (below_step (tB HB) hb); have n7_ := Aside0.mk (hbox); have n8_ := tZ hg (tS HB); have n9_ := tZ hg (tS HB); have n10_ := tL hg (tK BK389); have n11_ := tG hg (tK BK389); have n12_ := tL hg (tK BK401); have n13_ := tG hg (tK BK401); revert n0_ n1_ n2_ n3_ n4_ n5_ n6_ n7_ n8_ n9_ n10_ n11_ n12_ n13_; clear HO396 HO399 HO405 HO408 BK389 BK401 HB; intro HO396 HO399 HO405 HO408 BK389 BK401 HB BK410 GW410 GE410 NB389_410 NB410_389 NB401_410 NB410_401; clear hb hbox hg; have hnb31 := NB410_389.out; have hnc31 := NB389_410.out; have hnb32 := NB410_401.out; have hnc32 := NB401_410.out; have hcz33_0 := cel2 BK410 0 rfl; have hcz33_1 := cel2 BK410 1 rfl; have hcz33_2 := cel2 BK410 2 rfl; have hfz33_0 := blk_frozen BK410.out 0; have hfz33_1 := blk_frozen BK410.out 1; have hfz33_2 := blk_frozen BK410.out 2; obtain ⟨Ao34, co34, eo34⟩ := Kd.V_slice HO405.out; subst eo34; obtain ⟨Ao35, co35, eo35⟩ := Kd.V_slice HO408.out; subst eo35))
    have n0_ : Aside0 (Kd.N k90 90 (((w30.setCell ⟨gb410, 0, none⟩ (.string t402)).setCell ⟨gb410, 1, none⟩ (.slice Ao34 t403.length co34)).setCell ⟨gb410, 2, none⟩ (.slice Ao35 t406.length co35)) w.heap.size (fun k_ => k_ ≠ gb389 ∧ k_ ≠ gb401 ∧ k_ ≠ gb410) (.slice Ao25 t394.length co25) t394) := ⟨dN HO396⟩
    have n1_ : Aside0 (Kd.V Kd.string 9 (((w30.setCell ⟨gb410, 0, none⟩ (.string t402)).setCell ⟨gb410, 1, none⟩ (.slice Ao34 t403.length co34)).setCell ⟨gb410, 2, none⟩ (.slice Ao35 t406.length co35)) w.heap.size (fun k_ => some k_ ≠ (.slice Ao25 t394.length co25 : Value).ownBlock ∧ k_ ≠ gb389 ∧ k_ ≠ gb401 ∧ k_ ≠ gb410) (.slice Ao26 t397.length co26) t397) := ⟨dV HO399⟩
    have n2_ : Aside0 (Kd.V k90 90 (((w30.setCell ⟨gb410, 0, none⟩ (.string t402)).setCell ⟨gb410, 1, none⟩ (.slice Ao34 t403.length co34)).setCell ⟨gb410, 2, none⟩ (.slice Ao35 t406.length co35)) w.heap.size (fun k_ => some k_ ≠ (.slice Ao25 t394.length co25 : Value).ownBlock ∧ k_ ≠ gb389 ∧ k_ ≠ gb401 ∧ k_ ≠ gb410) (.slice Ao34 t403.length co34) t403) := ⟨dV HO405⟩
    have n3_ : Aside0 (Kd.V Kd.string 9 (((w30.setCell ⟨gb410, 0, none⟩ (.string t402)).setCell ⟨gb410, 1, none⟩ (.slice Ao34 t403.length co34)).setCell ⟨gb410, 2, none⟩ (.slice Ao35 t406.length co35)) w.heap.size (fun k_ => some k_ ≠ (.slice Ao25 t394.length co25 : Value).ownBlock ∧ k_ ≠ gb389 ∧ k_ ≠ gb401 ∧ k_ ≠ gb410) (.slice Ao35 t406.length co35) t406) := ⟨dV HO408⟩
    have n4_ : Aside0 ((((w30.setCell ⟨gb410, 0, none⟩ (.string t402)).setCell ⟨gb410, 1, none⟩ (.slice Ao34 t403.length co34)).setCell ⟨gb410, 2, none⟩ (.slice Ao35 t406.length co35)).heap[gb389]? = some (.cells #[.string a0_0, .bool a0_1, .slice A0_2 l0_2.length c0_2, .slice A0_3 l0_3.length c0_3, .slice A0_4 l0_4.length c0_4, .slice A0_5 l0_5.length c0_5, .slice A0_6 l0_6.length c0_6, .int .i64 a0_7, .int .i64 a0_8, .slice A0_9 l0_9.length c0_9, .int .i64 a0_10, .slice A0_11 l0_11.length c0_11, .slice A0_12 l0_12.length c0_12, .bool a0_13, .string a0_14, .int .i64 a0_15, .string a0_16, .bool a0_17, .int .i64 a0_18, .int .i64 a0_19, .slice A0_20 l0_20.length c0_20, .slice A0_21 l0_21.length c0_21, .slice A0_22 l0_22.length c0_22, .slice A0_23 l0_23.length c0_23, .slice A0_24 l0_24.length c0_24, .bool a0_25, .slice A0_26 l0_26.length c0_26, .slice A0_27 l0_27.length c0_27, .slice A0_28 l0_28.length c0_28, .string a0_29] 60 (0, 0))) := ⟨tK BK389⟩
    have n5_ : Aside0 ((((w30.setCell ⟨gb410, 0, none⟩ (.string t402)).setCell ⟨gb410, 1, none⟩ (.slice Ao34 t403.length co34)).setCell ⟨gb410, 2, none⟩ (.slice Ao35 t406.length co35)).heap[gb401]? = some (.cells #[.string t393, .slice Ao25 t394.length co25, .slice Ao26 t397.length co26] 68 (0, 0))) := ⟨tK BK401⟩
    have n6_ : Aside0 ((((w30.setCell ⟨gb410, 0, none⟩ (.string t402)).setCell ⟨gb410, 1, none⟩ (.slice Ao34 t403.length co34)).setCell ⟨gb410, 2, none⟩ (.slice Ao35 t406.length co35)).heap[gb410]? = some (.cells #[.string t402, .slice Ao34 t403.length co34, .slice Ao35 t406.length co35] 68 (0, 0))) := ⟨tKp BK410⟩
    have n7_ : Aside0 (Below w.heap.size w (((w30.setCell ⟨gb410, 0, none⟩ (.string t402)).setCell ⟨gb410, 1, none⟩ (.slice Ao34 t403.length co34)).setCell ⟨gb410, 2, none⟩ (.slice Ao35 t406.length co35))) := ⟨tB HB⟩
    (try clear HO396); (try clear HO399); (try clear HO405); (try clear HO408); (try clear BK389); (try clear BK401); (try clear BK410); (try clear HB)
    generalize (((w30.setCell ⟨gb410, 0, none⟩ (.string t402)).setCell ⟨gb410, 1, none⟩ (.slice Ao34 t403.length co34)).setCell ⟨gb410, 2, none⟩ (.slice Ao35 t406.length co35)) = w36 at n0_ n1_ n2_ n3_ n4_ n5_ n6_ n7_ ⊢
    have HO396 := n0_
    have HO399 := n1_
    have HO405 := n2_
    have HO408 := n3_
    have BK389 := n4_
    have BK401 := n5_
    have BK410 := n6_
    have HB := n7_
    clear n0_ n1_ n2_ n3_ n4_ n5_ n6_ n7_
    have n0_ := Aside0.mk (Kd.N_drew HO396.out)
    have n1_ := Aside0.mk (Kd.V_drew HO399.out)
    have n2_ := Aside0.mk (Kd.V_drew HO405.out)
    have n3_ := Aside0.mk (Kd.V_drew HO408.out)
    have n4_ := Aside0.mk (blk_drew BK389.out)
    have n5_ := Aside0.mk (blk_drew BK401.out)
    have n6_ := Aside0.mk (blk_drew BK410.out)
    have n7_ := Aside0.mk (below_drew1 HB.out)
    revert n0_ n1_ n2_ n3_ n4_ n5_ n6_ n7_
    clear HO396 HO399 HO405 HO408 BK389 BK401 BK410 HB
    intro HO396 HO399 HO405 HO408 BK389 BK401 BK410 HB
    refine start_ (n := 8) (S := fun w' => w'.heap[gb389]? = some (.cells #[.string a0_0, .bool a0_1, .slice A0_2 l0_2.length c0_2, .slice A0_3 l0_3.length c0_3, .slice A0_4 l0_4.length c0_4, .slice A0_5 l0_5.length c0_5, .slice A0_6 l0_6.length c0_6, .int .i64 a0_7, .int .i64 a0_8, .slice A0_9 l0_9.length c0_9, .int .i64 a0_10, .slice A0_11 l0_11.length c0_11, .slice A0_12 l0_12.length c0_12, .bool a0_13, .string a0_14, .int .i64 a0_15, .string a0_16, .bool a0_17, .int .i64 a0_18, .int .i64 a0_19, .slice A0_20 l0_20.length c0_20, .slice A0_21 l0_21.length c0_21, .slice A0_22 l0_22.length c0_22, .slice A0_23 l0_23.length c0_23, .slice A0_24 l0_24.length c0_24, .bool a0_25, .slice A0_26 l0_26.length c0_26, .slice A0_27 l0_27.length c0_27, .slice A0_28 l0_28.length c0_28, .string a0_29] 60 (0, 0))) (ds := []) #[false, false, false, false, false, false, false, false] (by kernel_rfl) rfl rfl BK389.out (fun hHeld => ?_); refine with_tabW pentaglotlaw33_ConcreteFind.tab5 pentaglotlaw33_ConcreteFind.bits5 (fun HT_ HW_ => ?_)
    generalize w36.drew = w37 at HO396 HO399 HO405 HO408 BK389 BK401 BK410 HB hHeld ⊢
    refine pure_ (i := 1) (N := some 33) (v := ?_) (a' := ?_) #[false, true, false, false, false, false, false, false] rfl rfl (any_of HT_.out (by kernel_rfl)) (fun _ _ _ h => h) (Or.inl ⟨by rfl, ?_⟩) ?_ ?_
    rotate_left
    ·
     intro w'
     go_simp
     with_reducible rfl
    rotate_left
    ·
     simp only [Act.put, List.setIfInBounds_toArray, List.set_cons_zero, List.set_cons_succ, i64_w, i32_w]
     rfl
    refine pure_ (i := 4) (N := some 36) (v := ?_) (a' := ?_) #[false, true, false, false, true, false, false, false] rfl rfl (any_of HT_.out (by kernel_rfl)) (fun _ _ _ h => h) (Or.inl ⟨by rfl, ?_⟩) ?_ ?_
    rotate_left
    ·
     intro w'
     go_simp
     with_reducible rfl
    rotate_left
    ·
     simp only [Act.put, List.setIfInBounds_toArray, List.set_cons_zero, List.set_cons_succ, i64_w, i32_w]
     rfl
    refine take_ (i := 0) (N := some 32) (v := ?_) (a' := ?_) #[true, true, false, false, true, false, false, false] rfl rfl (take_ofW HT_.out HW_.out (by kernel_rfl)) (fun _ _ _ h => h) (Or.inl ⟨by rfl, ?_⟩) hHeld ?_ ?_
    rotate_left
    ·
     intro w' s0
     refine Eq.trans (load_held 60 (.tmp 2) (by rfl) gb389 (by rfl) 60 _ _ s0 Try.underlying60 (by rfl) (by kernel_rfl)) ?_
     with_reducible rfl
    rotate_left
    ·
     simp only [Act.put, List.setIfInBounds_toArray, List.set_cons_zero, List.set_cons_succ, i64_w, i32_w]
     rfl
    refine take_ (i := 3) (N := some 35) (v := ?_) (a' := ?_) #[true, true, false, true, true, false, false, false] rfl rfl (take_ofW HT_.out HW_.out (by kernel_rfl)) (fun _ _ _ h => h) (Or.inl ⟨by rfl, ?_⟩) hHeld ?_ ?_
    rotate_left
    ·
     intro w' s0
     refine Eq.trans (load_held 60 (.tmp 2) (by rfl) gb389 (by rfl) 60 _ _ s0 Try.underlying60 (by rfl) (by kernel_rfl)) ?_
     with_reducible rfl
    rotate_left
    ·
     simp only [Act.put, List.setIfInBounds_toArray, List.set_cons_zero, List.set_cons_succ, i64_w, i32_w]
     rfl
    refine one_ (i := 2) (N := some 34) #[true, true, true, true, true, false, false, false] rfl rfl (one_of HT_.out (by kernel_rfl)) (by decide) (fun K hK => ?_)
    refine goes_ Try.func27 (by kernel_rfl) rfl #[.agg #[.string a0_0, .bool a0_1, .slice A0_2 l0_2.length c0_2, .slice A0_3 l0_3.length c0_3, .slice A0_4 l0_4.length c0_4, .slice A0_5 l0_5.length c0_5, .slice A0_6 l0_6.length c0_6, .int .i64 a0_7, .int .i64 a0_8, .slice A0_9 l0_9.length c0_9, .int .i64 a0_10, .slice A0_11 l0_11.length c0_11, .slice A0_12 l0_12.length c0_12, .bool a0_13, .string a0_14, .int .i64 a0_15, .string a0_16, .bool a0_17, .int .i64 a0_18, .int .i64 a0_19, .slice A0_20 l0_20.length c0_20, .slice A0_21 l0_21.length c0_21, .slice A0_22 l0_22.length c0_22, .slice A0_23 l0_23.length c0_23, .slice A0_24 l0_24.length c0_24, .bool a0_25, .slice A0_26 l0_26.length c0_26, .slice A0_27 l0_27.length c0_27, .slice A0_28 l0_28.length c0_28, .string a0_29], .string a1] (by rfl) rfl rfl (by (try simp only [List.map_toArray, List.map_cons, List.map_nil]); first | done | rfl | (simp only [List.length_drop, List.length_take]; rfl)) ?_
    with_reducible refine (concrete_Rules.calls kj2 a0_0 a0_1 _ _ l0_2 _ _ l0_3 _ _ l0_4 _ _ l0_5 _ _ l0_6 a0_7 a0_8 _ _ l0_9 a0_10 _ _ l0_11 _ _ l0_12 a0_13 a0_14 a0_15 a0_16 a0_17 a0_18 a0_19 _ _ l0_20 _ _ l0_21 _ _ l0_22 _ _ l0_23 _ _ l0_24 a0_25 _ _ l0_26 _ _ l0_27 _ _ l0_28 a0_29 a1 t411 _ ?s1 ?s2 ?s3 ?s4 ?s5 ?s6 ?s7 ?s8 ?s9 ?s10 ?s11 ?s12 ?s13 ?s14 ?s15 ?s16 ?s17 ?s18 ?s19 ?s20 ?s21 ?s22 ?s23 ?s24 ?s25 ?s26 ?s27 ?s28 ?s29 ?s30 ?s31 ?s32 A17.out).mono ?_
    (case s1 => exact tC HR0_2 HB)
    (case s2 => exact HC0_2.out)
    (case s3 => exact tC HR0_3 HB)
    (case s4 => exact HC0_3.out)
    (case s5 => exact tC HR0_4 HB)
    (case s6 => exact HC0_4.out)
    (case s7 => exact tC HR0_5 HB)
    (case s8 => exact HC0_5.out)
    (case s9 => exact tC HR0_6 HB)
    (case s10 => exact HC0_6.out)
    (case s11 => exact tC HR0_9 HB)
    (case s12 => exact HC0_9.out)
    (case s13 => exact tC HR0_11 HB)
    (case s14 => exact HC0_11.out)
    (case s15 => exact tC HR0_12 HB)
    (case s16 => exact HC0_12.out)
    (case s17 => exact tC HR0_20 HB)
    (case s18 => exact HC0_20.out)
    (case s19 => exact tC HR0_21 HB)
    (case s20 => exact HC0_21.out)
    (case s21 => exact tC HR0_22 HB)
    (case s22 => exact HC0_22.out)
    (case s23 => exact tC HR0_23 HB)
    (case s24 => exact HC0_23.out)
    (case s25 => exact tC HR0_24 HB)
    (case s26 => exact HC0_24.out)
    (case s27 => exact tC HR0_26 HB)
    (case s28 => exact HC0_26.out)
    (case s29 => exact tC HR0_27 HB)
    (case s30 => exact HC0_27.out)
    (case s31 => exact tC HR0_28 HB)
    (case s32 => exact HC0_28.out)
    rintro e w38 ⟨v412, rfl, ho0, hb⟩
    refine ⟨_, rfl, ?_⟩
    have n0_ := Aside0.mk (Kd.N_elder' (dN HO396) (Kd.N_base ho0) hb)
    have n1_ := Aside0.mk (Kd.V_elder' (dV HO399) (Kd.N_base ho0) hb)
    have n2_ := Aside0.mk (Kd.V_elder' (dV HO405) (Kd.N_base ho0) hb)
    have n3_ := Aside0.mk (Kd.V_elder' (dV HO408) (Kd.N_base ho0) hb)
    have n4_ := Aside0.mk (Kd.N_lower (Kd.N_mono (ok' := fun k_ => some k_ ≠ (.slice Ao25 t394.length co25 : Value).ownBlock ∧ k_ ≠ gb389 ∧ k_ ≠ gb401 ∧ k_ ≠ gb410) ho0 (fun k_ hk_ => ⟨(Kd.fresh' (Kd.N_lt (dN HO396)) k_ hk_), (Kd.freshB (tK BK389) k_ hk_), (Kd.freshB (tK BK401) k_ hk_), (Kd.freshB (tK BK410) k_ hk_)⟩)) (tS HB))
    have n5_ := Aside0.mk (blk_below (tK BK389) hb)
    have n6_ := Aside0.mk (blk_below (tK BK401) hb)
    have n7_ := Aside0.mk (blk_below (tK BK410) hb)
    have n8_ := Aside0.mk (below_step (tB HB) hb)
    revert n0_ n1_ n2_ n3_ n4_ n5_ n6_ n7_ n8_
    clear HO396 HO399 HO405 HO408 BK389 BK401 BK410 HB
    intro HO396 HO399 HO405 HO408 HO413 BK389 BK401 BK410 HB
    (try clear hb); (try clear ho0)
    refine hK.out _ _ BK389.out (fun hHeld => ?_)
    clear hK K
    refine norm_ (a' := ?_) ?_ ?_
    rotate_left
    ·
     show Act.put _ (some 34) _ = _
     simp only [Act.put, List.setIfInBounds_toArray, List.set_cons_zero, List.set_cons_succ, i64_w, i32_w]
     rfl
    refine one_ (i := 5) (N := some 37) #[true, true, true, true, true, true, false, false] rfl rfl (one_of HT_.out (by kernel_rfl)) (by decide) (fun K hK => ?_)
    refine goes_ Try.func28 (by kernel_rfl) rfl #[.agg #[.string a0_0, .bool a0_1, .slice A0_2 l0_2.length c0_2, .slice A0_3 l0_3.length c0_3, .slice A0_4 l0_4.length c0_4, .slice A0_5 l0_5.length c0_5, .slice A0_6 l0_6.length c0_6, .int .i64 a0_7, .int .i64 a0_8, .slice A0_9 l0_9.length c0_9, .int .i64 a0_10, .slice A0_11 l0_11.length c0_11, .slice A0_12 l0_12.length c0_12, .bool a0_13, .string a0_14, .int .i64 a0_15, .string a0_16, .bool a0_17, .int .i64 a0_18, .int .i64 a0_19, .slice A0_20 l0_20.length c0_20, .slice A0_21 l0_21.length c0_21, .slice A0_22 l0_22.length c0_22, .slice A0_23 l0_23.length c0_23, .slice A0_24 l0_24.length c0_24, .bool a0_25, .slice A0_26 l0_26.length c0_26, .slice A0_27 l0_27.length c0_27, .slice A0_28 l0_28.length c0_28, .string a0_29], .string a1] (by rfl) rfl rfl (by (try simp only [List.map_toArray, List.map_cons, List.map_nil]); first | done | rfl | (simp only [List.length_drop, List.length_take]; rfl)) ?_
    with_reducible refine (pentaglotref33_Rules.calls kj2 a0_0 a0_1 _ _ l0_2 _ _ l0_3 _ _ l0_4 _ _ l0_5 _ _ l0_6 a0_7 a0_8 _ _ l0_9 a0_10 _ _ l0_11 _ _ l0_12 a0_13 a0_14 a0_15 a0_16 a0_17 a0_18 a0_19 _ _ l0_20 _ _ l0_21 _ _ l0_22 _ _ l0_23 _ _ l0_24 a0_25 _ _ l0_26 _ _ l0_27 (fun k_ => k_ < w.heap.size) _ _ l0_28 a0_29 a1 t414 _ ?s1 ?s2 ?s3 ?s4 ?s5 ?s6 ?s7 ?s8 ?s9 ?s10 ?s11 ?s12 ?s13 ?s14 ?s15 ?s16 ?s17 ?s18 ?s19 ?s20 ?s21 ?s22 ?s23 ?s24 ?s25 ?s26 ?s27 ?s28 ?s29 ?s30 ?s31 A18.out).mono ?_
    (case s1 => exact tC HR0_2 HB)
    (case s2 => exact HC0_2.out)
    (case s3 => exact tC HR0_3 HB)
    (case s4 => exact HC0_3.out)
    (case s5 => exact tC HR0_4 HB)
    (case s6 => exact HC0_4.out)
    (case s7 => exact tC HR0_5 HB)
    (case s8 => exact HC0_5.out)
    (case s9 => exact tC HR0_6 HB)
    (case s10 => exact HC0_6.out)
    (case s11 => exact tC HR0_9 HB)
    (case s12 => exact HC0_9.out)
    (case s13 => exact tC HR0_11 HB)
    (case s14 => exact HC0_11.out)
    (case s15 => exact tC HR0_12 HB)
    (case s16 => exact HC0_12.out)
    (case s17 => exact tC HR0_20 HB)
    (case s18 => exact HC0_20.out)
    (case s19 => exact tC HR0_21 HB)
    (case s20 => exact HC0_21.out)
    (case s21 => exact tC HR0_22 HB)
    (case s22 => exact HC0_22.out)
    (case s23 => exact tC HR0_23 HB)
    (case s24 => exact HC0_23.out)
    (case s25 => exact tC HR0_24 HB)
    (case s26 => exact HC0_24.out)
    (case s27 => exact tC HR0_26 HB)
    (case s28 => exact HC0_26.out)
    (case s29 => exact tC HR0_27 HB)
    (case s30 => exact HC0_27.out)
    (case s31 => exact Kd.V_mk HC0_28.out (Kd.F_below (Kd.C_F k33_heap HR0_28.out) (tB HB)))
    rintro e w39 ⟨v415, rfl, ho0, hb⟩
    refine ⟨_, rfl, ?_⟩
    have n0_ := Aside0.mk (Kd.N_elder' (dN HO396) (Kd.N_base ho0) hb)
    have n1_ := Aside0.mk (Kd.V_elder' (dV HO399) (Kd.N_base ho0) hb)
    have n2_ := Aside0.mk (Kd.V_elder' (dV HO405) (Kd.N_base ho0) hb)
    have n3_ := Aside0.mk (Kd.V_elder' (dV HO408) (Kd.N_base ho0) hb)
    have n4_ := Aside0.mk (Kd.N_elder' (dN HO413) (Kd.N_base ho0) hb)
    have n5_ := Aside0.mk (Kd.N_lower (Kd.N_mono (ok' := fun k_ => some k_ ≠ (.slice Ao25 t394.length co25 : Value).ownBlock ∧ some k_ ≠ (v412 : Value).ownBlock ∧ k_ ≠ gb389 ∧ k_ ≠ gb401 ∧ k_ ≠ gb410) ho0 (fun k_ hk_ => ⟨Or.elim hk_ (fun hs_ => fun e_ => Nat.not_le.2 hs_ (Kd.N_base HO396.out k_ e_.symm)) (fun hn_ => (Kd.fresh' (Kd.N_lt (dN HO396)) k_ hn_)), Or.elim hk_ (fun hs_ => fun e_ => Nat.not_le.2 hs_ (Kd.N_base HO413.out k_ e_.symm)) (fun hn_ => (Kd.fresh' (Kd.N_lt (dN HO413)) k_ hn_)), Or.elim hk_ (fun hs_ => fun e_ => Nat.not_le.2 hs_ (by rw [e_]; exact GW389.out)) (fun hn_ => (Kd.freshB (tK BK389) k_ hn_)), Or.elim hk_ (fun hs_ => fun e_ => Nat.not_le.2 hs_ (by rw [e_]; exact GW401.out)) (fun hn_ => (Kd.freshB (tK BK401) k_ hn_)), Or.elim hk_ (fun hs_ => fun e_ => Nat.not_le.2 hs_ (by rw [e_]; exact GW410.out)) (fun hn_ => (Kd.freshB (tK BK410) k_ hn_))⟩)) (tS HB))
    have n6_ := Aside0.mk (blk_below (tK BK389) hb)
    have n7_ := Aside0.mk (blk_below (tK BK401) hb)
    have n8_ := Aside0.mk (blk_below (tK BK410) hb)
    have n9_ := Aside0.mk (below_step (tB HB) hb)
    revert n0_ n1_ n2_ n3_ n4_ n5_ n6_ n7_ n8_ n9_
    clear HO396 HO399 HO405 HO408 HO413 BK389 BK401 BK410 HB
    intro HO396 HO399 HO405 HO408 HO413 HO416 BK389 BK401 BK410 HB
    (try clear hb); (try clear ho0)
    refine hK.out _ _ BK389.out (fun hHeld => ?_)
    clear hK K
    refine norm_ (a' := ?_) ?_ ?_
    rotate_left
    ·
     show Act.put _ (some 37) _ = _
     simp only [Act.put, List.setIfInBounds_toArray, List.set_cons_zero, List.set_cons_succ, i64_w, i32_w]
     rfl
    refine pure_ (i := 6) (N := some 9) (v := ?_) (a' := ?_) #[true, true, true, true, true, true, true, false] rfl rfl (any_of HT_.out (by kernel_rfl)) (fun _ _ _ h => h) (Or.inl ⟨by rfl, ?_⟩) ?_ ?_
    rotate_left
    ·
     intro w'
     go_simp
     with_reducible rfl
    rotate_left
    ·
     simp only [Act.put, List.setIfInBounds_toArray, List.set_cons_zero, List.set_cons_succ, i64_w, i32_w]
     rfl
    refine pure_ (i := 7) (N := some 10) (v := ?_) (a' := ?_) #[true, true, true, true, true, true, true, true] rfl rfl (any_of HT_.out (by kernel_rfl)) (fun _ _ _ h => h) (Or.inl ⟨by rfl, ?_⟩) ?_ ?_
    rotate_left
    ·
     intro w'
     go_simp
     with_reducible rfl
    rotate_left
    ·
     simp only [Act.put, List.setIfInBounds_toArray, List.set_cons_zero, List.set_cons_succ, i64_w, i32_w]
     rfl
    refine done_ (done_of HT_.out (by kernel_rfl)) ?_
    go_upto_region 6 with (fail)
    go_cut [72] (fun v72 wc => ∃ (kq : Nat) (x72_18 : Bool), v72 = .bool x72_18 ∧ Aside0 (pentaglotlaw33_ConcreteFind.j1 kq t411 t414 x72_18 = some r) ∧ Aside0 (kq ≤ kj2) ∧ Aside0 (Kd.N k33 33 wc w.heap.size (fun k_ => some k_ ≠ (v415 : Value).ownBlock ∧ some k_ ≠ ((.slice Ao25 t394.length co25) : Value).ownBlock ∧ k_ ≠ gb389 ∧ k_ ≠ gb401 ∧ k_ ≠ gb410) v412 t411) ∧ Aside0 (Kd.N k33 33 wc w.heap.size (fun k_ => some k_ ≠ (v412 : Value).ownBlock ∧ some k_ ≠ ((.slice Ao25 t394.length co25) : Value).ownBlock ∧ k_ ≠ gb389 ∧ k_ ≠ gb401 ∧ k_ ≠ gb410) v415 t414) ∧ Aside0 (Kd.N k90 90 wc w.heap.size (fun k_ => some k_ ≠ (v412 : Value).ownBlock ∧ some k_ ≠ (v415 : Value).ownBlock ∧ k_ ≠ gb389 ∧ k_ ≠ gb401 ∧ k_ ≠ gb410) (.slice Ao25 t394.length co25) t394) ∧ Aside0 (Kd.V Kd.string 9 wc w.heap.size (fun k_ => some k_ ≠ (v412 : Value).ownBlock ∧ some k_ ≠ (v415 : Value).ownBlock ∧ some k_ ≠ ((.slice Ao25 t394.length co25) : Value).ownBlock ∧ k_ ≠ gb389 ∧ k_ ≠ gb401 ∧ k_ ≠ gb410) (.slice Ao26 t397.length co26) t397) ∧ Aside0 (Kd.V k90 90 wc w.heap.size (fun k_ => some k_ ≠ (v412 : Value).ownBlock ∧ some k_ ≠ (v415 : Value).ownBlock ∧ some k_ ≠ ((.slice Ao25 t394.length co25) : Value).ownBlock ∧ k_ ≠ gb389 ∧ k_ ≠ gb401 ∧ k_ ≠ gb410) (.slice Ao34 t403.length co34) t403) ∧ Aside0 (Kd.V Kd.string 9 wc w.heap.size (fun k_ => some k_ ≠ (v412 : Value).ownBlock ∧ some k_ ≠ (v415 : Value).ownBlock ∧ some k_ ≠ ((.slice Ao25 t394.length co25) : Value).ownBlock ∧ k_ ≠ gb389 ∧ k_ ≠ gb401 ∧ k_ ≠ gb410) (.slice Ao35 t406.length co35) t406) ∧ Aside0 (wc.heap[gb389]? = some (.cells #[.string a0_0, .bool a0_1, (.slice A0_2 l0_2.length c0_2), (.slice A0_3 l0_3.length c0_3), (.slice A0_4 l0_4.length c0_4), (.slice A0_5 l0_5.length c0_5), (.slice A0_6 l0_6.length c0_6), .int .i64 a0_7, .int .i64 a0_8, (.slice A0_9 l0_9.length c0_9), .int .i64 a0_10, (.slice A0_11 l0_11.length c0_11), (.slice A0_12 l0_12.length c0_12), .bool a0_13, .string a0_14, .int .i64 a0_15, .string a0_16, .bool a0_17, .int .i64 a0_18, .int .i64 a0_19, (.slice A0_20 l0_20.length c0_20), (.slice A0_21 l0_21.length c0_21), (.slice A0_22 l0_22.length c0_22), (.slice A0_23 l0_23.length c0_23), (.slice A0_24 l0_24.length c0_24), .bool a0_25, (.slice A0_26 l0_26.length c0_26), (.slice A0_27 l0_27.length c0_27), (.slice A0_28 l0_28.length c0_28), .string a0_29] 60 (0, 0))) ∧ Aside0 (wc.heap[gb401]? = some (.cells #[.string t393, (.slice Ao25 t394.length co25), (.slice Ao26 t397.length co26)] 68 (0, 0))) ∧ Aside0 (wc.heap[gb410]? = some (.cells #[.string t402, (.slice Ao34 t403.length co34), (.slice Ao35 t406.length co35)] 68 (0, 0))) ∧ Aside0 (Below w.heap.size w wc))
    case first =>
     have H := HC19.out
     clear HC19
     by_cases c40 : (t400 != t409) = true
     ·
      rw [if_pos c40] at H
      have c40b0 : (t400 != t409) = true := c40
      (try (have c40b1 : decide (t400 = t409) = false := by simpa using c40))
      (try (have c40b2 : (t400 == t409) = false := by simpa using c40))
      (try (have c40b3 : ¬ (t400 = t409) := by simpa using c40))
      clear c40
      (first | rw [c40b0] | (simp only [i64_w, i32_w]; rw [c40b0]) | skip)
      have H' := Aside0.mk H
      clear H
      go_wp2
      go_meet
      case rel => exact ⟨_, (true), tV1, H', ⟨by have := HJ2.out; first | omega | exact Nat.le_refl _⟩, ⟨dN HO413⟩, ⟨dN HO416⟩, ⟨dN HO396⟩, ⟨dV HO399⟩, ⟨dV HO405⟩, ⟨dV HO408⟩, ⟨tK BK389⟩, ⟨tK BK401⟩, ⟨tK BK410⟩, ⟨tB HB⟩⟩
     ·
      rw [if_neg c40] at H
      have c40b0 : (t400 != t409) = false := by simpa using c40
      (try (have c40b1 : decide (t400 = t409) = true := by simpa using c40))
      (try (have c40b2 : (t400 == t409) = true := by simpa using c40))
      clear c40
      (first | rw [c40b0] | (simp only [i64_w, i32_w]; rw [c40b0]) | skip)
      by_cases c41 : t393.toList = t402.toList
      ·
       rw [if_pos c41] at H
       have c41b0 := beq_iff_eq.mpr c41
       have c41b1 := bne_eq_false_iff_eq.mpr c41
       clear c41
       by_cases c42 : (t397.length : Int) = (t406.length : Int)
       ·
        rw [if_pos c42] at H
        have c42b0 := beq_iff_eq.mpr c42
        have c42b1 := bne_eq_false_iff_eq.mpr c42
        obtain ⟨_, _, c42b2⟩ := eP2 c42
        clear c42
        by_cases c43 : (t394.length : Int) = (t403.length : Int)
        ·
         rw [if_pos c43] at H
         have c43b0 := beq_iff_eq.mpr c43
         have c43b1 := bne_eq_false_iff_eq.mpr c43
         obtain ⟨_, _, c43b2⟩ := eP2 c43
         clear c43
         have H' := Aside0.mk H
         clear H
         have hnb44 := NB401_389.out
         have hnc44 := NB389_401.out
         have hnb45 := NB401_410.out
         have hnc45 := NB410_401.out
         obtain ⟨hcz46_0, hcz46_1, hcz46_2, hfz46_0, hfz46_1, hfz46_2⟩ := bx3 BK401
         have hnb47 := NB410_389.out
         have hnc47 := NB389_410.out
         obtain ⟨hcz48_0, hcz48_1, hcz48_2, hfz48_0, hfz48_1, hfz48_2⟩ := bx3 BK410
         obtain ⟨Ao49, co49, eo49⟩ := Kd.N_slice HO413.out
         subst eo49
         obtain ⟨Ao50, co50, eo50⟩ := Kd.N_slice HO416.out
         subst eo50
         go_wp2
         go_meet
         case rel => exact ⟨_, (((t411.length : Int) != (t414.length : Int))), tV1, H', ⟨by have := HJ2.out; first | omega | exact Nat.le_refl _⟩, ⟨dN HO413⟩, ⟨dN HO416⟩, ⟨dN HO396⟩, ⟨dV HO399⟩, ⟨dV HO405⟩, ⟨dV HO408⟩, ⟨tK BK389⟩, ⟨tK BK401⟩, ⟨tK BK410⟩, ⟨tB HB⟩⟩
        ·
         rw [if_neg c43] at H
         have c43b0 := beq_eq_false_iff_ne.mpr c43
         have c43b1 := bne_iff_ne.mpr c43
         obtain ⟨_, _, c43b2⟩ := eN2 c43
         have H' := Aside0.mk H
         clear H
         have hnb51 := NB401_389.out
         have hnc51 := NB389_401.out
         have hnb52 := NB401_410.out
         have hnc52 := NB410_401.out
         obtain ⟨hcz53_0, hcz53_1, hcz53_2, hfz53_0, hfz53_1, hfz53_2⟩ := bx3 BK401
         have hnb54 := NB410_389.out
         have hnc54 := NB389_410.out
         obtain ⟨hcz55_0, hcz55_1, hcz55_2, hfz55_0, hfz55_1, hfz55_2⟩ := bx3 BK410
         go_wp2
         go_meet
         case rel => exact ⟨_, (true), tV1, H', ⟨by have := HJ2.out; first | omega | exact Nat.le_refl _⟩, ⟨dN HO413⟩, ⟨dN HO416⟩, ⟨dN HO396⟩, ⟨dV HO399⟩, ⟨dV HO405⟩, ⟨dV HO408⟩, ⟨tK BK389⟩, ⟨tK BK401⟩, ⟨tK BK410⟩, ⟨tB HB⟩⟩
       ·
        rw [if_neg c42] at H
        have c42b0 := beq_eq_false_iff_ne.mpr c42
        have c42b1 := bne_iff_ne.mpr c42
        obtain ⟨_, _, c42b2⟩ := eN2 c42
        have H' := Aside0.mk H
        clear H
        have hnb56 := NB401_389.out
        have hnc56 := NB389_401.out
        have hnb57 := NB401_410.out
        have hnc57 := NB410_401.out
        obtain ⟨hcz58_0, hcz58_1, hcz58_2, hfz58_0, hfz58_1, hfz58_2⟩ := bx3 BK401
        have hnb59 := NB410_389.out
        have hnc59 := NB389_410.out
        obtain ⟨hcz60_0, hcz60_1, hcz60_2, hfz60_0, hfz60_1, hfz60_2⟩ := bx3 BK410
        go_wp2
        go_meet
        case rel => exact ⟨_, (true), tV1, H', ⟨by have := HJ2.out; first | omega | exact Nat.le_refl _⟩, ⟨dN HO413⟩, ⟨dN HO416⟩, ⟨dN HO396⟩, ⟨dV HO399⟩, ⟨dV HO405⟩, ⟨dV HO408⟩, ⟨tK BK389⟩, ⟨tK BK401⟩, ⟨tK BK410⟩, ⟨tB HB⟩⟩
      ·
       rw [if_neg c41] at H
       have c41b0 := beq_eq_false_iff_ne.mpr c41
       have c41b1 := bne_iff_ne.mpr c41
       have H' := Aside0.mk H
       clear H
       have hnb61 := NB401_389.out
       have hnc61 := NB389_401.out
       have hnb62 := NB401_410.out
       have hnc62 := NB410_401.out
       obtain ⟨hcz63_0, hcz63_1, hcz63_2, hfz63_0, hfz63_1, hfz63_2⟩ := bx3 BK401
       have hnb64 := NB410_389.out
       have hnc64 := NB389_410.out
       obtain ⟨hcz65_0, hcz65_1, hcz65_2, hfz65_0, hfz65_1, hfz65_2⟩ := bx3 BK410
       go_wp2
       go_meet
       case rel => exact ⟨_, (true), tV1, H', ⟨by have := HJ2.out; first | omega | exact Nat.le_refl _⟩, ⟨dN HO413⟩, ⟨dN HO416⟩, ⟨dN HO396⟩, ⟨dV HO399⟩, ⟨dV HO405⟩, ⟨dV HO408⟩, ⟨tK BK389⟩, ⟨tK BK401⟩, ⟨tK BK410⟩, ⟨tB HB⟩⟩
    case rest =>
     clear HC19; (try clear c12); (try clear hcz24_0); (try clear hcz24_1); (try clear hcz24_2); (try clear hcz33_0); (try clear hcz33_1); (try clear hcz33_2); (try clear hfz24_0); (try clear hfz24_1); (try clear hfz24_2); (try clear hfz33_0); (try clear hfz33_1); (try clear hfz33_2)
     obtain ⟨kq, x72_18, rfl, HA, HJ18, HO_9, HO_10, HO_402001, HO_402002, HO_411001, HO_411002, BK389, BK401, BK410, HB⟩ := hcut
     cases kq with
     | zero => exact absurd HA.out (by simp [pentaglotlaw33_ConcreteFind.j1])
     | succ kj18 =>
      have H := HA.out
      clear HA
      simp only [pentaglotlaw33_ConcreteFind.j1] at H
      by_cases c66 : x72_18 = true
      ·
       subst c66
       rw [if_pos rfl] at H
       obtain rfl := Option.some.inj H
       go_wp2
       go_ret
       exact ⟨tE, by repeat (first | (with_reducible first | exact HB.out | apply below_alloc | apply pw_below_drewN | apply below_drew1 | refine below_set ?_ GE389.out | refine below_set ?_ GE401.out | refine below_set ?_ GE410.out) | exact HB.out)⟩
      ·
       replace c66 := Bool.eq_false_iff.mpr c66
       subst c66
       rw [if_neg (show ¬ (false = true) by decide)] at H
       have H' := Aside0.mk H
       clear H
       obtain ⟨Ao67, co67, eo67⟩ := Kd.N_slice HO_10.out
       subst eo67
       go_wp2
       go_loopg [75] kj18 (fun kq v75 w' => ∃ (x75_3 : Int), v75 = .int .i64 x75_3 ∧ Aside0 (pentaglotlaw33_ConcreteFind.l0 kq t411 t414 (t414.length : Int) x75_3 = some r) ∧ Aside0 (kq ≤ kj18) ∧ Aside0 (Kd.N k33 33 w' w.heap.size (fun k_ => some k_ ≠ ((.slice Ao67 t414.length co67) : Value).ownBlock ∧ some k_ ≠ ((.slice Ao25 t394.length co25) : Value).ownBlock ∧ k_ ≠ gb389 ∧ k_ ≠ gb401 ∧ k_ ≠ gb410) v412 t411) ∧ Aside0 (Kd.N k33 33 w' w.heap.size (fun k_ => some k_ ≠ (v412 : Value).ownBlock ∧ some k_ ≠ ((.slice Ao25 t394.length co25) : Value).ownBlock ∧ k_ ≠ gb389 ∧ k_ ≠ gb401 ∧ k_ ≠ gb410) (.slice Ao67 t414.length co67) t414) ∧ Aside0 (Kd.N k90 90 w' w.heap.size (fun k_ => some k_ ≠ (v412 : Value).ownBlock ∧ some k_ ≠ ((.slice Ao67 t414.length co67) : Value).ownBlock ∧ k_ ≠ gb389 ∧ k_ ≠ gb401 ∧ k_ ≠ gb410) (.slice Ao25 t394.length co25) t394) ∧ Aside0 (Kd.V Kd.string 9 w' w.heap.size (fun k_ => some k_ ≠ (v412 : Value).ownBlock ∧ some k_ ≠ ((.slice Ao67 t414.length co67) : Value).ownBlock ∧ some k_ ≠ ((.slice Ao25 t394.length co25) : Value).ownBlock ∧ k_ ≠ gb389 ∧ k_ ≠ gb401 ∧ k_ ≠ gb410) (.slice Ao26 t397.length co26) t397) ∧ Aside0 (Kd.V k90 90 w' w.heap.size (fun k_ => some k_ ≠ (v412 : Value).ownBlock ∧ some k_ ≠ ((.slice Ao67 t414.length co67) : Value).ownBlock ∧ some k_ ≠ ((.slice Ao25 t394.length co25) : Value).ownBlock ∧ k_ ≠ gb389 ∧ k_ ≠ gb401 ∧ k_ ≠ gb410) (.slice Ao34 t403.length co34) t403) ∧ Aside0 (Kd.V Kd.string 9 w' w.heap.size (fun k_ => some k_ ≠ (v412 : Value).ownBlock ∧ some k_ ≠ ((.slice Ao67 t414.length co67) : Value).ownBlock ∧ some k_ ≠ ((.slice Ao25 t394.length co25) : Value).ownBlock ∧ k_ ≠ gb389 ∧ k_ ≠ gb401 ∧ k_ ≠ gb410) (.slice Ao35 t406.length co35) t406) ∧ Aside0 (w'.heap[gb389]? = some (.cells #[.string a0_0, .bool a0_1, (.slice A0_2 l0_2.length c0_2), (.slice A0_3 l0_3.length c0_3), (.slice A0_4 l0_4.length c0_4), (.slice A0_5 l0_5.length c0_5), (.slice A0_6 l0_6.length c0_6), .int .i64 a0_7, .int .i64 a0_8, (.slice A0_9 l0_9.length c0_9), .int .i64 a0_10, (.slice A0_11 l0_11.length c0_11), (.slice A0_12 l0_12.length c0_12), .bool a0_13, .string a0_14, .int .i64 a0_15, .string a0_16, .bool a0_17, .int .i64 a0_18, .int .i64 a0_19, (.slice A0_20 l0_20.length c0_20), (.slice A0_21 l0_21.length c0_21), (.slice A0_22 l0_22.length c0_22), (.slice A0_23 l0_23.length c0_23), (.slice A0_24 l0_24.length c0_24), .bool a0_25, (.slice A0_26 l0_26.length c0_26), (.slice A0_27 l0_27.length c0_27), (.slice A0_28 l0_28.length c0_28), .string a0_29] 60 (0, 0))) ∧ Aside0 (w'.heap[gb401]? = some (.cells #[.string t393, (.slice Ao25 t394.length co25), (.slice Ao26 t397.length co26)] 68 (0, 0))) ∧ Aside0 (w'.heap[gb410]? = some (.cells #[.string t402, (.slice Ao34 t403.length co34), (.slice Ao35 t406.length co35)] 68 (0, 0))) ∧ Aside0 (Below w.heap.size w w'))
       case atStart => exact ⟨(0), tV1, H', ⟨Nat.le_refl _⟩, ⟨dN HO_9⟩, ⟨dN HO_10⟩, ⟨dN HO_402001⟩, ⟨dV HO_402002⟩, ⟨dV HO_411001⟩, ⟨dV HO_411002⟩, ⟨tK BK389⟩, ⟨tK BK401⟩, ⟨tK BK410⟩, ⟨tB HB⟩⟩
       case round =>
        clear H'; (try clear c12); (try clear c66); (try clear hcz24_0); (try clear hcz24_1); (try clear hcz24_2); (try clear hcz33_0); (try clear hcz33_1); (try clear hcz33_2); (try clear hfz24_0); (try clear hfz24_1); (try clear hfz24_2); (try clear hfz33_0); (try clear hfz33_1); (try clear hfz33_2)
        obtain ⟨x75_3, rfl, HA, HK3, HO_9, HO_10, HO_402001, HO_402002, HO_411001, HO_411002, BK389, BK401, BK410, HB⟩ := hrel
        cases gk with
        | zero => exact absurd HA.out (by simp [pentaglotlaw33_ConcreteFind.l0])
        | succ k3 =>
         have H := HA.out
         clear HA
         simp only [pentaglotlaw33_ConcreteFind.l0] at H
         by_cases c68 : x75_3 < (t414.length : Int)
         ·
          rw [if_pos c68] at H
          have c68b0 : decide (x75_3 < (t414.length : Int)) = true := decide_eq_true c68
          clear c68
          by_cases c69 : 0 ≤ x75_3
          ·
           rw [if_pos c69] at H
           have c69b0 : decide (0 ≤ x75_3) = true := decide_eq_true c69
           clear c69
           by_cases c70 : x75_3 < (t411.length : Int)
           ·
            rw [if_pos c70] at H
            have c70b0 : decide (x75_3 < (t411.length : Int)) = true := decide_eq_true c70
            clear c70
            by_cases c71 : x75_3 < (t414.length : Int)
            ·
             rw [if_pos c71] at H
             have c71b0 : decide (x75_3 < (t414.length : Int)) = true := decide_eq_true c71
             clear c71
             replace H := Option.bind_eq_some_iff.mp H
             obtain ⟨t419, A720, H⟩ := H
             (try dsimp only at H)
             have A72 := Aside0.mk A720
             clear A720
             by_cases c73 : t419 = true
             ·
              subst c73
              rw [if_pos rfl] at H
              have H' := Aside0.mk H
              clear H
              try go_wp2
              have n0_ := Aside0.mk (Kd.N_drew HO_9.out)
              have n1_ := Aside0.mk (Kd.N_drew HO_10.out)
              have n2_ := Aside0.mk (Kd.N_drew HO_402001.out)
              have n3_ := Aside0.mk (Kd.V_drew HO_402002.out)
              have n4_ := Aside0.mk (Kd.V_drew HO_411001.out)
              have n5_ := Aside0.mk (Kd.V_drew HO_411002.out)
              have n6_ := Aside0.mk (blk_drew BK389.out)
              have n7_ := Aside0.mk (blk_drew BK401.out)
              have n8_ := Aside0.mk (blk_drew BK410.out)
              have n9_ := Aside0.mk (below_drew1 HB.out)
              revert n0_ n1_ n2_ n3_ n4_ n5_ n6_ n7_ n8_ n9_
              clear HO_9 HO_10 HO_402001 HO_402002 HO_411001 HO_411002 BK389 BK401 BK410 HB
              intro HO_9 HO_10 HO_402001 HO_402002 HO_411001 HO_411002 BK389 BK401 BK410 HB
              obtain ⟨Ao75, co75, eo75⟩ := Kd.N_slice HO_9.out
              (first | subst eo75 | (injection eo75 with f1_ f2_ f3_; have f4_ := f1_.symm; have f5_ := f3_.symm; clear f1_ f2_ f3_; subst f4_; subst f5_))
              have p417 : 0 ≤ (x75_3 : Int) := oD
              have q417 : x75_3 < (t411.length : Int) := oD
              obtain ⟨ad417, A417_1, c417_1, A417_2, c417_2, A417_3, c417_3, e417, hx417_0, hx417_1, hx417_2, hx417_3, hl417_1, hi417_1, hl417_2, hi417_2, hl417_3, hi417_3⟩ := at_T33 (Kd.N_reads' HO_9.out).2.2 x75_3 p417 q417
              cases e417
              obtain ⟨ce417, hce417, hMe417, hcc417⟩ := Kd.N_get HO_9.out z33 x75_3 p417 (by first | exact q417 | exact oD | (have e_ := (Kd.N_reads' HO_9.out).1; omega))
              obtain ⟨ua417_1, uc417_1, ua417_2, uc417_2, ua417_3, uc417_3, rfl, ul417_1, ge417_1, ul417_2, ge417_2, ul417_3, ge417_3⟩ := k33_openF hMe417
              have hv417_1 := hcc417 1 _ rfl
              rw [add_field _ _ 1 (by omega)] at hv417_1
              replace hv417_1 := Option.some.inj (hv417_1.symm.trans hx417_1)
              injection hv417_1 with hva_ hvn_ hvc_
              rw [hva_] at ge417_1
              rw [hvc_] at ul417_1
              have HL417_1 := Aside0.mk (show Kd.V (Kd.slice 37 k37) 30 _ w.heap.size _ _ ((rd_T33 t411 x75_3).f1) from Kd.V_mk ul417_1 ge417_1)
              clear hva_ hvn_ hvc_ ge417_1 ul417_1
              have hv417_2 := hcc417 2 _ rfl
              rw [add_field _ _ 2 (by omega)] at hv417_2
              replace hv417_2 := Option.some.inj (hv417_2.symm.trans hx417_2)
              injection hv417_2 with hva_ hvn_ hvc_
              rw [hva_] at ge417_2
              rw [hvc_] at ul417_2
              have HL417_2 := Aside0.mk (show Kd.V k37 37 _ w.heap.size _ _ ((rd_T33 t411 x75_3).f2) from Kd.V_mk ul417_2 ge417_2)
              clear hva_ hvn_ hvc_ ge417_2 ul417_2
              have hv417_3 := hcc417 3 _ rfl
              rw [add_field _ _ 3 (by omega)] at hv417_3
              replace hv417_3 := Option.some.inj (hv417_3.symm.trans hx417_3)
              injection hv417_3 with hva_ hvn_ hvc_
              rw [hva_] at ge417_3
              rw [hvc_] at ul417_3
              have HL417_3 := Aside0.mk (show Kd.V k88 88 _ w.heap.size _ _ ((rd_T33 t411 x75_3).f3) from Kd.V_mk ul417_3 ge417_3)
              clear hva_ hvn_ hvc_ ge417_3 ul417_3; clear hcc417 hce417
              have HR417_1 := Aside0.mk hi417_1
              have HC417_1 := Aside0.mk hl417_1
              clear hi417_1 hl417_1
              have HR417_2 := Aside0.mk hi417_2
              have HC417_2 := Aside0.mk hl417_2
              clear hi417_2 hl417_2
              have HR417_3 := Aside0.mk hi417_3
              have HC417_3 := Aside0.mk hl417_3
              clear hi417_3 hl417_3
              replace p417 := eq_true p417
              replace q417 := eq_true q417
              have p418 : 0 ≤ (x75_3 : Int) := oD
              have q418 : x75_3 < (t414.length : Int) := oD
              obtain ⟨ad418, A418_1, c418_1, A418_2, c418_2, A418_3, c418_3, e418, hx418_0, hx418_1, hx418_2, hx418_3, hl418_1, hi418_1, hl418_2, hi418_2, hl418_3, hi418_3⟩ := at_T33 (Kd.N_reads' HO_10.out).2.2 x75_3 p418 q418
              cases e418
              obtain ⟨ce418, hce418, hMe418, hcc418⟩ := Kd.N_get HO_10.out z33 x75_3 p418 (by first | exact q418 | exact oD | (have e_ := (Kd.N_reads' HO_10.out).1; omega))
              obtain ⟨ua418_1, uc418_1, ua418_2, uc418_2, ua418_3, uc418_3, rfl, ul418_1, ge418_1, ul418_2, ge418_2, ul418_3, ge418_3⟩ := k33_openF hMe418
              have hv418_1 := hcc418 1 _ rfl
              rw [add_field _ _ 1 (by omega)] at hv418_1
              replace hv418_1 := Option.some.inj (hv418_1.symm.trans hx418_1)
              injection hv418_1 with hva_ hvn_ hvc_
              rw [hva_] at ge418_1
              rw [hvc_] at ul418_1
              have HL418_1 := Aside0.mk (show Kd.V (Kd.slice 37 k37) 30 _ w.heap.size _ _ ((rd_T33 t414 x75_3).f1) from Kd.V_mk ul418_1 ge418_1)
              clear hva_ hvn_ hvc_ ge418_1 ul418_1
              have hv418_2 := hcc418 2 _ rfl
              rw [add_field _ _ 2 (by omega)] at hv418_2
              replace hv418_2 := Option.some.inj (hv418_2.symm.trans hx418_2)
              injection hv418_2 with hva_ hvn_ hvc_
              rw [hva_] at ge418_2
              rw [hvc_] at ul418_2
              have HL418_2 := Aside0.mk (show Kd.V k37 37 _ w.heap.size _ _ ((rd_T33 t414 x75_3).f2) from Kd.V_mk ul418_2 ge418_2)
              clear hva_ hvn_ hvc_ ge418_2 ul418_2
              have hv418_3 := hcc418 3 _ rfl
              rw [add_field _ _ 3 (by omega)] at hv418_3
              replace hv418_3 := Option.some.inj (hv418_3.symm.trans hx418_3)
              injection hv418_3 with hva_ hvn_ hvc_
              rw [hva_] at ge418_3
              rw [hvc_] at ul418_3
              have HL418_3 := Aside0.mk (show Kd.V k88 88 _ w.heap.size _ _ ((rd_T33 t414 x75_3).f3) from Kd.V_mk ul418_3 ge418_3)
              clear hva_ hvn_ hvc_ ge418_3 ul418_3; clear hcc418 hce418
              have HR418_1 := Aside0.mk hi418_1
              have HC418_1 := Aside0.mk hl418_1
              clear hi418_1 hl418_1
              have HR418_2 := Aside0.mk hi418_2
              have HC418_2 := Aside0.mk hl418_2
              clear hi418_2 hl418_2
              have HR418_3 := Aside0.mk hi418_3
              have HC418_3 := Aside0.mk hl418_3
              clear hi418_3 hl418_3
              replace p418 := eq_true p418
              replace q418 := eq_true q418
              refine start_ (n := 10) (S := fun w' => w'.cell? (ad417.add ((x75_3).toNat * 4)) = some (.string ((rd_T33 t411 x75_3).f0)) ∧ w'.cell? ⟨(ad417.add ((x75_3).toNat * 4)).block, (ad417.add ((x75_3).toNat * 4)).off + 1, none⟩ = some (.slice A417_1 ((rd_T33 t411 x75_3).f1).length c417_1) ∧ w'.cell? ⟨(ad417.add ((x75_3).toNat * 4)).block, (ad417.add ((x75_3).toNat * 4)).off + 2, none⟩ = some (.slice A417_2 ((rd_T33 t411 x75_3).f2).length c417_2) ∧ w'.cell? ⟨(ad417.add ((x75_3).toNat * 4)).block, (ad417.add ((x75_3).toNat * 4)).off + 3, none⟩ = some (.slice A417_3 ((rd_T33 t411 x75_3).f3).length c417_3) ∧ w'.cell? (ad418.add ((x75_3).toNat * 4)) = some (.string ((rd_T33 t414 x75_3).f0)) ∧ w'.cell? ⟨(ad418.add ((x75_3).toNat * 4)).block, (ad418.add ((x75_3).toNat * 4)).off + 1, none⟩ = some (.slice A418_1 ((rd_T33 t414 x75_3).f1).length c418_1) ∧ w'.cell? ⟨(ad418.add ((x75_3).toNat * 4)).block, (ad418.add ((x75_3).toNat * 4)).off + 2, none⟩ = some (.slice A418_2 ((rd_T33 t414 x75_3).f2).length c418_2) ∧ w'.cell? ⟨(ad418.add ((x75_3).toNat * 4)).block, (ad418.add ((x75_3).toNat * 4)).off + 3, none⟩ = some (.slice A418_3 ((rd_T33 t414 x75_3).f3).length c418_3)) (ds := []) #[false, false, false, false, false, false, false, false, false, false] (by kernel_rfl) rfl rfl ⟨hx417_0, hx417_1, hx417_2, hx417_3, hx418_0, hx418_1, hx418_2, hx418_3⟩ (fun hHeld => ?_); refine with_tabW pentaglotlaw33_ConcreteFind.tab11 pentaglotlaw33_ConcreteFind.bits11 (fun HT_ HW_ => ?_)
              generalize wr.drew = w74 at HO_9 HO_10 HO_402001 HO_402002 HO_411001 HO_411002 BK389 BK401 BK410 HB HL417_1 HL417_2 HL417_3 HL418_1 HL418_2 HL418_3 HR417_1 HR417_2 HR417_3 HR418_1 HR418_2 HR418_3 hx417_0 hx417_1 hx417_2 hx417_3 hx418_0 hx418_1 hx418_2 hx418_3 hHeld ⊢
              refine pure_ (i := 0) (N := some 78) (v := ?_) (a' := ?_) #[true, false, false, false, false, false, false, false, false, false] rfl rfl (any_of HT_.out (by kernel_rfl)) (fun _ _ _ h => h) (Or.inl ⟨by rfl, ?_⟩) ?_ ?_
              rotate_left
              ·
               intro w'
               go_simp
               with_reducible rfl
              rotate_left
              ·
               simp only [Act.put, List.setIfInBounds_toArray, List.set_cons_zero, List.set_cons_succ, i64_w, i32_w]
               rfl
              refine pure_ (i := 1) (N := some 79) (v := ?_) (a' := ?_) #[true, true, false, false, false, false, false, false, false, false] rfl rfl (any_of HT_.out (by kernel_rfl)) (fun _ _ _ h => h) (Or.inl ⟨by rfl, ?_⟩) ?_ ?_
              rotate_left
              ·
               intro w'
               go_simp
               with_reducible rfl
              rotate_left
              ·
               simp only [Act.put, List.setIfInBounds_toArray, List.set_cons_zero, List.set_cons_succ, i64_w, i32_w]
               rfl
              refine pure_ (i := 2) (N := some 80) (v := ?_) (a' := ?_) #[true, true, true, false, false, false, false, false, false, false] rfl rfl (any_of HT_.out (by kernel_rfl)) (fun _ _ _ h => h) (Or.inl ⟨by rfl, ?_⟩) ?_ ?_
              rotate_left
              ·
               intro w'
               go_simp
               with_reducible rfl
              rotate_left
              ·
               simp only [Act.put, List.setIfInBounds_toArray, List.set_cons_zero, List.set_cons_succ, i64_w, i32_w]
               rfl
              refine pure_ (i := 4) (N := some 82) (v := ?_) (a' := ?_) #[true, true, true, false, true, false, false, false, false, false] rfl rfl (any_of HT_.out (by kernel_rfl)) (fun _ _ _ h => h) (Or.inl ⟨by rfl, ?_⟩) ?_ ?_
              rotate_left
              ·
               intro w'
               go_simp
               with_reducible rfl
              rotate_left
              ·
               simp only [Act.put, List.setIfInBounds_toArray, List.set_cons_zero, List.set_cons_succ, i64_w, i32_w]
               rfl
              refine pure_ (i := 5) (N := some 83) (v := ?_) (a' := ?_) #[true, true, true, false, true, true, false, false, false, false] rfl rfl (any_of HT_.out (by kernel_rfl)) (fun _ _ _ h => h) (Or.inl ⟨by rfl, ?_⟩) ?_ ?_
              rotate_left
              ·
               intro w'
               go_simp
               with_reducible rfl
              rotate_left
              ·
               simp only [Act.put, List.setIfInBounds_toArray, List.set_cons_zero, List.set_cons_succ, i64_w, i32_w]
               rfl
              refine pure_ (i := 6) (N := some 84) (v := ?_) (a' := ?_) #[true, true, true, false, true, true, true, false, false, false] rfl rfl (any_of HT_.out (by kernel_rfl)) (fun _ _ _ h => h) (Or.inl ⟨by rfl, ?_⟩) ?_ ?_
              rotate_left
              ·
               intro w'
               go_simp
               with_reducible rfl
              rotate_left
              ·
               simp only [Act.put, List.setIfInBounds_toArray, List.set_cons_zero, List.set_cons_succ, i64_w, i32_w]
               rfl
              refine take_ (i := 3) (N := some 81) (v := ?_) (a' := ?_) #[true, true, true, true, true, true, true, false, false, false] rfl rfl (take_ofW HT_.out HW_.out (by kernel_rfl)) (fun _ _ _ h => h) (Or.inl ⟨by rfl, ?_⟩) hHeld ?_ ?_
              rotate_left
              ·
               rintro w' ⟨s0, s1, s2, s3, s4, s5, s6, s7⟩
               go_simp
               with_reducible rfl
              rotate_left
              ·
               simp only [Act.put, List.setIfInBounds_toArray, List.set_cons_zero, List.set_cons_succ, i64_w, i32_w]
               rfl
              refine take_ (i := 7) (N := some 85) (v := ?_) (a' := ?_) #[true, true, true, true, true, true, true, true, false, false] rfl rfl (take_ofW HT_.out HW_.out (by kernel_rfl)) (fun _ _ _ h => h) (Or.inl ⟨by rfl, ?_⟩) hHeld ?_ ?_
              rotate_left
              ·
               rintro w' ⟨s0, s1, s2, s3, s4, s5, s6, s7⟩
               go_simp
               with_reducible rfl
              rotate_left
              ·
               simp only [Act.put, List.setIfInBounds_toArray, List.set_cons_zero, List.set_cons_succ, i64_w, i32_w]
               rfl
              refine one_ (i := 8) (N := some 86) #[true, true, true, true, true, true, true, true, true, false] rfl rfl (one_of HT_.out (by kernel_rfl)) (by decide) (fun K hK => ?_)
              refine goes_ Try.func24 (by kernel_rfl) rfl #[.agg #[.string ((rd_T33 t411 x75_3).f0), .slice A417_1 ((rd_T33 t411 x75_3).f1).length c417_1, .slice A417_2 ((rd_T33 t411 x75_3).f2).length c417_2, .slice A417_3 ((rd_T33 t411 x75_3).f3).length c417_3], .agg #[.string ((rd_T33 t414 x75_3).f0), .slice A418_1 ((rd_T33 t414 x75_3).f1).length c418_1, .slice A418_2 ((rd_T33 t414 x75_3).f2).length c418_2, .slice A418_3 ((rd_T33 t414 x75_3).f3).length c418_3]] (by rfl) rfl rfl (by (try simp only [List.map_toArray, List.map_cons, List.map_nil]); first | done | rfl | (simp only [List.length_drop, List.length_take]; rfl)) ?_
              with_reducible refine (pentaglotref33_SameRule.calls k3 ((rd_T33 t411 x75_3).f0) _ _ ((rd_T33 t411 x75_3).f1) _ _ ((rd_T33 t411 x75_3).f2) _ _ ((rd_T33 t411 x75_3).f3) ((rd_T33 t414 x75_3).f0) _ _ ((rd_T33 t414 x75_3).f1) _ _ ((rd_T33 t414 x75_3).f2) _ _ ((rd_T33 t414 x75_3).f3) true _ ?s1 ?s2 ?s3 ?s4 ?s5 ?s6 ?s7 ?s8 ?s9 ?s10 ?s11 ?s12 A72.out).mono ?_
              (case s1 => repeat (first | exact (by repeat (first | (with_reducible exact HR417_1.out) | (with_reducible refine Kd.C_alloc ?_ _) | (with_reducible refine Kd.C_drewN ?_ _) | (with_reducible refine Kd.C_drew ?_) | exact HR417_1.out)) | (with_reducible refine Kd.C_alloc ?_ _) | (with_reducible refine Kd.C_drewN ?_ _) | (with_reducible refine Kd.C_drew ?_)))
              (case s2 => exact HC417_1.out)
              (case s3 => repeat (first | exact (by repeat (first | (with_reducible exact HR417_2.out) | (with_reducible refine Kd.C_alloc ?_ _) | (with_reducible refine Kd.C_drewN ?_ _) | (with_reducible refine Kd.C_drew ?_) | exact HR417_2.out)) | (with_reducible refine Kd.C_alloc ?_ _) | (with_reducible refine Kd.C_drewN ?_ _) | (with_reducible refine Kd.C_drew ?_)))
              (case s4 => exact HC417_2.out)
              (case s5 => repeat (first | exact (by repeat (first | (with_reducible exact HR417_3.out) | (with_reducible refine Kd.C_alloc ?_ _) | (with_reducible refine Kd.C_drewN ?_ _) | (with_reducible refine Kd.C_drew ?_) | exact HR417_3.out)) | (with_reducible refine Kd.C_alloc ?_ _) | (with_reducible refine Kd.C_drewN ?_ _) | (with_reducible refine Kd.C_drew ?_)))
              (case s6 => exact HC417_3.out)
              (case s7 => repeat (first | exact (by repeat (first | (with_reducible exact HR418_1.out) | (with_reducible refine Kd.C_alloc ?_ _) | (with_reducible refine Kd.C_drewN ?_ _) | (with_reducible refine Kd.C_drew ?_) | exact HR418_1.out)) | (with_reducible refine Kd.C_alloc ?_ _) | (with_reducible refine Kd.C_drewN ?_ _) | (with_reducible refine Kd.C_drew ?_)))
              (case s8 => exact HC418_1.out)
              (case s9 => repeat (first | exact (by repeat (first | (with_reducible exact HR418_2.out) | (with_reducible refine Kd.C_alloc ?_ _) | (with_reducible refine Kd.C_drewN ?_ _) | (with_reducible refine Kd.C_drew ?_) | exact HR418_2.out)) | (with_reducible refine Kd.C_alloc ?_ _) | (with_reducible refine Kd.C_drewN ?_ _) | (with_reducible refine Kd.C_drew ?_)))
              (case s10 => exact HC418_2.out)
              (case s11 => repeat (first | exact (by repeat (first | (with_reducible exact HR418_3.out) | (with_reducible refine Kd.C_alloc ?_ _) | (with_reducible refine Kd.C_drewN ?_ _) | (with_reducible refine Kd.C_drew ?_) | exact HR418_3.out)) | (with_reducible refine Kd.C_alloc ?_ _) | (with_reducible refine Kd.C_drewN ?_ _) | (with_reducible refine Kd.C_drew ?_)))
              (case s12 => exact HC418_3.out)
              rintro e w76 ⟨rfl, hb⟩
              have HS0_ := (hb.cell (World.block_lt_of_cell? _ _ (hHeld.1))).trans (hHeld.1)
              have HS1_ := (hb.cell (World.block_lt_of_cell? _ _ (hHeld.2.1))).trans (hHeld.2.1)
              have HS2_ := (hb.cell (World.block_lt_of_cell? _ _ (hHeld.2.2.1))).trans (hHeld.2.2.1)
              have HS3_ := (hb.cell (World.block_lt_of_cell? _ _ (hHeld.2.2.2.1))).trans (hHeld.2.2.2.1)
              have HS4_ := (hb.cell (World.block_lt_of_cell? _ _ (hHeld.2.2.2.2.1))).trans (hHeld.2.2.2.2.1)
              have HS5_ := (hb.cell (World.block_lt_of_cell? _ _ (hHeld.2.2.2.2.2.1))).trans (hHeld.2.2.2.2.2.1)
              have HS6_ := (hb.cell (World.block_lt_of_cell? _ _ (hHeld.2.2.2.2.2.2.1))).trans (hHeld.2.2.2.2.2.2.1)
              have HS7_ := (hb.cell (World.block_lt_of_cell? _ _ (hHeld.2.2.2.2.2.2.2))).trans (hHeld.2.2.2.2.2.2.2)
              refine ⟨_, rfl, ?_⟩
              have n0_ := Aside0.mk (Kd.N_below (dN HO_9) hb)
              have n1_ := Aside0.mk (Kd.N_below (dN HO_10) hb)
              have n2_ := Aside0.mk (Kd.N_below (dN HO_402001) hb)
              have n3_ := Aside0.mk (Kd.V_below (dV HO_402002) hb)
              have n4_ := Aside0.mk (Kd.V_below (dV HO_411001) hb)
              have n5_ := Aside0.mk (Kd.V_below (dV HO_411002) hb)
              have n6_ := Aside0.mk (Kd.V_below (dV HL417_1) hb)
              have n7_ := Aside0.mk (Kd.V_below (dV HL417_2) hb)
              have n8_ := Aside0.mk (Kd.V_below (dV HL417_3) hb)
              have n9_ := Aside0.mk (Kd.V_below (dV HL418_1) hb)
              have n10_ := Aside0.mk (Kd.V_below (dV HL418_2) hb)
              have n11_ := Aside0.mk (Kd.V_below (dV HL418_3) hb)
              have n12_ := Aside0.mk (blk_below (tK BK389) hb)
              have n13_ := Aside0.mk (blk_below (tK BK401) hb)
              have n14_ := Aside0.mk (blk_below (tK BK410) hb)
              have n15_ := Aside0.mk (Kd.C_below (by repeat (first | (with_reducible exact HR417_1.out) | (with_reducible refine Kd.C_alloc ?_ _) | (with_reducible refine Kd.C_drewN ?_ _) | (with_reducible refine Kd.C_drew ?_) | exact HR417_1.out)) hb)
              have n16_ := Aside0.mk (Kd.C_below (by repeat (first | (with_reducible exact HR417_2.out) | (with_reducible refine Kd.C_alloc ?_ _) | (with_reducible refine Kd.C_drewN ?_ _) | (with_reducible refine Kd.C_drew ?_) | exact HR417_2.out)) hb)
              have n17_ := Aside0.mk (Kd.C_below (by repeat (first | (with_reducible exact HR417_3.out) | (with_reducible refine Kd.C_alloc ?_ _) | (with_reducible refine Kd.C_drewN ?_ _) | (with_reducible refine Kd.C_drew ?_) | exact HR417_3.out)) hb)
              have n18_ := Aside0.mk (Kd.C_below (by repeat (first | (with_reducible exact HR418_1.out) | (with_reducible refine Kd.C_alloc ?_ _) | (with_reducible refine Kd.C_drewN ?_ _) | (with_reducible refine Kd.C_drew ?_) | exact HR418_1.out)) hb)
              have n19_ := Aside0.mk (Kd.C_below (by repeat (first | (with_reducible exact HR418_2.out) | (with_reducible refine Kd.C_alloc ?_ _) | (with_reducible refine Kd.C_drewN ?_ _) | (with_reducible refine Kd.C_drew ?_) | exact HR418_2.out)) hb)
              have n20_ := Aside0.mk (Kd.C_below (by repeat (first | (with_reducible exact HR418_3.out) | (with_reducible refine Kd.C_alloc ?_ _) | (with_reducible refine Kd.C_drewN ?_ _) | (with_reducible refine Kd.C_drew ?_) | exact HR418_3.out)) hb)
              have n21_ := Aside0.mk (below_step (tB HB) hb)
              revert n0_ n1_ n2_ n3_ n4_ n5_ n6_ n7_ n8_ n9_ n10_ n11_ n12_ n13_ n14_ n15_ n16_ n17_ n18_ n19_ n20_ n21_
              clear HO_9 HO_10 HO_402001 HO_402002 HO_411001 HO_411002 HL417_1 HL417_2 HL417_3 HL418_1 HL418_2 HL418_3 BK389 BK401 BK410 HR417_1 HR417_2 HR417_3 HR418_1 HR418_2 HR418_3 HB
              intro HO_9 HO_10 HO_402001 HO_402002 HO_411001 HO_411002 HL417_1 HL417_2 HL417_3 HL418_1 HL418_2 HL418_3 BK389 BK401 BK410 HR417_1 HR417_2 HR417_3 HR418_1 HR418_2 HR418_3 HB
              (try clear hb)
              refine hK.out _ _ ⟨HS0_, HS1_, HS2_, HS3_, HS4_, HS5_, HS6_, HS7_⟩ (fun hHeld => ?_)
              clear hK K
              refine norm_ (a' := ?_) ?_ ?_
              rotate_left
              ·
               show Act.put _ (some 86) _ = _
               simp only [Act.put, List.setIfInBounds_toArray, List.set_cons_zero, List.set_cons_succ, i64_w, i32_w]
               rfl
              refine pure_ (i := 9) (N := some 87) (v := ?_) (a' := ?_) #[true, true, true, true, true, true, true, true, true, true] rfl rfl (any_of HT_.out (by kernel_rfl)) (fun _ _ _ h => h) (Or.inl ⟨by rfl, ?_⟩) ?_ ?_
              rotate_left
              ·
               intro w'
               go_simp
               with_reducible rfl
              rotate_left
              ·
               simp only [Act.put, List.setIfInBounds_toArray, List.set_cons_zero, List.set_cons_succ, i64_w, i32_w]
               rfl
              refine done_ (done_of HT_.out (by kernel_rfl)) ?_
              try go_wp2
              go_roundg k3
              case measure => have := HJ2.out; have := HJ18.out; have := HK3.out; omega
              case rel => exact ⟨(wrap64 (x75_3 + 1)), tV1, H', ⟨by have := HJ2.out; have := HJ18.out; have := HK3.out; omega⟩, ⟨dN HO_9⟩, ⟨dN HO_10⟩, ⟨dN HO_402001⟩, ⟨dV HO_402002⟩, ⟨dV HO_411001⟩, ⟨dV HO_411002⟩, ⟨tK BK389⟩, ⟨tK BK401⟩, ⟨tK BK410⟩, ⟨tB HB⟩⟩
             ·
              replace c73 := Bool.eq_false_iff.mpr c73
              subst c73
              rw [if_neg (show ¬ (false = true) by decide)] at H
              obtain rfl := Option.some.inj H
              try go_wp2
              have n0_ := Aside0.mk (Kd.N_drew HO_9.out)
              have n1_ := Aside0.mk (Kd.N_drew HO_10.out)
              have n2_ := Aside0.mk (Kd.N_drew HO_402001.out)
              have n3_ := Aside0.mk (Kd.V_drew HO_402002.out)
              have n4_ := Aside0.mk (Kd.V_drew HO_411001.out)
              have n5_ := Aside0.mk (Kd.V_drew HO_411002.out)
              have n6_ := Aside0.mk (blk_drew BK389.out)
              have n7_ := Aside0.mk (blk_drew BK401.out)
              have n8_ := Aside0.mk (blk_drew BK410.out)
              have n9_ := Aside0.mk (below_drew1 HB.out)
              revert n0_ n1_ n2_ n3_ n4_ n5_ n6_ n7_ n8_ n9_
              clear HO_9 HO_10 HO_402001 HO_402002 HO_411001 HO_411002 BK389 BK401 BK410 HB
              intro HO_9 HO_10 HO_402001 HO_402002 HO_411001 HO_411002 BK389 BK401 BK410 HB
              obtain ⟨Ao78, co78, eo78⟩ := Kd.N_slice HO_9.out
              (first | subst eo78 | (injection eo78 with f1_ f2_ f3_; have f4_ := f1_.symm; have f5_ := f3_.symm; clear f1_ f2_ f3_; subst f4_; subst f5_))
              have p417 : 0 ≤ (x75_3 : Int) := oD
              have q417 : x75_3 < (t411.length : Int) := oD
              obtain ⟨ad417, A417_1, c417_1, A417_2, c417_2, A417_3, c417_3, e417, hx417_0, hx417_1, hx417_2, hx417_3, hl417_1, hi417_1, hl417_2, hi417_2, hl417_3, hi417_3⟩ := at_T33 (Kd.N_reads' HO_9.out).2.2 x75_3 p417 q417
              cases e417
              obtain ⟨ce417, hce417, hMe417, hcc417⟩ := Kd.N_get HO_9.out z33 x75_3 p417 (by first | exact q417 | exact oD | (have e_ := (Kd.N_reads' HO_9.out).1; omega))
              obtain ⟨ua417_1, uc417_1, ua417_2, uc417_2, ua417_3, uc417_3, rfl, ul417_1, ge417_1, ul417_2, ge417_2, ul417_3, ge417_3⟩ := k33_openF hMe417
              have hv417_1 := hcc417 1 _ rfl
              rw [add_field _ _ 1 (by omega)] at hv417_1
              replace hv417_1 := Option.some.inj (hv417_1.symm.trans hx417_1)
              injection hv417_1 with hva_ hvn_ hvc_
              rw [hva_] at ge417_1
              rw [hvc_] at ul417_1
              have HL417_1 := Aside0.mk (show Kd.V (Kd.slice 37 k37) 30 _ w.heap.size _ _ ((rd_T33 t411 x75_3).f1) from Kd.V_mk ul417_1 ge417_1)
              clear hva_ hvn_ hvc_ ge417_1 ul417_1
              have hv417_2 := hcc417 2 _ rfl
              rw [add_field _ _ 2 (by omega)] at hv417_2
              replace hv417_2 := Option.some.inj (hv417_2.symm.trans hx417_2)
              injection hv417_2 with hva_ hvn_ hvc_
              rw [hva_] at ge417_2
              rw [hvc_] at ul417_2
              have HL417_2 := Aside0.mk (show Kd.V k37 37 _ w.heap.size _ _ ((rd_T33 t411 x75_3).f2) from Kd.V_mk ul417_2 ge417_2)
              clear hva_ hvn_ hvc_ ge417_2 ul417_2
              have hv417_3 := hcc417 3 _ rfl
              rw [add_field _ _ 3 (by omega)] at hv417_3
              replace hv417_3 := Option.some.inj (hv417_3.symm.trans hx417_3)
              injection hv417_3 with hva_ hvn_ hvc_
              rw [hva_] at ge417_3
              rw [hvc_] at ul417_3
              have HL417_3 := Aside0.mk (show Kd.V k88 88 _ w.heap.size _ _ ((rd_T33 t411 x75_3).f3) from Kd.V_mk ul417_3 ge417_3)
              clear hva_ hvn_ hvc_ ge417_3 ul417_3; clear hcc417 hce417
              have HR417_1 := Aside0.mk hi417_1
              have HC417_1 := Aside0.mk hl417_1
              clear hi417_1 hl417_1
              have HR417_2 := Aside0.mk hi417_2
              have HC417_2 := Aside0.mk hl417_2
              clear hi417_2 hl417_2
              have HR417_3 := Aside0.mk hi417_3
              have HC417_3 := Aside0.mk hl417_3
              clear hi417_3 hl417_3
              replace p417 := eq_true p417
              replace q417 := eq_true q417
              have p418 : 0 ≤ (x75_3 : Int) := oD
              have q418 : x75_3 < (t414.length : Int) := oD
              obtain ⟨ad418, A418_1, c418_1, A418_2, c418_2, A418_3, c418_3, e418, hx418_0, hx418_1, hx418_2, hx418_3, hl418_1, hi418_1, hl418_2, hi418_2, hl418_3, hi418_3⟩ := at_T33 (Kd.N_reads' HO_10.out).2.2 x75_3 p418 q418
              cases e418
              obtain ⟨ce418, hce418, hMe418, hcc418⟩ := Kd.N_get HO_10.out z33 x75_3 p418 (by first | exact q418 | exact oD | (have e_ := (Kd.N_reads' HO_10.out).1; omega))
              obtain ⟨ua418_1, uc418_1, ua418_2, uc418_2, ua418_3, uc418_3, rfl, ul418_1, ge418_1, ul418_2, ge418_2, ul418_3, ge418_3⟩ := k33_openF hMe418
              have hv418_1 := hcc418 1 _ rfl
              rw [add_field _ _ 1 (by omega)] at hv418_1
              replace hv418_1 := Option.some.inj (hv418_1.symm.trans hx418_1)
              injection hv418_1 with hva_ hvn_ hvc_
              rw [hva_] at ge418_1
              rw [hvc_] at ul418_1
              have HL418_1 := Aside0.mk (show Kd.V (Kd.slice 37 k37) 30 _ w.heap.size _ _ ((rd_T33 t414 x75_3).f1) from Kd.V_mk ul418_1 ge418_1)
              clear hva_ hvn_ hvc_ ge418_1 ul418_1
              have hv418_2 := hcc418 2 _ rfl
              rw [add_field _ _ 2 (by omega)] at hv418_2
              replace hv418_2 := Option.some.inj (hv418_2.symm.trans hx418_2)
              injection hv418_2 with hva_ hvn_ hvc_
              rw [hva_] at ge418_2
              rw [hvc_] at ul418_2
              have HL418_2 := Aside0.mk (show Kd.V k37 37 _ w.heap.size _ _ ((rd_T33 t414 x75_3).f2) from Kd.V_mk ul418_2 ge418_2)
              clear hva_ hvn_ hvc_ ge418_2 ul418_2
              have hv418_3 := hcc418 3 _ rfl
              rw [add_field _ _ 3 (by omega)] at hv418_3
              replace hv418_3 := Option.some.inj (hv418_3.symm.trans hx418_3)
              injection hv418_3 with hva_ hvn_ hvc_
              rw [hva_] at ge418_3
              rw [hvc_] at ul418_3
              have HL418_3 := Aside0.mk (show Kd.V k88 88 _ w.heap.size _ _ ((rd_T33 t414 x75_3).f3) from Kd.V_mk ul418_3 ge418_3)
              clear hva_ hvn_ hvc_ ge418_3 ul418_3; clear hcc418 hce418
              have HR418_1 := Aside0.mk hi418_1
              have HC418_1 := Aside0.mk hl418_1
              clear hi418_1 hl418_1
              have HR418_2 := Aside0.mk hi418_2
              have HC418_2 := Aside0.mk hl418_2
              clear hi418_2 hl418_2
              have HR418_3 := Aside0.mk hi418_3
              have HC418_3 := Aside0.mk hl418_3
              clear hi418_3 hl418_3
              replace p418 := eq_true p418
              replace q418 := eq_true q418
              refine start_ (n := 10) (S := fun w' => w'.cell? (ad417.add ((x75_3).toNat * 4)) = some (.string ((rd_T33 t411 x75_3).f0)) ∧ w'.cell? ⟨(ad417.add ((x75_3).toNat * 4)).block, (ad417.add ((x75_3).toNat * 4)).off + 1, none⟩ = some (.slice A417_1 ((rd_T33 t411 x75_3).f1).length c417_1) ∧ w'.cell? ⟨(ad417.add ((x75_3).toNat * 4)).block, (ad417.add ((x75_3).toNat * 4)).off + 2, none⟩ = some (.slice A417_2 ((rd_T33 t411 x75_3).f2).length c417_2) ∧ w'.cell? ⟨(ad417.add ((x75_3).toNat * 4)).block, (ad417.add ((x75_3).toNat * 4)).off + 3, none⟩ = some (.slice A417_3 ((rd_T33 t411 x75_3).f3).length c417_3) ∧ w'.cell? (ad418.add ((x75_3).toNat * 4)) = some (.string ((rd_T33 t414 x75_3).f0)) ∧ w'.cell? ⟨(ad418.add ((x75_3).toNat * 4)).block, (ad418.add ((x75_3).toNat * 4)).off + 1, none⟩ = some (.slice A418_1 ((rd_T33 t414 x75_3).f1).length c418_1) ∧ w'.cell? ⟨(ad418.add ((x75_3).toNat * 4)).block, (ad418.add ((x75_3).toNat * 4)).off + 2, none⟩ = some (.slice A418_2 ((rd_T33 t414 x75_3).f2).length c418_2) ∧ w'.cell? ⟨(ad418.add ((x75_3).toNat * 4)).block, (ad418.add ((x75_3).toNat * 4)).off + 3, none⟩ = some (.slice A418_3 ((rd_T33 t414 x75_3).f3).length c418_3)) (ds := []) #[false, false, false, false, false, false, false, false, false, false] (by kernel_rfl) rfl rfl ⟨hx417_0, hx417_1, hx417_2, hx417_3, hx418_0, hx418_1, hx418_2, hx418_3⟩ (fun hHeld => ?_); refine with_tabW pentaglotlaw33_ConcreteFind.tab11 pentaglotlaw33_ConcreteFind.bits11 (fun HT_ HW_ => ?_)
              generalize wr.drew = w77 at HO_9 HO_10 HO_402001 HO_402002 HO_411001 HO_411002 BK389 BK401 BK410 HB HL417_1 HL417_2 HL417_3 HL418_1 HL418_2 HL418_3 HR417_1 HR417_2 HR417_3 HR418_1 HR418_2 HR418_3 hx417_0 hx417_1 hx417_2 hx417_3 hx418_0 hx418_1 hx418_2 hx418_3 hHeld ⊢
              refine pure_ (i := 0) (N := some 78) (v := ?_) (a' := ?_) #[true, false, false, false, false, false, false, false, false, false] rfl rfl (any_of HT_.out (by kernel_rfl)) (fun _ _ _ h => h) (Or.inl ⟨by rfl, ?_⟩) ?_ ?_
              rotate_left
              ·
               intro w'
               go_simp
               with_reducible rfl
              rotate_left
              ·
               simp only [Act.put, List.setIfInBounds_toArray, List.set_cons_zero, List.set_cons_succ, i64_w, i32_w]
               rfl
              refine pure_ (i := 1) (N := some 79) (v := ?_) (a' := ?_) #[true, true, false, false, false, false, false, false, false, false] rfl rfl (any_of HT_.out (by kernel_rfl)) (fun _ _ _ h => h) (Or.inl ⟨by rfl, ?_⟩) ?_ ?_
              rotate_left
              ·
               intro w'
               go_simp
               with_reducible rfl
              rotate_left
              ·
               simp only [Act.put, List.setIfInBounds_toArray, List.set_cons_zero, List.set_cons_succ, i64_w, i32_w]
               rfl
              refine pure_ (i := 2) (N := some 80) (v := ?_) (a' := ?_) #[true, true, true, false, false, false, false, false, false, false] rfl rfl (any_of HT_.out (by kernel_rfl)) (fun _ _ _ h => h) (Or.inl ⟨by rfl, ?_⟩) ?_ ?_
              rotate_left
              ·
               intro w'
               go_simp
               with_reducible rfl
              rotate_left
              ·
               simp only [Act.put, List.setIfInBounds_toArray, List.set_cons_zero, List.set_cons_succ, i64_w, i32_w]
               rfl
              refine pure_ (i := 4) (N := some 82) (v := ?_) (a' := ?_) #[true, true, true, false, true, false, false, false, false, false] rfl rfl (any_of HT_.out (by kernel_rfl)) (fun _ _ _ h => h) (Or.inl ⟨by rfl, ?_⟩) ?_ ?_
              rotate_left
              ·
               intro w'
               go_simp
               with_reducible rfl
              rotate_left
              ·
               simp only [Act.put, List.setIfInBounds_toArray, List.set_cons_zero, List.set_cons_succ, i64_w, i32_w]
               rfl
              refine pure_ (i := 5) (N := some 83) (v := ?_) (a' := ?_) #[true, true, true, false, true, true, false, false, false, false] rfl rfl (any_of HT_.out (by kernel_rfl)) (fun _ _ _ h => h) (Or.inl ⟨by rfl, ?_⟩) ?_ ?_
              rotate_left
              ·
               intro w'
               go_simp
               with_reducible rfl
              rotate_left
              ·
               simp only [Act.put, List.setIfInBounds_toArray, List.set_cons_zero, List.set_cons_succ, i64_w, i32_w]
               rfl
              refine pure_ (i := 6) (N := some 84) (v := ?_) (a' := ?_) #[true, true, true, false, true, true, true, false, false, false] rfl rfl (any_of HT_.out (by kernel_rfl)) (fun _ _ _ h => h) (Or.inl ⟨by rfl, ?_⟩) ?_ ?_
              rotate_left
              ·
               intro w'
               go_simp
               with_reducible rfl
              rotate_left
              ·
               simp only [Act.put, List.setIfInBounds_toArray, List.set_cons_zero, List.set_cons_succ, i64_w, i32_w]
               rfl
              refine take_ (i := 3) (N := some 81) (v := ?_) (a' := ?_) #[true, true, true, true, true, true, true, false, false, false] rfl rfl (take_ofW HT_.out HW_.out (by kernel_rfl)) (fun _ _ _ h => h) (Or.inl ⟨by rfl, ?_⟩) hHeld ?_ ?_
              rotate_left
              ·
               rintro w' ⟨s0, s1, s2, s3, s4, s5, s6, s7⟩
               go_simp
               with_reducible rfl
              rotate_left
              ·
               simp only [Act.put, List.setIfInBounds_toArray, List.set_cons_zero, List.set_cons_succ, i64_w, i32_w]
               rfl
              refine take_ (i := 7) (N := some 85) (v := ?_) (a' := ?_) #[true, true, true, true, true, true, true, true, false, false] rfl rfl (take_ofW HT_.out HW_.out (by kernel_rfl)) (fun _ _ _ h => h) (Or.inl ⟨by rfl, ?_⟩) hHeld ?_ ?_
              rotate_left
              ·
               rintro w' ⟨s0, s1, s2, s3, s4, s5, s6, s7⟩
               go_simp
               with_reducible rfl
              rotate_left
              ·
               simp only [Act.put, List.setIfInBounds_toArray, List.set_cons_zero, List.set_cons_succ, i64_w, i32_w]
               rfl
              refine one_ (i := 8) (N := some 86) #[true, true, true, true, true, true, true, true, true, false] rfl rfl (one_of HT_.out (by kernel_rfl)) (by decide) (fun K hK => ?_)
              refine goes_ Try.func24 (by kernel_rfl) rfl #[.agg #[.string ((rd_T33 t411 x75_3).f0), .slice A417_1 ((rd_T33 t411 x75_3).f1).length c417_1, .slice A417_2 ((rd_T33 t411 x75_3).f2).length c417_2, .slice A417_3 ((rd_T33 t411 x75_3).f3).length c417_3], .agg #[.string ((rd_T33 t414 x75_3).f0), .slice A418_1 ((rd_T33 t414 x75_3).f1).length c418_1, .slice A418_2 ((rd_T33 t414 x75_3).f2).length c418_2, .slice A418_3 ((rd_T33 t414 x75_3).f3).length c418_3]] (by rfl) rfl rfl (by (try simp only [List.map_toArray, List.map_cons, List.map_nil]); first | done | rfl | (simp only [List.length_drop, List.length_take]; rfl)) ?_
              with_reducible refine (pentaglotref33_SameRule.calls k3 ((rd_T33 t411 x75_3).f0) _ _ ((rd_T33 t411 x75_3).f1) _ _ ((rd_T33 t411 x75_3).f2) _ _ ((rd_T33 t411 x75_3).f3) ((rd_T33 t414 x75_3).f0) _ _ ((rd_T33 t414 x75_3).f1) _ _ ((rd_T33 t414 x75_3).f2) _ _ ((rd_T33 t414 x75_3).f3) false _ ?s1 ?s2 ?s3 ?s4 ?s5 ?s6 ?s7 ?s8 ?s9 ?s10 ?s11 ?s12 A72.out).mono ?_
              (case s1 => repeat (first | exact (by repeat (first | (with_reducible exact HR417_1.out) | (with_reducible refine Kd.C_alloc ?_ _) | (with_reducible refine Kd.C_drewN ?_ _) | (with_reducible refine Kd.C_drew ?_) | exact HR417_1.out)) | (with_reducible refine Kd.C_alloc ?_ _) | (with_reducible refine Kd.C_drewN ?_ _) | (with_reducible refine Kd.C_drew ?_)))
              (case s2 => exact HC417_1.out)
              (case s3 => repeat (first | exact (by repeat (first | (with_reducible exact HR417_2.out) | (with_reducible refine Kd.C_alloc ?_ _) | (with_reducible refine Kd.C_drewN ?_ _) | (with_reducible refine Kd.C_drew ?_) | exact HR417_2.out)) | (with_reducible refine Kd.C_alloc ?_ _) | (with_reducible refine Kd.C_drewN ?_ _) | (with_reducible refine Kd.C_drew ?_)))
              (case s4 => exact HC417_2.out)
              (case s5 => repeat (first | exact (by repeat (first | (with_reducible exact HR417_3.out) | (with_reducible refine Kd.C_alloc ?_ _) | (with_reducible refine Kd.C_drewN ?_ _) | (with_reducible refine Kd.C_drew ?_) | exact HR417_3.out)) | (with_reducible refine Kd.C_alloc ?_ _) | (with_reducible refine Kd.C_drewN ?_ _) | (with_reducible refine Kd.C_drew ?_)))
              (case s6 => exact HC417_3.out)
              (case s7 => repeat (first | exact (by repeat (first | (with_reducible exact HR418_1.out) | (with_reducible refine Kd.C_alloc ?_ _) | (with_reducible refine Kd.C_drewN ?_ _) | (with_reducible refine Kd.C_drew ?_) | exact HR418_1.out)) | (with_reducible refine Kd.C_alloc ?_ _) | (with_reducible refine Kd.C_drewN ?_ _) | (with_reducible refine Kd.C_drew ?_)))
              (case s8 => exact HC418_1.out)
              (case s9 => repeat (first | exact (by repeat (first | (with_reducible exact HR418_2.out) | (with_reducible refine Kd.C_alloc ?_ _) | (with_reducible refine Kd.C_drewN ?_ _) | (with_reducible refine Kd.C_drew ?_) | exact HR418_2.out)) | (with_reducible refine Kd.C_alloc ?_ _) | (with_reducible refine Kd.C_drewN ?_ _) | (with_reducible refine Kd.C_drew ?_)))
              (case s10 => exact HC418_2.out)
              (case s11 => repeat (first | exact (by repeat (first | (with_reducible exact HR418_3.out) | (with_reducible refine Kd.C_alloc ?_ _) | (with_reducible refine Kd.C_drewN ?_ _) | (with_reducible refine Kd.C_drew ?_) | exact HR418_3.out)) | (with_reducible refine Kd.C_alloc ?_ _) | (with_reducible refine Kd.C_drewN ?_ _) | (with_reducible refine Kd.C_drew ?_)))
              (case s12 => exact HC418_3.out)
              rintro e w79 ⟨rfl, hb⟩
              have HS0_ := (hb.cell (World.block_lt_of_cell? _ _ (hHeld.1))).trans (hHeld.1)
              have HS1_ := (hb.cell (World.block_lt_of_cell? _ _ (hHeld.2.1))).trans (hHeld.2.1)
              have HS2_ := (hb.cell (World.block_lt_of_cell? _ _ (hHeld.2.2.1))).trans (hHeld.2.2.1)
              have HS3_ := (hb.cell (World.block_lt_of_cell? _ _ (hHeld.2.2.2.1))).trans (hHeld.2.2.2.1)
              have HS4_ := (hb.cell (World.block_lt_of_cell? _ _ (hHeld.2.2.2.2.1))).trans (hHeld.2.2.2.2.1)
              have HS5_ := (hb.cell (World.block_lt_of_cell? _ _ (hHeld.2.2.2.2.2.1))).trans (hHeld.2.2.2.2.2.1)
              have HS6_ := (hb.cell (World.block_lt_of_cell? _ _ (hHeld.2.2.2.2.2.2.1))).trans (hHeld.2.2.2.2.2.2.1)
              have HS7_ := (hb.cell (World.block_lt_of_cell? _ _ (hHeld.2.2.2.2.2.2.2))).trans (hHeld.2.2.2.2.2.2.2)
              refine ⟨_, rfl, ?_⟩
              have n0_ := Aside0.mk (Kd.N_below (dN HO_9) hb)
              have n1_ := Aside0.mk (Kd.N_below (dN HO_10) hb)
              have n2_ := Aside0.mk (Kd.N_below (dN HO_402001) hb)
              have n3_ := Aside0.mk (Kd.V_below (dV HO_402002) hb)
              have n4_ := Aside0.mk (Kd.V_below (dV HO_411001) hb)
              have n5_ := Aside0.mk (Kd.V_below (dV HO_411002) hb)
              have n6_ := Aside0.mk (Kd.V_below (dV HL417_1) hb)
              have n7_ := Aside0.mk (Kd.V_below (dV HL417_2) hb)
              have n8_ := Aside0.mk (Kd.V_below (dV HL417_3) hb)
              have n9_ := Aside0.mk (Kd.V_below (dV HL418_1) hb)
              have n10_ := Aside0.mk (Kd.V_below (dV HL418_2) hb)
              have n11_ := Aside0.mk (Kd.V_below (dV HL418_3) hb)
              have n12_ := Aside0.mk (blk_below (tK BK389) hb)
              have n13_ := Aside0.mk (blk_below (tK BK401) hb)
              have n14_ := Aside0.mk (blk_below (tK BK410) hb)
              have n15_ := Aside0.mk (Kd.C_below (by repeat (first | (with_reducible exact HR417_1.out) | (with_reducible refine Kd.C_alloc ?_ _) | (with_reducible refine Kd.C_drewN ?_ _) | (with_reducible refine Kd.C_drew ?_) | exact HR417_1.out)) hb)
              have n16_ := Aside0.mk (Kd.C_below (by repeat (first | (with_reducible exact HR417_2.out) | (with_reducible refine Kd.C_alloc ?_ _) | (with_reducible refine Kd.C_drewN ?_ _) | (with_reducible refine Kd.C_drew ?_) | exact HR417_2.out)) hb)
              have n17_ := Aside0.mk (Kd.C_below (by repeat (first | (with_reducible exact HR417_3.out) | (with_reducible refine Kd.C_alloc ?_ _) | (with_reducible refine Kd.C_drewN ?_ _) | (with_reducible refine Kd.C_drew ?_) | exact HR417_3.out)) hb)
              have n18_ := Aside0.mk (Kd.C_below (by repeat (first | (with_reducible exact HR418_1.out) | (with_reducible refine Kd.C_alloc ?_ _) | (with_reducible refine Kd.C_drewN ?_ _) | (with_reducible refine Kd.C_drew ?_) | exact HR418_1.out)) hb)
              have n19_ := Aside0.mk (Kd.C_below (by repeat (first | (with_reducible exact HR418_2.out) | (with_reducible refine Kd.C_alloc ?_ _) | (with_reducible refine Kd.C_drewN ?_ _) | (with_reducible refine Kd.C_drew ?_) | exact HR418_2.out)) hb)
              have n20_ := Aside0.mk (Kd.C_below (by repeat (first | (with_reducible exact HR418_3.out) | (with_reducible refine Kd.C_alloc ?_ _) | (with_reducible refine Kd.C_drewN ?_ _) | (with_reducible refine Kd.C_drew ?_) | exact HR418_3.out)) hb)
              have n21_ := Aside0.mk (below_step (tB HB) hb)
              revert n0_ n1_ n2_ n3_ n4_ n5_ n6_ n7_ n8_ n9_ n10_ n11_ n12_ n13_ n14_ n15_ n16_ n17_ n18_ n19_ n20_ n21_
              clear HO_9 HO_10 HO_402001 HO_402002 HO_411001 HO_411002 HL417_1 HL417_2 HL417_3 HL418_1 HL418_2 HL418_3 BK389 BK401 BK410 HR417_1 HR417_2 HR417_3 HR418_1 HR418_2 HR418_3 HB
              intro HO_9 HO_10 HO_402001 HO_402002 HO_411001 HO_411002 HL417_1 HL417_2 HL417_3 HL418_1 HL418_2 HL418_3 BK389 BK401 BK410 HR417_1 HR417_2 HR417_3 HR418_1 HR418_2 HR418_3 HB
              (try clear hb)
              refine hK.out _ _ ⟨HS0_, HS1_, HS2_, HS3_, HS4_, HS5_, HS6_, HS7_⟩ (fun hHeld => ?_)
              clear hK K
              refine norm_ (a' := ?_) ?_ ?_
              rotate_left
              ·
               show Act.put _ (some 86) _ = _
               simp only [Act.put, List.setIfInBounds_toArray, List.set_cons_zero, List.set_cons_succ, i64_w, i32_w]
               rfl
              refine pure_ (i := 9) (N := some 87) (v := ?_) (a' := ?_) #[true, true, true, true, true, true, true, true, true, true] rfl rfl (any_of HT_.out (by kernel_rfl)) (fun _ _ _ h => h) (Or.inl ⟨by rfl, ?_⟩) ?_ ?_
              rotate_left
              ·
               intro w'
               go_simp
               with_reducible rfl
              rotate_left
              ·
               simp only [Act.put, List.setIfInBounds_toArray, List.set_cons_zero, List.set_cons_succ, i64_w, i32_w]
               rfl
              refine done_ (done_of HT_.out (by kernel_rfl)) ?_
              try go_wp2
              go_ret
              exact ⟨tE, by repeat (first | (with_reducible first | exact HB.out | apply below_alloc | apply pw_below_drewN | apply below_drew1 | refine below_set ?_ GE389.out | refine below_set ?_ GE401.out | refine below_set ?_ GE410.out) | exact HB.out)⟩
            ·
             rw [if_neg c71] at H
             exact absurd H (by simp)
           ·
            rw [if_neg c70] at H
            exact absurd H (by simp)
          ·
           rw [if_neg c69] at H
           exact absurd H (by simp)
         ·
          rw [if_neg c68] at H
          have c68b0 : decide (x75_3 < (t414.length : Int)) = false := decide_eq_false c68
          clear c68
          obtain rfl := Option.some.inj H
          go_wp2
          go_ret
          exact ⟨tE, by repeat (first | (with_reducible first | exact HB.out | apply below_alloc | apply pw_below_drewN | apply below_drew1 | refine below_set ?_ GE389.out | refine below_set ?_ GE401.out | refine below_set ?_ GE410.out) | exact HB.out)⟩

end Go.Proofs.Ytfbfopfhfeijdaa.Pr
