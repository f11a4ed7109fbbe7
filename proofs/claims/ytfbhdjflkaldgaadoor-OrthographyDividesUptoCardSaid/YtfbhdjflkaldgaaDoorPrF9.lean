-- Written by a program of this session (ownprint.py, over the kit's printer). Not trusted: Lean checks it.
import Derived.Test.YtfbhdjflkaldgaaDoorMg1
import Derived.Test.YtfbhdjflkaldgaaDoorMg2
import Derived.Test.YtfbhdjflkaldgaaDoorMg21
import Derived.Test.YtfbhdjflkaldgaaDoorMg22
import Derived.Test.YtfbhdjflkaldgaaDoorMg17
import Derived.Test.YtfbhdjflkaldgaaDoorMg3
namespace Go.Proofs.YtfbhdjflkaldgaaDoor.Pr
open Go.Proofs.YtfbhdjflkaldgaaDoor.Ct Go.RowKit Go.Proofs.YtfbhdjflkaldgaaDoorW.PrintWords Go.Proofs.YtfbhdjflkaldgaaDoorW.PrintLast Go.Proofs.YtfbhdjflkaldgaaDoorW.PrintMore
attribute [local go_sem] max2_int min2_int max_two min_two max_three min_three max_four min_four
set_option linter.unusedVariables false
set_option linter.unusedSimpArgs false
def pentaglotref42_Sentences.l0 : Nat → List ByteArray → List ByteArray → List ByteArray → Int → ByteArray → Bool → List (S80) → List (S85) → List (S180) → List (S183) → List (List Int) → Int → Int → List (S85) → Int → List ByteArray → List ByteArray → Bool → ByteArray → Int → ByteArray → Bool → Int → Int → List (S186) → List (S186) → List ByteArray → List ByteArray → List ByteArray → Bool → List (S188) → List (S190) → List (S194) → ByteArray → Option (List ByteArray × Int)
 | 0, _, _, _, _, _, _, _, _, _, _, _, _, _, _, _, _, _, _, _, _, _, _, _, _, _, _, _, _, _, _, _, _, _, _ => none
 | k + 1, x6, x7, x8, x9, x379000, x379001, x379002, x379003, x379004, x379005, x379006, x379007, x379008, x379009, x379010, x379011, x379012, x379013, x379014, x379015, x379016, x379017, x379018, x379019, x379020, x379021, x379022, x379023, x379024, x379025, x379026, x379027, x379028, x379029 => if x9 < (x8.length : Int) then (if 0 ≤ x9 then ((pentaglotref42_stopped.f x379000 x379001 x379002 x379003 x379004 x379005 x379006 x379007 x379008 x379009 x379010 x379011 x379012 x379013 x379014 x379015 x379016 x379017 x379018 x379019 x379020 x379021 x379022 x379023 x379024 x379025 x379026 x379027 x379028 x379029 (rdOf ByteArray.empty x8 x9)).bind fun bt390 => ((pentaglotref42_Host.f x379000 x379001 x379002 x379003 x379004 x379005 x379006 x379007 x379008 x379009 x379010 x379011 x379012 x379013 x379014 x379015 x379016 x379017 x379018 x379019 x379020 x379021 x379022 x379023 x379024 x379025 x379026 x379027 x379028 x379029 bt390.1).bind fun t392 => (if t392 = true then (if x7.length < 8796093022208 then ((some (x7 ++ [rdOf ByteArray.empty x8 x9] : List ByteArray)).bind fun y394 => (if bt390.2 = true then ((pentaglotref42_join.f k y394).bind fun t397 => (if x6.length < 8796093022208 then (pentaglotref42_Sentences.l0 k (x6 ++ [t397]) (([] : List ByteArray)) x8 (wrap64 (x9 + 1)) x379000 x379001 x379002 x379003 x379004 x379005 x379006 x379007 x379008 x379009 x379010 x379011 x379012 x379013 x379014 x379015 x379016 x379017 x379018 x379019 x379020 x379021 x379022 x379023 x379024 x379025 x379026 x379027 x379028 x379029) else (none))) else (pentaglotref42_Sentences.l0 k x6 y394 x8 (wrap64 (x9 + 1)) x379000 x379001 x379002 x379003 x379004 x379005 x379006 x379007 x379008 x379009 x379010 x379011 x379012 x379013 x379014 x379015 x379016 x379017 x379018 x379019 x379020 x379021 x379022 x379023 x379024 x379025 x379026 x379027 x379028 x379029))) else (none)) else (some (([] : List ByteArray), 3))))) else (none)) else (if (x7.length : Int) > 0 then (some (([] : List ByteArray), 3)) else (if (x6.length : Int) > 8 then (some (([] : List ByteArray), 2)) else (some (x6, 0))))
def pentaglotref42_Sentences.f (k : Nat) (a_0 : ByteArray) (a_1 : Bool) (l_2 : List (S80)) (l_3 : List (S85)) (l_4 : List (S180)) (l_5 : List (S183)) (l_6 : List (List Int)) (a_7 : Int) (a_8 : Int) (l_9 : List (S85)) (a_a : Int) (l_b : List ByteArray) (l_c : List ByteArray) (a_d : Bool) (a_e : ByteArray) (a_f : Int) (a_g : ByteArray) (a_h : Bool) (a_i : Int) (a_j : Int) (l_k : List (S186)) (l_l : List (S186)) (l_m : List ByteArray) (l_n : List ByteArray) (l_o : List ByteArray) (a_p : Bool) (l_q : List (S188)) (l_r : List (S190)) (l_s : List (S194)) (a_t : ByteArray) (a1 : ByteArray) : Option (List ByteArray × Int) := (pentaglotref42_Valid.f a_0 a_1 l_2 l_3 l_4 l_5 l_6 a_7 a_8 l_9 a_a l_b l_c a_d a_e a_f a_g a_h a_i a_j l_k l_l l_m l_n l_o a_p l_q l_r l_s a_t).bind fun t379 => (if t379 = true then (if (a1.size : Int) > 4096 then (some (([] : List ByteArray), 2)) else ((pentaglotref42_split.f k a1).bind fun t386 => (pentaglotref42_Sentences.l0 k (([] : List ByteArray)) (([] : List ByteArray)) t386 0 a_0 a_1 l_2 l_3 l_4 l_5 l_6 a_7 a_8 l_9 a_a l_b l_c a_d a_e a_f a_g a_h a_i a_j l_k l_l l_m l_n l_o a_p l_q l_r l_s a_t))) else (some (([] : List ByteArray), 1)))
def pentaglotref42_Sentences.T11 : Bool × List (List Nat × List Nat) := (true, [([], []), ([], []), ([], []), ([1, 2], [1, 2]), ([3], [3]), ([0, 4], [0, 4]), ([5], [5]), ([6], [6]), ([6], [6]), ([7, 5, 0, 1, 2, 3, 4, 5, 6, 7], [7]), ([8, 9, 0, 1, 2, 3, 4, 5, 6, 7, 8, 9], [8])])
def pentaglotref42_Sentences.B11 : List Nat := [0, 0, 0, 6, 14, 31, 63, 127, 127, 255, 1023]
theorem pentaglotref42_Sentences.tab11 : rtab .any (opsOf Tryd.f9 11) = pentaglotref42_Sentences.T11 := by kernel_rfl
theorem pentaglotref42_Sentences.bits11 : waitsOk pentaglotref42_Sentences.T11.2 pentaglotref42_Sentences.B11 = true := by kernel_rfl
set_option maxRecDepth 1000000 in
theorem LPrF9a1 {p : Prop} (h : p := by
  go_enter Tryd.func9, Tryd.ntmps9
  go_wp2_with (first | ((with_reducible refine gate_load (t := 41) (p := 2) rfl ?_); (try (refine gate_guard (by rfl) ?_; dsimp only)); refine wpList_load_row rfl 41 (.tmp 2) rfl gb378 rfl 41 _ (0, 0) _ (tK BK378) Tryd.underlying41 rfl (by kernel_rfl) ?_) | ((with_reducible refine gate_dst (N := 2) rfl ?_); refine box_event ?hg (N := 2) ?hd (cs := ?cs) (t := 41) ?hr ?_; (case hd => rfl); (case hg => rfl); (case hr => exact Gc5); intro gb378 hg z2_ hbox hb; have n0_ := Aside0.mk (below_step (tB HB) hb); have n1_ := Aside0.mk (hbox); have z5_ := tZ hg (tS HB); have z6_ := tZ hg (tS HB); revert n0_ n1_ z5_ z6_; clear HB; intro HB BK378 z8_ GE378; clear hb hbox hg) | (have ma_ := ma1_; ((with_reducible refine gate_callee (f := 22) rfl ?_); refine goesL_ (some 13) rfl rfl Tryd.func22 (by kernel_rfl) rfl #[.agg _] rfl Gc2 ?_; (with_reducible refine (pentaglotref42_Valid.calls a_0 a_1 _ _ l_2 _ _ l_3 _ _ l_4 _ _ l_5 _ _ l_6 a_7 a_8 _ _ l_9 a_a _ _ l_b _ _ l_c a_d a_e a_f a_g a_h a_i a_j _ _ l_k _ _ l_l _ _ l_m _ _ l_n _ _ l_o a_p _ _ l_q _ _ l_r _ _ l_s a_t false _ ?sT (tC HR_2 HB) HC_2.out (tC HR_3 HB) HC_3.out (tC HR_4 HB) HC_4.out (tC HR_5 HB) HC_5.out (tC HR_6 HB) HC_6.out (tC HR_9 HB) HC_9.out (tC HR_b HB) HC_b.out (tC HR_c HB) HC_c.out (tC HR_k HB) HC_k.out (tC HR_l HB) HC_l.out (tC HR_m HB) HC_m.out (tC HR_n HB) HC_n.out (tC HR_o HB) HC_o.out (tC HR_q HB) HC_q.out (tC HR_r HB) HC_r.out (tC HR_s HB) HC_s.out A3.out).mono ?_); (case sT => exact Gc1); rintro e z1_ ⟨rfl, hb⟩; refine ⟨_, rfl, ?_⟩; have n0_ := Aside0.mk (blk_below (tK BK378) hb); have n1_ := Aside0.mk (below_step (tB HB) hb); revert n0_ n1_; clear BK378 HB; intro BK378 HB; (try clear hb); (try clear hb2); (try clear hk); (try clear hi))) | (have ma_ := ma2_; ((with_reducible refine gate_callee (f := 22) rfl ?_); refine goesL_ (some 13) rfl rfl Tryd.func22 (by kernel_rfl) rfl #[.agg _] rfl Gc2 ?_; (with_reducible refine (pentaglotref42_Valid.calls a_0 a_1 _ _ l_2 _ _ l_3 _ _ l_4 _ _ l_5 _ _ l_6 a_7 a_8 _ _ l_9 a_a _ _ l_b _ _ l_c a_d a_e a_f a_g a_h a_i a_j _ _ l_k _ _ l_l _ _ l_m _ _ l_n _ _ l_o a_p _ _ l_q _ _ l_r _ _ l_s a_t true _ ?sT (tC HR_2 HB) HC_2.out (tC HR_3 HB) HC_3.out (tC HR_4 HB) HC_4.out (tC HR_5 HB) HC_5.out (tC HR_6 HB) HC_6.out (tC HR_9 HB) HC_9.out (tC HR_b HB) HC_b.out (tC HR_c HB) HC_c.out (tC HR_k HB) HC_k.out (tC HR_l HB) HC_l.out (tC HR_m HB) HC_m.out (tC HR_n HB) HC_n.out (tC HR_o HB) HC_o.out (tC HR_q HB) HC_q.out (tC HR_r HB) HC_r.out (tC HR_s HB) HC_s.out A3.out).mono ?_); (case sT => exact Gc1); rintro e z1_ ⟨rfl, hb⟩; refine ⟨_, rfl, ?_⟩; have n0_ := Aside0.mk (blk_below (tK BK378) hb); have n1_ := Aside0.mk (below_step (tB HB) hb); revert n0_ n1_; clear BK378 HB; intro BK378 HB; (try clear hb); (try clear hb2); (try clear hk); (try clear hi))))
  go_ret2
  exact ⟨_, tE, by first | exact Kd.R_nil _ _ _ _ _ | exact Kd.N_nil _ _ _ _ _ | exact Kd.V_nil _ _ _ _ _ | exact Kd.Q_nil _ _ _ _ _ | exact Kd.S_nil _ _ _ _ _, by repeat (first | (with_reducible first | exact HB.out | apply below_alloc | apply pw_below_drewN | apply below_drew1 | refine below_set ?_ GE378.out) | exact HB.out)⟩) : p := h
theorem LPrF9x1 {p : Prop} (h : p := by
  rintro w' ⟨z1_, z2_⟩
  first | (refine Eq.trans (load_held 41 (.tmp 2) (by rfl) gb378 (by rfl) 41 _ _ z1_ Tryd.underlying41 (by rfl) (by kernel_rfl)) ?_; with_reducible rfl) | (clear z1_; go_simp; with_reducible rfl) | (have z3_ : World.cell? w' ⟨gb378, 0, none⟩ = some (.string a_0) := (blk_cell z1_ 0).trans rfl; have z4_ : World.cell? w' ⟨gb378, 1, none⟩ = some (.bool a_1) := (blk_cell z1_ 1).trans rfl; have z5_ : World.cell? w' ⟨gb378, 2, none⟩ = some (.slice A_2 l_2.length c_2) := (blk_cell z1_ 2).trans rfl; have z6_ : World.cell? w' ⟨gb378, 3, none⟩ = some (.slice A_3 l_3.length c_3) := (blk_cell z1_ 3).trans rfl; have z7_ : World.cell? w' ⟨gb378, 4, none⟩ = some (.slice A_4 l_4.length c_4) := (blk_cell z1_ 4).trans rfl; have z8_ : World.cell? w' ⟨gb378, 5, none⟩ = some (.slice A_5 l_5.length c_5) := (blk_cell z1_ 5).trans rfl; have z9_ : World.cell? w' ⟨gb378, 6, none⟩ = some (.slice A_6 l_6.length c_6) := (blk_cell z1_ 6).trans rfl; have z10_ : World.cell? w' ⟨gb378, 7, none⟩ = some (.int .i64 a_7) := (blk_cell z1_ 7).trans rfl; have z11_ : World.cell? w' ⟨gb378, 8, none⟩ = some (.int .i64 a_8) := (blk_cell z1_ 8).trans rfl; have z12_ : World.cell? w' ⟨gb378, 9, none⟩ = some (.slice A_9 l_9.length c_9) := (blk_cell z1_ 9).trans rfl; have z13_ : World.cell? w' ⟨gb378, 10, none⟩ = some (.int .i64 a_a) := (blk_cell z1_ 10).trans rfl; have z14_ : World.cell? w' ⟨gb378, 11, none⟩ = some (.slice A_b l_b.length c_b) := (blk_cell z1_ 11).trans rfl; have z15_ : World.cell? w' ⟨gb378, 12, none⟩ = some (.slice A_c l_c.length c_c) := (blk_cell z1_ 12).trans rfl; have z16_ : World.cell? w' ⟨gb378, 13, none⟩ = some (.bool a_d) := (blk_cell z1_ 13).trans rfl; have z17_ : World.cell? w' ⟨gb378, 14, none⟩ = some (.string a_e) := (blk_cell z1_ 14).trans rfl; have z18_ : World.cell? w' ⟨gb378, 15, none⟩ = some (.int .i64 a_f) := (blk_cell z1_ 15).trans rfl; have z19_ : World.cell? w' ⟨gb378, 16, none⟩ = some (.string a_g) := (blk_cell z1_ 16).trans rfl; have z20_ : World.cell? w' ⟨gb378, 17, none⟩ = some (.bool a_h) := (blk_cell z1_ 17).trans rfl; have z21_ : World.cell? w' ⟨gb378, 18, none⟩ = some (.int .i64 a_i) := (blk_cell z1_ 18).trans rfl; have z22_ : World.cell? w' ⟨gb378, 19, none⟩ = some (.int .i64 a_j) := (blk_cell z1_ 19).trans rfl; have z23_ : World.cell? w' ⟨gb378, 20, none⟩ = some (.slice A_k l_k.length c_k) := (blk_cell z1_ 20).trans rfl; have z24_ : World.cell? w' ⟨gb378, 21, none⟩ = some (.slice A_l l_l.length c_l) := (blk_cell z1_ 21).trans rfl; have z25_ : World.cell? w' ⟨gb378, 22, none⟩ = some (.slice A_m l_m.length c_m) := (blk_cell z1_ 22).trans rfl; have z26_ : World.cell? w' ⟨gb378, 23, none⟩ = some (.slice A_n l_n.length c_n) := (blk_cell z1_ 23).trans rfl; have z27_ : World.cell? w' ⟨gb378, 24, none⟩ = some (.slice A_o l_o.length c_o) := (blk_cell z1_ 24).trans rfl; have z28_ : World.cell? w' ⟨gb378, 25, none⟩ = some (.bool a_p) := (blk_cell z1_ 25).trans rfl; have z29_ : World.cell? w' ⟨gb378, 26, none⟩ = some (.slice A_q l_q.length c_q) := (blk_cell z1_ 26).trans rfl; have z30_ : World.cell? w' ⟨gb378, 27, none⟩ = some (.slice A_r l_r.length c_r) := (blk_cell z1_ 27).trans rfl; have z31_ : World.cell? w' ⟨gb378, 28, none⟩ = some (.slice A_s l_s.length c_s) := (blk_cell z1_ 28).trans rfl; have z32_ : World.cell? w' ⟨gb378, 29, none⟩ = some (.string a_t) := (blk_cell z1_ 29).trans rfl; go_simp; with_reducible rfl)
  skip) : p := h
theorem LPrF9x2 {p : Prop} (h : p := by
  exact ⟨_, tE, by first | exact Kd.R_nil _ _ _ _ _ | exact Kd.N_nil _ _ _ _ _ | exact Kd.V_nil _ _ _ _ _ | exact Kd.Q_nil _ _ _ _ _ | exact Kd.S_nil _ _ _ _ _, by repeat (first | (with_reducible first | exact HB.out | apply below_alloc | apply pw_below_drewN | apply below_drew1 | refine below_set ?_ GE378.out) | exact HB.out)⟩) : p := h
set_option maxRecDepth 1000000 in
theorem LPrF9xh1 {p : Prop} (h : p := by
  try go_wp2
  have n0_ := Aside0.mk (Kd.R_drew HO_6.out)
  have n1_ := Aside0.mk (Kd.R_drew HO_7.out)
  have n2_ := Aside0.mk (Kd.R_drew HO_8.out)
  have n3_ := Aside0.mk (blk_drew BK378.out)
  have n4_ := Aside0.mk (below_drew1 HB.out)
  revert n0_ n1_ n2_ n3_ n4_
  clear HO_6 HO_7 HO_8 BK378 HB
  intro HO_6 HO_7 HO_8 BK378 HB
  have p389 : 0 ≤ (x9_1 : Int) := oD
  have q389 : x9_1 < (t386.length : Int) := oD
  obtain ⟨ad389, e389, hx389_0⟩ := Kd.at_string (Kd.R_reads' HO_8.out).2.2 x9_1 p389 q389
  cases e389
  replace p389 := eq_true p389
  replace q389 := eq_true q389
  refine start_ (n := 11) (S := fun w' => w'.heap[gb378]? = some (.cells #[.string a_0, .bool a_1, .slice A_2 l_2.length c_2, .slice A_3 l_3.length c_3, .slice A_4 l_4.length c_4, .slice A_5 l_5.length c_5, .slice A_6 l_6.length c_6, .int .i64 a_7, .int .i64 a_8, .slice A_9 l_9.length c_9, .int .i64 a_a, .slice A_b l_b.length c_b, .slice A_c l_c.length c_c, .bool a_d, .string a_e, .int .i64 a_f, .string a_g, .bool a_h, .int .i64 a_i, .int .i64 a_j, .slice A_k l_k.length c_k, .slice A_l l_l.length c_l, .slice A_m l_m.length c_m, .slice A_n l_n.length c_n, .slice A_o l_o.length c_o, .bool a_p, .slice A_q l_q.length c_q, .slice A_r l_r.length c_r, .slice A_s l_s.length c_s, .string a_t] 41 (0, 0)) ∧ w'.cell? (ad389.add (x9_1).toNat) = some (.string (rdOf ByteArray.empty t386 x9_1))) (ds := []) #[false, false, false, false, false, false, false, false, false, false, false] (by kernel_rfl) rfl rfl ⟨BK378.out, hx389_0⟩ (fun hHeld => ?_); refine with_tabW pentaglotref42_Sentences.tab11 pentaglotref42_Sentences.bits11 (fun HT_ HW_ => ?_)
  first
  | (have mk_ := mk0_
     generalize wr.drew = w28 at HO_6 HO_7 HO_8 BK378 HB hx389_0 hHeld ⊢
     refine pT 1 30 ?_
     refine pT 2 31 ?_
     refine pT 3 32 ?_
     refine take_ (i := 0) (N := some 29) (v := ?_) (a' := ?_) #[true, true, true, true, false, false, false, false, false, false, false] rfl rfl (take_ofW HT_.out HW_.out (by kernel_rfl)) (fun _ _ _ h => h) (Or.inl ⟨by rfl, ?_⟩) hHeld ?_ ?_
     rotate_left
     ·
      exact LPrF9x1
     rotate_left
     ·
      exact GpR
     refine take_ (i := 4) (N := some 33) (v := ?_) (a' := ?_) #[true, true, true, true, true, false, false, false, false, false, false] rfl rfl (take_ofW HT_.out HW_.out (by kernel_rfl)) (fun _ _ _ h => h) (Or.inl ⟨by rfl, ?_⟩) hHeld ?_ ?_
     rotate_left
     ·
      exact LPrF9x1
     rotate_left
     ·
      exact GpR
     refine one_ (i := 5) (N := some 34) #[true, true, true, true, true, true, false, false, false, false, false] rfl rfl (one_of HT_.out (by kernel_rfl)) (by decide) (fun K hK => ?_)
     refine goes_ Tryd.func24 (by kernel_rfl) rfl #[.agg _, .string (rdOf ByteArray.empty t386 x9_1)] (by rfl) rfl rfl Gc2 ?_
     with_reducible refine (pentaglotref42_stopped.calls a_0 a_1 _ _ l_2 _ _ l_3 _ _ l_4 _ _ l_5 _ _ l_6 a_7 a_8 _ _ l_9 a_a _ _ l_b _ _ l_c a_d a_e a_f a_g a_h a_i a_j _ _ l_k _ _ l_l _ _ l_m _ _ l_n _ _ l_o a_p _ _ l_q _ _ l_r _ _ l_s a_t (rdOf ByteArray.empty t386 x9_1) t390 true _ (tC HR_2 HB) HC_2.out (tC HR_3 HB) HC_3.out (tC HR_4 HB) HC_4.out (tC HR_5 HB) HC_5.out (tC HR_6 HB) HC_6.out (tC HR_9 HB) HC_9.out (tC HR_b HB) HC_b.out (tC HR_c HB) HC_c.out (tC HR_k HB) HC_k.out (tC HR_l HB) HC_l.out (tC HR_m HB) HC_m.out (tC HR_n HB) HC_n.out (tC HR_o HB) HC_o.out (tC HR_q HB) HC_q.out (tC HR_r HB) HC_r.out (tC HR_s HB) HC_s.out A20.out).mono ?_
     rintro e w29 ⟨rfl, hb⟩
     have HS30_ := (hb.cell (World.block_lt_of_cell? _ _ (hHeld.2))).trans (hHeld.2)
     refine ⟨_, rfl, ?_⟩
     have n0_ := Aside0.mk (Kd.R_below (dR HO_6) hb)
     have n1_ := Aside0.mk (Kd.R_below (dR HO_7) hb)
     have n2_ := Aside0.mk (Kd.R_below (dR HO_8) hb)
     have n3_ := Aside0.mk (blk_below (tK BK378) hb)
     have n4_ := Aside0.mk (below_step (tB HB) hb)
     revert n0_ n1_ n2_ n3_ n4_
     clear HO_6 HO_7 HO_8 BK378 HB
     intro HO_6 HO_7 HO_8 BK378 HB
     (try clear hb); (try clear hk)
     refine hK.out _ _ ⟨BK378.out, HS30_⟩ (fun hHeld => ?_)
     clear hK K
     refine nR 34 ?_
     refine pT 6 28 ?_
     refine pT 7 35 ?_
     refine pT 8 36 ?_
     refine pT 9 10 ?_
     refine pT 10 11 ?_
     refine done_ (done_of HT_.out (by kernel_rfl)) ?_
     try go_wp2_with (first | ((with_reducible refine gate_load (t := 41) (p := 2) rfl ?_); (try (refine gate_guard (by rfl) ?_; dsimp only)); refine wpList_load_row rfl 41 (.tmp 2) rfl gb378 rfl 41 _ (0, 0) _ (tK BK378) Tryd.underlying41 rfl (by kernel_rfl) ?_) | ((with_reducible refine gate_callee (f := 25) rfl ?_); refine goesL_ (some 39) rfl rfl Tryd.func25 (by kernel_rfl) rfl #[.agg _, .string t390] rfl Gc2 ?_; (with_reducible refine (pentaglotref42_Host.calls a_0 a_1 _ _ l_2 _ _ l_3 _ _ l_4 _ _ l_5 _ _ l_6 a_7 a_8 _ _ l_9 a_a _ _ l_b _ _ l_c a_d a_e a_f a_g a_h a_i a_j _ _ l_k _ _ l_l _ _ l_m _ _ l_n _ _ l_o a_p _ _ l_q _ _ l_r _ _ l_s a_t t390 true _ (tC HR_2 HB) HC_2.out (tC HR_3 HB) HC_3.out (tC HR_4 HB) HC_4.out (tC HR_5 HB) HC_5.out (tC HR_6 HB) HC_6.out (tC HR_9 HB) HC_9.out (tC HR_b HB) HC_b.out (tC HR_c HB) HC_c.out (tC HR_k HB) HC_k.out (tC HR_l HB) HC_l.out (tC HR_m HB) HC_m.out (tC HR_n HB) HC_n.out (tC HR_o HB) HC_o.out (tC HR_q HB) HC_q.out (tC HR_r HB) HC_r.out (tC HR_s HB) HC_s.out A21.out).mono ?_); rintro e w31 ⟨rfl, hb⟩; refine ⟨_, rfl, ?_⟩; have n0_ := Aside0.mk (Kd.R_below (dR HO_6) hb); have n1_ := Aside0.mk (Kd.R_below (dR HO_7) hb); have n2_ := Aside0.mk (Kd.R_below (dR HO_8) hb); have n3_ := Aside0.mk (blk_below (tK BK378) hb); have n4_ := Aside0.mk (below_step (tB HB) hb); revert n0_ n1_ n2_ n3_ n4_; clear HO_6 HO_7 HO_8 BK378 HB; intro HO_6 HO_7 HO_8 BK378 HB; (try clear hb); (try clear hb2); (try clear hk); (try clear hi); have p393 : 0 ≤ (x9_1 : Int) := oD; have q393 : x9_1 < (t386.length : Int) := oD; obtain ⟨ad393, e393, hx393_0⟩ := Kd.at_string (Kd.R_reads' HO_8.out).2.2 x9_1 p393 q393; obtain rfl : ad389 = ad393 := (by injection e393); replace p393 := eq_true p393; replace q393 := eq_true q393) | ((with_reducible refine gate_builtin (b := .append) (xs := #[.tmp 41, .tmp 46]) rfl ?_); at_builtin; refine Kd.R_append Kd.string (w0 := w) w.heap.size rfl (.tmp 41) (.tmp 46) 31 9 (.string ⟨#[]⟩) 16 rfl Tryd.underlying31 info9 rfl (by decide) (by omega) u7 x7_1 (rdOf ByteArray.empty t386 x9_1) [.string (rdOf ByteArray.empty t386 x9_1)] (fun k_ => some k_ ≠ (u6 : Value).ownBlock ∧ some k_ ≠ (.slice (some ad389) t386.length co27 : Value).ownBlock) (fun _ => False) rfl rfl ?aP (fun _ hk => hk.elim) ?aF ?aO ?aB ?aS ?aL ?_; (case aP => exact rfl); (case aB => exact (tB HB)); (case aF => exact (fun k_ hk => ⟨Kd.fresh' (Kd.R_lt (dR HO_6)) k_ hk, Kd.fresh' (Kd.R_lt (dR HO_8)) k_ hk⟩)); (case aO => exact (dR HO_7)); (case aS => exact (tS HB)); (case aL => have := LMc23.out; omega); intro v395 w32 ho hb hg hat; rw [← Ny394.out] at ho; have n0_ := Aside0.mk (Kd.R_after (ok := (fun k_ => some k_ ≠ (.slice (some ad389) t386.length co27 : Value).ownBlock)) (dR HO_6) hg hat); have n1_ := Aside0.mk (Kd.R_after (ok := (fun k_ => some k_ ≠ (u6 : Value).ownBlock)) (dR HO_8) hg hat); have n2_ := Aside0.mk (blk_grown (tK BK378) hg (Kd.R_ne HO_7.out BK378.out (by decide))); have n3_ := Aside0.mk (hb); have n4_ := Aside0.mk (ho); revert n0_ n1_ n2_ n3_ n4_; clear HO_6 HO_8 BK378 HB HO_7; intro HO_6 HO_8 BK378 HB HO396; clear ho hb hg hat; obtain ⟨Ao33, co33, eo33⟩ := Kd.R_slice HO396.out; subst eo33) | ((with_reducible refine gate_callee (f := 26) rfl ?_); refine goesL_ (some 51) rfl rfl Tryd.func26 (by kernel_rfl) rfl #[.slice Ao33 y394.length co33] rfl Gc2 ?_; (with_reducible refine (pentaglotref42_join.calls k1 _ _ y394 t397 _ ?s1 ?s2 A25.out).mono ?_); (case s1 => repeat (first | exact (Kd.R_reads' HO396.out).2.2 | (with_reducible refine Kd.C_alloc ?_ _) | (with_reducible refine Kd.C_drewN ?_ _) | (with_reducible refine Kd.C_drew ?_))); (case s2 => exact (Kd.R_reads' HO396.out).2.1); rintro e w' ⟨rfl, ⟨nd, rfl⟩⟩; refine ⟨_, rfl, ?_⟩) | ((with_reducible refine gate_builtin (b := .append) (xs := #[.tmp 49, .tmp 52]) rfl ?_); at_builtin; refine Kd.R_append Kd.string (w0 := w) w.heap.size rfl (.tmp 49) (.tmp 52) 31 9 (.string ⟨#[]⟩) 16 rfl Tryd.underlying31 info9 rfl (by decide) (by omega) u6 x6_1 t397 [.string t397] (fun k_ => some k_ ≠ (.slice (some ad389) t386.length co27 : Value).ownBlock ∧ some k_ ≠ (.slice Ao33 y394.length co33 : Value).ownBlock) (fun _ => False) rfl rfl ?aP (fun _ hk => hk.elim) ?aF ?aO ?aB ?aS ?aL ?_; (case aP => exact rfl); (case aB => exact (tB HB)); (case aF => exact (fun k_ hk => ⟨Kd.fresh' (Kd.R_lt (dR HO_8)) k_ hk, Kd.fresh' (Kd.R_lt (dR HO396)) k_ hk⟩)); (case aO => exact (dR HO_6)); (case aS => exact (tS HB)); (case aL => have := LMc26.out; omega); intro v399 w34 ho hb hg hat; rw [← Ny398.out] at ho; have n0_ := Aside0.mk (Kd.R_after (ok := (fun k_ => some k_ ≠ (.slice Ao33 y394.length co33 : Value).ownBlock)) (dR HO_8) hg hat); have n1_ := Aside0.mk (blk_grown (tK BK378) hg (Kd.R_ne HO_6.out BK378.out (by decide))); have n2_ := Aside0.mk (Kd.R_after (ok := (fun k_ => some k_ ≠ (.slice (some ad389) t386.length co27 : Value).ownBlock)) (dR HO396) hg hat); have n3_ := Aside0.mk (hb); have n4_ := Aside0.mk (ho); revert n0_ n1_ n2_ n3_ n4_; clear HO_8 BK378 HO396 HB HO_6; intro HO_8 BK378 HO396 HB HO400; clear ho hb hg hat) | ((with_reducible refine gate_dst (N := 54) rfl ?_); refine Kd.R_lit Kd.string _ 9 ?hg (N := 54) ?hd (xs := ([] : List ByteArray)) (inner := []) (ok := fun _ => True) (okp := fun _ => True) ?hr ?hp (fun _ hk => hk) trivial (Below.refl _ _) (Nat.le_refl _) (by simp) ?_; (case hd => rfl); (case hg => rfl); (case hr => exact Gc5); (case hp => exact (Reps.none _ _)); intro v402 w35 ho36 hb hg_ hnew_; clear hg_ hnew_; (first | rw [← Ny401.out] at ho36 | (simp only [Int.reduceToNat] at ho36; rw [← Ny401.out] at ho36)); have n0_ := Aside0.mk (Kd.R_elder' (dR HO_8) (Kd.R_base ho36) hb); have n1_ := Aside0.mk (Kd.R_elder' (dR HO396) (Kd.R_base ho36) hb); have n2_ := Aside0.mk (Kd.R_elder' (dR HO400) (Kd.R_base ho36) hb); have n3_ := Aside0.mk (Kd.R_lower (Kd.R_new' (Kd.R_new' (Kd.R_new' ho36 (Kd.R_lt (dR HO_8))) (Kd.R_lt (dR HO396))) (Kd.R_lt (dR HO400))) (tS HB)); have n4_ := Aside0.mk (blk_below (tK BK378) hb); have n5_ := Aside0.mk (below_step (tB HB) hb); revert n0_ n1_ n2_ n3_ n4_ n5_; clear HO_8 HO396 HO400 BK378 HB; intro HO_8 HO396 HO400 HO403 BK378 HB; clear hb ho36))
     go_roundg k1
     case measure => have := HK1.out; omega
     case rel => exact ⟨(y398), (y401), (wrap64 (x9_1 + 1)), tV1, H', ⟨by have := HK1.out; omega⟩, ⟨dR HO400⟩, ⟨dR HO403⟩, ⟨dR HO_8⟩, ⟨tK BK378⟩, ⟨tB HB⟩⟩)
  | (have mk_ := mk1_
     generalize wr.drew = w38 at HO_6 HO_7 HO_8 BK378 HB hx389_0 hHeld ⊢
     refine pT 1 30 ?_
     refine pT 2 31 ?_
     refine pT 3 32 ?_
     refine take_ (i := 0) (N := some 29) (v := ?_) (a' := ?_) #[true, true, true, true, false, false, false, false, false, false, false] rfl rfl (take_ofW HT_.out HW_.out (by kernel_rfl)) (fun _ _ _ h => h) (Or.inl ⟨by rfl, ?_⟩) hHeld ?_ ?_
     rotate_left
     ·
      exact LPrF9x1
     rotate_left
     ·
      exact GpR
     refine take_ (i := 4) (N := some 33) (v := ?_) (a' := ?_) #[true, true, true, true, true, false, false, false, false, false, false] rfl rfl (take_ofW HT_.out HW_.out (by kernel_rfl)) (fun _ _ _ h => h) (Or.inl ⟨by rfl, ?_⟩) hHeld ?_ ?_
     rotate_left
     ·
      exact LPrF9x1
     rotate_left
     ·
      exact GpR
     refine one_ (i := 5) (N := some 34) #[true, true, true, true, true, true, false, false, false, false, false] rfl rfl (one_of HT_.out (by kernel_rfl)) (by decide) (fun K hK => ?_)
     refine goes_ Tryd.func24 (by kernel_rfl) rfl #[.agg _, .string (rdOf ByteArray.empty t386 x9_1)] (by rfl) rfl rfl Gc2 ?_
     with_reducible refine (pentaglotref42_stopped.calls a_0 a_1 _ _ l_2 _ _ l_3 _ _ l_4 _ _ l_5 _ _ l_6 a_7 a_8 _ _ l_9 a_a _ _ l_b _ _ l_c a_d a_e a_f a_g a_h a_i a_j _ _ l_k _ _ l_l _ _ l_m _ _ l_n _ _ l_o a_p _ _ l_q _ _ l_r _ _ l_s a_t (rdOf ByteArray.empty t386 x9_1) t390 false _ (tC HR_2 HB) HC_2.out (tC HR_3 HB) HC_3.out (tC HR_4 HB) HC_4.out (tC HR_5 HB) HC_5.out (tC HR_6 HB) HC_6.out (tC HR_9 HB) HC_9.out (tC HR_b HB) HC_b.out (tC HR_c HB) HC_c.out (tC HR_k HB) HC_k.out (tC HR_l HB) HC_l.out (tC HR_m HB) HC_m.out (tC HR_n HB) HC_n.out (tC HR_o HB) HC_o.out (tC HR_q HB) HC_q.out (tC HR_r HB) HC_r.out (tC HR_s HB) HC_s.out A20.out).mono ?_
     rintro e w39 ⟨rfl, hb⟩
     have HS30_ := (hb.cell (World.block_lt_of_cell? _ _ (hHeld.2))).trans (hHeld.2)
     refine ⟨_, rfl, ?_⟩
     have n0_ := Aside0.mk (Kd.R_below (dR HO_6) hb)
     have n1_ := Aside0.mk (Kd.R_below (dR HO_7) hb)
     have n2_ := Aside0.mk (Kd.R_below (dR HO_8) hb)
     have n3_ := Aside0.mk (blk_below (tK BK378) hb)
     have n4_ := Aside0.mk (below_step (tB HB) hb)
     revert n0_ n1_ n2_ n3_ n4_
     clear HO_6 HO_7 HO_8 BK378 HB
     intro HO_6 HO_7 HO_8 BK378 HB
     (try clear hb); (try clear hk)
     refine hK.out _ _ ⟨BK378.out, HS30_⟩ (fun hHeld => ?_)
     clear hK K
     refine nR 34 ?_
     refine pT 6 28 ?_
     refine pT 7 35 ?_
     refine pT 8 36 ?_
     refine pT 9 10 ?_
     refine pT 10 11 ?_
     refine done_ (done_of HT_.out (by kernel_rfl)) ?_
     try go_wp2_with (first | ((with_reducible refine gate_load (t := 41) (p := 2) rfl ?_); (try (refine gate_guard (by rfl) ?_; dsimp only)); refine wpList_load_row rfl 41 (.tmp 2) rfl gb378 rfl 41 _ (0, 0) _ (tK BK378) Tryd.underlying41 rfl (by kernel_rfl) ?_) | ((with_reducible refine gate_callee (f := 25) rfl ?_); refine goesL_ (some 39) rfl rfl Tryd.func25 (by kernel_rfl) rfl #[.agg _, .string t390] rfl Gc2 ?_; (with_reducible refine (pentaglotref42_Host.calls a_0 a_1 _ _ l_2 _ _ l_3 _ _ l_4 _ _ l_5 _ _ l_6 a_7 a_8 _ _ l_9 a_a _ _ l_b _ _ l_c a_d a_e a_f a_g a_h a_i a_j _ _ l_k _ _ l_l _ _ l_m _ _ l_n _ _ l_o a_p _ _ l_q _ _ l_r _ _ l_s a_t t390 true _ (tC HR_2 HB) HC_2.out (tC HR_3 HB) HC_3.out (tC HR_4 HB) HC_4.out (tC HR_5 HB) HC_5.out (tC HR_6 HB) HC_6.out (tC HR_9 HB) HC_9.out (tC HR_b HB) HC_b.out (tC HR_c HB) HC_c.out (tC HR_k HB) HC_k.out (tC HR_l HB) HC_l.out (tC HR_m HB) HC_m.out (tC HR_n HB) HC_n.out (tC HR_o HB) HC_o.out (tC HR_q HB) HC_q.out (tC HR_r HB) HC_r.out (tC HR_s HB) HC_s.out A21.out).mono ?_); rintro e w41 ⟨rfl, hb⟩; refine ⟨_, rfl, ?_⟩; have n0_ := Aside0.mk (Kd.R_below (dR HO_6) hb); have n1_ := Aside0.mk (Kd.R_below (dR HO_7) hb); have n2_ := Aside0.mk (Kd.R_below (dR HO_8) hb); have n3_ := Aside0.mk (blk_below (tK BK378) hb); have n4_ := Aside0.mk (below_step (tB HB) hb); revert n0_ n1_ n2_ n3_ n4_; clear HO_6 HO_7 HO_8 BK378 HB; intro HO_6 HO_7 HO_8 BK378 HB; (try clear hb); (try clear hb2); (try clear hk); (try clear hi); have p393 : 0 ≤ (x9_1 : Int) := oD; have q393 : x9_1 < (t386.length : Int) := oD; obtain ⟨ad393, e393, hx393_0⟩ := Kd.at_string (Kd.R_reads' HO_8.out).2.2 x9_1 p393 q393; obtain rfl : ad389 = ad393 := (by injection e393); replace p393 := eq_true p393; replace q393 := eq_true q393) | ((with_reducible refine gate_builtin (b := .append) (xs := #[.tmp 41, .tmp 46]) rfl ?_); at_builtin; refine Kd.R_append Kd.string (w0 := w) w.heap.size rfl (.tmp 41) (.tmp 46) 31 9 (.string ⟨#[]⟩) 16 rfl Tryd.underlying31 info9 rfl (by decide) (by omega) u7 x7_1 (rdOf ByteArray.empty t386 x9_1) [.string (rdOf ByteArray.empty t386 x9_1)] (fun k_ => some k_ ≠ (u6 : Value).ownBlock ∧ some k_ ≠ (.slice (some ad389) t386.length co37 : Value).ownBlock) (fun _ => False) rfl rfl ?aP (fun _ hk => hk.elim) ?aF ?aO ?aB ?aS ?aL ?_; (case aP => exact rfl); (case aB => exact (tB HB)); (case aF => exact (fun k_ hk => ⟨Kd.fresh' (Kd.R_lt (dR HO_6)) k_ hk, Kd.fresh' (Kd.R_lt (dR HO_8)) k_ hk⟩)); (case aO => exact (dR HO_7)); (case aS => exact (tS HB)); (case aL => have := LMc23.out; omega); intro v395 w42 ho hb hg hat; rw [← Ny394.out] at ho; have n0_ := Aside0.mk (Kd.R_after (ok := (fun k_ => some k_ ≠ (.slice (some ad389) t386.length co37 : Value).ownBlock)) (dR HO_6) hg hat); have n1_ := Aside0.mk (Kd.R_after (ok := (fun k_ => some k_ ≠ (u6 : Value).ownBlock)) (dR HO_8) hg hat); have n2_ := Aside0.mk (blk_grown (tK BK378) hg (Kd.R_ne HO_7.out BK378.out (by decide))); have n3_ := Aside0.mk (hb); have n4_ := Aside0.mk (ho); revert n0_ n1_ n2_ n3_ n4_; clear HO_6 HO_8 BK378 HB HO_7; intro HO_6 HO_8 BK378 HB HO396; clear ho hb hg hat))
     go_roundg k1
     case measure => have := HK1.out; omega
     case rel => exact ⟨(x6_1), (y394), (wrap64 (x9_1 + 1)), tV1, H', ⟨by have := HK1.out; omega⟩, ⟨dR HO_6⟩, ⟨dR HO396⟩, ⟨dR HO_8⟩, ⟨tK BK378⟩, ⟨tB HB⟩⟩)
  | (have mk_ := mk2_
     generalize wr.drew = w44 at HO_6 HO_7 HO_8 BK378 HB hx389_0 hHeld ⊢
     refine pT 1 30 ?_
     refine pT 2 31 ?_
     refine pT 3 32 ?_
     refine take_ (i := 0) (N := some 29) (v := ?_) (a' := ?_) #[true, true, true, true, false, false, false, false, false, false, false] rfl rfl (take_ofW HT_.out HW_.out (by kernel_rfl)) (fun _ _ _ h => h) (Or.inl ⟨by rfl, ?_⟩) hHeld ?_ ?_
     rotate_left
     ·
      exact LPrF9x1
     rotate_left
     ·
      exact GpR
     refine take_ (i := 4) (N := some 33) (v := ?_) (a' := ?_) #[true, true, true, true, true, false, false, false, false, false, false] rfl rfl (take_ofW HT_.out HW_.out (by kernel_rfl)) (fun _ _ _ h => h) (Or.inl ⟨by rfl, ?_⟩) hHeld ?_ ?_
     rotate_left
     ·
      exact LPrF9x1
     rotate_left
     ·
      exact GpR
     refine one_ (i := 5) (N := some 34) #[true, true, true, true, true, true, false, false, false, false, false] rfl rfl (one_of HT_.out (by kernel_rfl)) (by decide) (fun K hK => ?_)
     refine goes_ Tryd.func24 (by kernel_rfl) rfl #[.agg _, .string (rdOf ByteArray.empty t386 x9_1)] (by rfl) rfl rfl Gc2 ?_
     with_reducible refine (pentaglotref42_stopped.calls a_0 a_1 _ _ l_2 _ _ l_3 _ _ l_4 _ _ l_5 _ _ l_6 a_7 a_8 _ _ l_9 a_a _ _ l_b _ _ l_c a_d a_e a_f a_g a_h a_i a_j _ _ l_k _ _ l_l _ _ l_m _ _ l_n _ _ l_o a_p _ _ l_q _ _ l_r _ _ l_s a_t (rdOf ByteArray.empty t386 x9_1) t390 t391 _ (tC HR_2 HB) HC_2.out (tC HR_3 HB) HC_3.out (tC HR_4 HB) HC_4.out (tC HR_5 HB) HC_5.out (tC HR_6 HB) HC_6.out (tC HR_9 HB) HC_9.out (tC HR_b HB) HC_b.out (tC HR_c HB) HC_c.out (tC HR_k HB) HC_k.out (tC HR_l HB) HC_l.out (tC HR_m HB) HC_m.out (tC HR_n HB) HC_n.out (tC HR_o HB) HC_o.out (tC HR_q HB) HC_q.out (tC HR_r HB) HC_r.out (tC HR_s HB) HC_s.out A20.out).mono ?_
     rintro e w45 ⟨rfl, hb⟩
     have HS30_ := (hb.cell (World.block_lt_of_cell? _ _ (hHeld.2))).trans (hHeld.2)
     refine ⟨_, rfl, ?_⟩
     have n0_ := Aside0.mk (Kd.R_below (dR HO_6) hb)
     have n1_ := Aside0.mk (Kd.R_below (dR HO_7) hb)
     have n2_ := Aside0.mk (Kd.R_below (dR HO_8) hb)
     have n3_ := Aside0.mk (blk_below (tK BK378) hb)
     have n4_ := Aside0.mk (below_step (tB HB) hb)
     revert n0_ n1_ n2_ n3_ n4_
     clear HO_6 HO_7 HO_8 BK378 HB
     intro HO_6 HO_7 HO_8 BK378 HB
     (try clear hb); (try clear hk)
     refine hK.out _ _ ⟨BK378.out, HS30_⟩ (fun hHeld => ?_)
     clear hK K
     refine nR 34 ?_
     refine pT 6 28 ?_
     refine pT 7 35 ?_
     refine pT 8 36 ?_
     refine pT 9 10 ?_
     refine pT 10 11 ?_
     refine done_ (done_of HT_.out (by kernel_rfl)) ?_
     try go_wp2_with (first | ((with_reducible refine gate_load (t := 41) (p := 2) rfl ?_); (try (refine gate_guard (by rfl) ?_; dsimp only)); refine wpList_load_row rfl 41 (.tmp 2) rfl gb378 rfl 41 _ (0, 0) _ (tK BK378) Tryd.underlying41 rfl (by kernel_rfl) ?_) | ((with_reducible refine gate_callee (f := 25) rfl ?_); refine goesL_ (some 39) rfl rfl Tryd.func25 (by kernel_rfl) rfl #[.agg _, .string t390] rfl Gc2 ?_; (with_reducible refine (pentaglotref42_Host.calls a_0 a_1 _ _ l_2 _ _ l_3 _ _ l_4 _ _ l_5 _ _ l_6 a_7 a_8 _ _ l_9 a_a _ _ l_b _ _ l_c a_d a_e a_f a_g a_h a_i a_j _ _ l_k _ _ l_l _ _ l_m _ _ l_n _ _ l_o a_p _ _ l_q _ _ l_r _ _ l_s a_t t390 false _ (tC HR_2 HB) HC_2.out (tC HR_3 HB) HC_3.out (tC HR_4 HB) HC_4.out (tC HR_5 HB) HC_5.out (tC HR_6 HB) HC_6.out (tC HR_9 HB) HC_9.out (tC HR_b HB) HC_b.out (tC HR_c HB) HC_c.out (tC HR_k HB) HC_k.out (tC HR_l HB) HC_l.out (tC HR_m HB) HC_m.out (tC HR_n HB) HC_n.out (tC HR_o HB) HC_o.out (tC HR_q HB) HC_q.out (tC HR_r HB) HC_r.out (tC HR_s HB) HC_s.out A21.out).mono ?_); rintro e w47 ⟨rfl, hb⟩; refine ⟨_, rfl, ?_⟩; have n0_ := Aside0.mk (Kd.R_below (dR HO_6) hb); have n1_ := Aside0.mk (Kd.R_below (dR HO_7) hb); have n2_ := Aside0.mk (Kd.R_below (dR HO_8) hb); have n3_ := Aside0.mk (blk_below (tK BK378) hb); have n4_ := Aside0.mk (below_step (tB HB) hb); revert n0_ n1_ n2_ n3_ n4_; clear HO_6 HO_7 HO_8 BK378 HB; intro HO_6 HO_7 HO_8 BK378 HB; (try clear hb); (try clear hb2); (try clear hk); (try clear hi)))
     go_ret2
     exact LPrF9x2)) : p := h
set_option maxHeartbeats 8000000 in
set_option maxRecDepth 100000 in
theorem pentaglotref42_Sentences.calls (k : Nat) (a_0 : ByteArray) (a_1 : Bool) (A_2 : Option Addr) (c_2 : Nat) (l_2 : List (S80)) (A_3 : Option Addr) (c_3 : Nat) (l_3 : List (S85)) (A_4 : Option Addr) (c_4 : Nat) (l_4 : List (S180)) (A_5 : Option Addr) (c_5 : Nat) (l_5 : List (S183)) (A_6 : Option Addr) (c_6 : Nat) (l_6 : List (List Int)) (a_7 : Int) (a_8 : Int) (A_9 : Option Addr) (c_9 : Nat) (l_9 : List (S85)) (a_a : Int) (A_b : Option Addr) (c_b : Nat) (l_b : List ByteArray) (A_c : Option Addr) (c_c : Nat) (l_c : List ByteArray) (a_d : Bool) (a_e : ByteArray) (a_f : Int) (a_g : ByteArray) (a_h : Bool) (a_i : Int) (a_j : Int) (A_k : Option Addr) (c_k : Nat) (l_k : List (S186)) (A_l : Option Addr) (c_l : Nat) (l_l : List (S186)) (A_m : Option Addr) (c_m : Nat) (l_m : List ByteArray) (A_n : Option Addr) (c_n : Nat) (l_n : List ByteArray) (A_o : Option Addr) (c_o : Nat) (l_o : List ByteArray) (a_p : Bool) (A_q : Option Addr) (c_q : Nat) (l_q : List (S188)) (A_r : Option Addr) (c_r : Nat) (l_r : List (S190)) (A_s : Option Addr) (c_s : Nat) (l_s : List (S194)) (a_t : ByteArray) (a1 : ByteArray) (r1 : List ByteArray) (r2 : Int) (w : World) (hT : Tabs w) (hr_2 : Kd.C k80 w A_2 l_2.length l_2) (hc_2 : l_2.length ≤ c_2) (hr_3 : Kd.C k85 w A_3 l_3.length l_3) (hc_3 : l_3.length ≤ c_3) (hr_4 : Kd.C k180 w A_4 l_4.length l_4) (hc_4 : l_4.length ≤ c_4) (hr_5 : Kd.C k183 w A_5 l_5.length l_5) (hc_5 : l_5.length ≤ c_5) (hr_6 : Kd.C (Kd.slice 78 (Kd.int .u32)) w A_6 l_6.length l_6) (hc_6 : l_6.length ≤ c_6) (hr_9 : Kd.C k85 w A_9 l_9.length l_9) (hc_9 : l_9.length ≤ c_9) (hr_b : Kd.C Kd.string w A_b l_b.length l_b) (hc_b : l_b.length ≤ c_b) (hr_c : Kd.C Kd.string w A_c l_c.length l_c) (hc_c : l_c.length ≤ c_c) (hr_k : Kd.C k186 w A_k l_k.length l_k) (hc_k : l_k.length ≤ c_k) (hr_l : Kd.C k186 w A_l l_l.length l_l) (hc_l : l_l.length ≤ c_l) (hr_m : Kd.C Kd.string w A_m l_m.length l_m) (hc_m : l_m.length ≤ c_m) (hr_n : Kd.C Kd.string w A_n l_n.length l_n) (hc_n : l_n.length ≤ c_n) (hr_o : Kd.C Kd.string w A_o l_o.length l_o) (hc_o : l_o.length ≤ c_o) (hr_q : Kd.C k188 w A_q l_q.length l_q) (hc_q : l_q.length ≤ c_q) (hr_r : Kd.C k190 w A_r l_r.length l_r) (hc_r : l_r.length ≤ c_r) (hr_s : Kd.C k194 w A_s l_s.length l_s) (hc_s : l_s.length ≤ c_s) (h : pentaglotref42_Sentences.f k a_0 a_1 l_2 l_3 l_4 l_5 l_6 a_7 a_8 l_9 a_a l_b l_c a_d a_e a_f a_g a_h a_i a_j l_k l_l l_m l_n l_o a_p l_q l_r l_s a_t a1 = some (r1, r2)) :
 Calls Tryd.prog 9 #[.agg #[.string a_0, .bool a_1, .slice A_2 l_2.length c_2, .slice A_3 l_3.length c_3, .slice A_4 l_4.length c_4, .slice A_5 l_5.length c_5, .slice A_6 l_6.length c_6, .int .i64 a_7, .int .i64 a_8, .slice A_9 l_9.length c_9, .int .i64 a_a, .slice A_b l_b.length c_b, .slice A_c l_c.length c_c, .bool a_d, .string a_e, .int .i64 a_f, .string a_g, .bool a_h, .int .i64 a_i, .int .i64 a_j, .slice A_k l_k.length c_k, .slice A_l l_l.length c_l, .slice A_m l_m.length c_m, .slice A_n l_n.length c_n, .slice A_o l_o.length c_o, .bool a_p, .slice A_q l_q.length c_q, .slice A_r l_r.length c_r, .slice A_s l_s.length c_s, .string a_t], .string a1] w fun e w' => ∃ v0_ : Value, e = .returned (.tuple #[v0_, .int .i64 r2]) ∧ Kd.R Kd.string 9 w' w.heap.size (fun _ => True) v0_ r1 ∧ Below w.heap.size w w' := by
 have HT := Aside0.mk hT
 clear hT
 have hu41 := Tryd.underlying41
 have HR_2 := Aside0.mk hr_2
 have HC_2 := Aside0.mk hc_2
 clear hr_2 hc_2
 have HR_3 := Aside0.mk hr_3
 have HC_3 := Aside0.mk hc_3
 clear hr_3 hc_3
 have HR_4 := Aside0.mk hr_4
 have HC_4 := Aside0.mk hc_4
 clear hr_4 hc_4
 have HR_5 := Aside0.mk hr_5
 have HC_5 := Aside0.mk hc_5
 clear hr_5 hc_5
 have HR_6 := Aside0.mk hr_6
 have HC_6 := Aside0.mk hc_6
 clear hr_6 hc_6
 have HR_9 := Aside0.mk hr_9
 have HC_9 := Aside0.mk hc_9
 clear hr_9 hc_9
 have HR_b := Aside0.mk hr_b
 have HC_b := Aside0.mk hc_b
 clear hr_b hc_b
 have HR_c := Aside0.mk hr_c
 have HC_c := Aside0.mk hc_c
 clear hr_c hc_c
 have HR_k := Aside0.mk hr_k
 have HC_k := Aside0.mk hc_k
 clear hr_k hc_k
 have HR_l := Aside0.mk hr_l
 have HC_l := Aside0.mk hc_l
 clear hr_l hc_l
 have HR_m := Aside0.mk hr_m
 have HC_m := Aside0.mk hc_m
 clear hr_m hc_m
 have HR_n := Aside0.mk hr_n
 have HC_n := Aside0.mk hc_n
 clear hr_n hc_n
 have HR_o := Aside0.mk hr_o
 have HC_o := Aside0.mk hc_o
 clear hr_o hc_o
 have HR_q := Aside0.mk hr_q
 have HC_q := Aside0.mk hc_q
 clear hr_q hc_q
 have HR_r := Aside0.mk hr_r
 have HC_r := Aside0.mk hc_r
 clear hr_r hc_r
 have HR_s := Aside0.mk hr_s
 have HC_s := Aside0.mk hc_s
 clear hr_s hc_s
 have HB := Aside0.mk (Below.refl w.heap.size w)
 have H : ((pentaglotref42_Valid.f a_0 a_1 l_2 l_3 l_4 l_5 l_6 a_7 a_8 l_9 a_a l_b l_c a_d a_e a_f a_g a_h a_i a_j l_k l_l l_m l_n l_o a_p l_q l_r l_s a_t).bind fun t379 => (if t379 = true then (if (a1.size : Int) > 4096 then (some (([] : List ByteArray), 2)) else ((pentaglotref42_split.f k a1).bind fun t386 => (pentaglotref42_Sentences.l0 k (([] : List ByteArray)) (([] : List ByteArray)) t386 0 a_0 a_1 l_2 l_3 l_4 l_5 l_6 a_7 a_8 l_9 a_a l_b l_c a_d a_e a_f a_g a_h a_i a_j l_k l_l l_m l_n l_o a_p l_q l_r l_s a_t))) else (some (([] : List ByteArray), 1)))) = some (r1, r2) := h
 clear h
 replace H := bI H; obtain ⟨t379, A3, H⟩ := H; (try dsimp only at H)
 replace H := iT H; obtain ⟨rfl, H⟩ | ⟨rfl, H⟩ := H
 ·
  replace H := iF H; obtain ⟨c5, H⟩ | ⟨c5, H⟩ := H
  ·
   have c5b0 : decide (4096 < (a1.size : Int)) = true := decide_eq_true c5
   have c5b1 : decide (4096 < a1.size) = true := decide_eq_true (by omega)
   clear c5
   simp only [Option.some.injEq, Prod.mk.injEq] at H
   obtain ⟨rfl, rfl⟩ := H
   have ma2_ := trivial
   exact LPrF9a1
  ·
   have c5b0 : decide (4096 < (a1.size : Int)) = false := decide_eq_false c5
   have c5b1 : decide (4096 < a1.size) = false := decide_eq_false (by omega)
   clear c5
   obtain ⟨y380, hy380⟩ : ∃ y_ : List ByteArray, y_ = (([] : List ByteArray)) := ⟨_, rfl⟩
   replace H : ((pentaglotref42_split.f k a1).bind fun t386 => (pentaglotref42_Sentences.l0 k y380 (([] : List ByteArray)) t386 0 a_0 a_1 l_2 l_3 l_4 l_5 l_6 a_7 a_8 l_9 a_a l_b l_c a_d a_e a_f a_g a_h a_i a_j l_k l_l l_m l_n l_o a_p l_q l_r l_s a_t)) = some (r1, r2) := by first | (rw [hy380]; with_reducible exact H) | (have H2_ := (Option.bind_some _ _).symm.trans H; rw [hy380]; with_reducible exact H2_) | (have H2_ := (Option.bind_some _ _).symm.trans H; with_reducible exact H2_) | with_reducible exact H | (rw [hy380]; exact H) | exact H
   have Ny380 := Aside0.mk hy380
   clear hy380
   obtain ⟨y383, hy383⟩ : ∃ y_ : List ByteArray, y_ = (([] : List ByteArray)) := ⟨_, rfl⟩
   replace H : ((pentaglotref42_split.f k a1).bind fun t386 => (pentaglotref42_Sentences.l0 k y380 y383 t386 0 a_0 a_1 l_2 l_3 l_4 l_5 l_6 a_7 a_8 l_9 a_a l_b l_c a_d a_e a_f a_g a_h a_i a_j l_k l_l l_m l_n l_o a_p l_q l_r l_s a_t)) = some (r1, r2) := by first | (rw [hy383]; with_reducible exact H) | (have H2_ := (Option.bind_some _ _).symm.trans H; rw [hy383]; with_reducible exact H2_) | (have H2_ := (Option.bind_some _ _).symm.trans H; with_reducible exact H2_) | with_reducible exact H | (rw [hy383]; exact H) | exact H
   have Ny383 := Aside0.mk hy383
   clear hy383
   replace H := bI H; obtain ⟨t386, A9, H⟩ := H; (try dsimp only at H)
   have H' := Aside0.mk H
   clear H
   go_enter Tryd.func9, Tryd.ntmps9
   go_wp2_with (first | ((with_reducible refine gate_load (t := 41) (p := 2) rfl ?_); (try (refine gate_guard (by rfl) ?_; dsimp only)); refine wpList_load_row rfl 41 (.tmp 2) rfl gb378 rfl 41 _ (0, 0) _ (tK BK378) Tryd.underlying41 rfl (by kernel_rfl) ?_) | ((with_reducible refine gate_dst (N := 2) rfl ?_); refine box_event ?hg (N := 2) ?hd (cs := ?cs) (t := 41) ?hr ?_; (case hd => rfl); (case hg => rfl); (case hr => exact Gc5); intro gb378 hg w10 hbox hb; have n0_ := Aside0.mk (below_step (tB HB) hb); have n1_ := Aside0.mk (hbox); have n2_ := tZ hg (tS HB); have n3_ := tZ hg (tS HB); revert n0_ n1_ n2_ n3_; clear HB; intro HB BK378 GW378 GE378; clear hb hbox hg) | ((with_reducible refine gate_callee (f := 22) rfl ?_); refine goesL_ (some 13) rfl rfl Tryd.func22 (by kernel_rfl) rfl #[.agg _] rfl Gc2 ?_; (with_reducible refine (pentaglotref42_Valid.calls a_0 a_1 _ _ l_2 _ _ l_3 _ _ l_4 _ _ l_5 _ _ l_6 a_7 a_8 _ _ l_9 a_a _ _ l_b _ _ l_c a_d a_e a_f a_g a_h a_i a_j _ _ l_k _ _ l_l _ _ l_m _ _ l_n _ _ l_o a_p _ _ l_q _ _ l_r _ _ l_s a_t true _ ?sT (tC HR_2 HB) HC_2.out (tC HR_3 HB) HC_3.out (tC HR_4 HB) HC_4.out (tC HR_5 HB) HC_5.out (tC HR_6 HB) HC_6.out (tC HR_9 HB) HC_9.out (tC HR_b HB) HC_b.out (tC HR_c HB) HC_c.out (tC HR_k HB) HC_k.out (tC HR_l HB) HC_l.out (tC HR_m HB) HC_m.out (tC HR_n HB) HC_n.out (tC HR_o HB) HC_o.out (tC HR_q HB) HC_q.out (tC HR_r HB) HC_r.out (tC HR_s HB) HC_s.out A3.out).mono ?_); (case sT => exact Gc1); rintro e w12 ⟨rfl, hb⟩; refine ⟨_, rfl, ?_⟩; have n0_ := Aside0.mk (blk_below (tK BK378) hb); have n1_ := Aside0.mk (below_step (tB HB) hb); revert n0_ n1_; clear BK378 HB; intro BK378 HB; (try clear hb); (try clear hb2); (try clear hk); (try clear hi)) | ((with_reducible refine gate_dst (N := 18) rfl ?_); refine Kd.R_lit Kd.string _ 9 ?hg (N := 18) ?hd (xs := ([] : List ByteArray)) (inner := []) (ok := fun _ => True) (okp := fun _ => True) ?hr ?hp (fun _ hk => hk) trivial (Below.refl _ _) (Nat.le_refl _) (by simp) ?_; (case hd => rfl); (case hg => rfl); (case hr => exact Gc5); (case hp => exact (Reps.none _ _)); intro v381 w13 ho14 hb hg_ hnew_; clear hg_ hnew_; (first | rw [← Ny380.out] at ho14 | (simp only [Int.reduceToNat] at ho14; rw [← Ny380.out] at ho14)); have n0_ := Aside0.mk (Kd.R_lower ho14 (tS HB)); have n1_ := Aside0.mk (blk_below (tK BK378) hb); have n2_ := Aside0.mk (below_step (tB HB) hb); revert n0_ n1_ n2_; clear BK378 HB; intro HO382 BK378 HB; clear hb ho14) | ((with_reducible refine gate_dst (N := 19) rfl ?_); refine Kd.R_lit Kd.string _ 9 ?hg (N := 19) ?hd (xs := ([] : List ByteArray)) (inner := []) (ok := fun _ => True) (okp := fun _ => True) ?hr ?hp (fun _ hk => hk) trivial (Below.refl _ _) (Nat.le_refl _) (by simp) ?_; (case hd => rfl); (case hg => rfl); (case hr => exact Gc5); (case hp => exact (Reps.none _ _)); intro v384 w15 ho16 hb hg_ hnew_; clear hg_ hnew_; (first | rw [← Ny383.out] at ho16 | (simp only [Int.reduceToNat] at ho16; rw [← Ny383.out] at ho16)); have n0_ := Aside0.mk (Kd.R_elder' (dR HO382) (Kd.R_base ho16) hb); have n1_ := Aside0.mk (Kd.R_lower (Kd.R_new' ho16 (Kd.R_lt (dR HO382))) (tS HB)); have n2_ := Aside0.mk (blk_below (tK BK378) hb); have n3_ := Aside0.mk (below_step (tB HB) hb); revert n0_ n1_ n2_ n3_; clear HO382 BK378 HB; intro HO382 HO385 BK378 HB; clear hb ho16) | ((with_reducible refine gate_callee (f := 23) rfl ?_); refine goesL_ (some 21) rfl rfl Tryd.func23 (by kernel_rfl) rfl #[.string a1] rfl Gc2 ?_; (with_reducible refine (pentaglotref42_split.calls k a1 t386 _ A9.out).mono ?_); rintro e w17 ⟨v387, rfl, ho0, hb⟩; refine ⟨_, rfl, ?_⟩; have n0_ := Aside0.mk (Kd.R_elder' (dR HO382) (Kd.R_base ho0) hb); have n1_ := Aside0.mk (Kd.R_elder' (dR HO385) (Kd.R_base ho0) hb); have n2_ := Aside0.mk (Kd.R_lower (Kd.R_new' (Kd.R_new' ho0 (Kd.R_lt (dR HO382))) (Kd.R_lt (dR HO385))) (tS HB)); have n3_ := Aside0.mk (blk_below (tK BK378) hb); have n4_ := Aside0.mk (below_step (tB HB) hb); revert n0_ n1_ n2_ n3_ n4_; clear HO382 HO385 BK378 HB; intro HO382 HO385 HO388 BK378 HB; (try clear hb); (try clear hb2); (try clear hk); (try clear hi); (try clear ho0)))
   go_loopg [6, 7, 9] k (fun kq v6 v7 v9 w' => ∃ (x6_1 : List ByteArray) (x7_1 : List ByteArray) (x9_1 : Int), v9 = .int .i64 x9_1 ∧ Aside0 (pentaglotref42_Sentences.l0 kq x6_1 x7_1 t386 x9_1 a_0 a_1 l_2 l_3 l_4 l_5 l_6 a_7 a_8 l_9 a_a l_b l_c a_d a_e a_f a_g a_h a_i a_j l_k l_l l_m l_n l_o a_p l_q l_r l_s a_t = some (r1, r2)) ∧ Aside0 (kq ≤ k) ∧ Aside0 (Kd.R Kd.string 9 w' w.heap.size (fun k_ => some k_ ≠ (v7 : Value).ownBlock ∧ some k_ ≠ (v387 : Value).ownBlock) v6 x6_1) ∧ Aside0 (Kd.R Kd.string 9 w' w.heap.size (fun k_ => some k_ ≠ (v6 : Value).ownBlock ∧ some k_ ≠ (v387 : Value).ownBlock) v7 x7_1) ∧ Aside0 (Kd.R Kd.string 9 w' w.heap.size (fun k_ => some k_ ≠ (v6 : Value).ownBlock ∧ some k_ ≠ (v7 : Value).ownBlock) v387 t386) ∧ Aside0 (w'.heap[gb378]? = some (.cells #[.string a_0, .bool a_1, (.slice A_2 l_2.length c_2), (.slice A_3 l_3.length c_3), (.slice A_4 l_4.length c_4), (.slice A_5 l_5.length c_5), (.slice A_6 l_6.length c_6), .int .i64 a_7, .int .i64 a_8, (.slice A_9 l_9.length c_9), .int .i64 a_a, (.slice A_b l_b.length c_b), (.slice A_c l_c.length c_c), .bool a_d, .string a_e, .int .i64 a_f, .string a_g, .bool a_h, .int .i64 a_i, .int .i64 a_j, (.slice A_k l_k.length c_k), (.slice A_l l_l.length c_l), (.slice A_m l_m.length c_m), (.slice A_n l_n.length c_n), (.slice A_o l_o.length c_o), .bool a_p, (.slice A_q l_q.length c_q), (.slice A_r l_r.length c_r), (.slice A_s l_s.length c_s), .string a_t] 41 (0, 0))) ∧ Aside0 (Below w.heap.size w w'))
   case atStart => exact ⟨(y380), (y383), (0), tV1, H', ⟨Nat.le_refl _⟩, ⟨dR HO382⟩, ⟨dR HO385⟩, ⟨dR HO388⟩, ⟨tK BK378⟩, ⟨tB HB⟩⟩
   case round =>
    clear H'; (try clear c4); (try clear c5); (try clear c5b0); (try clear c5b1)
    obtain ⟨x6_1, x7_1, x9_1, rfl, HA, HK1, HO_6, HO_7, HO_8, BK378, HB⟩ := hrel
    cases gk with
    | zero => exact absurd HA.out (by simp [pentaglotref42_Sentences.l0])
    | succ k1 =>
     have H := HA.out
     clear HA
     simp only [pentaglotref42_Sentences.l0] at H
     replace H := iF H; obtain ⟨c18, H⟩ | ⟨c18, H⟩ := H
     ·
      have c18b0 : decide (x9_1 < (t386.length : Int)) = true := decide_eq_true c18
      clear c18
      replace H := iF H; obtain ⟨c19, H⟩ | ⟨c19, H⟩ := H
      ·
       have c19b0 : decide (0 ≤ x9_1) = true := decide_eq_true c19
       clear c19
       replace H := bI H; obtain ⟨⟨t390, t391⟩, A20, H⟩ := H; (try dsimp only at H)
       replace H := bI H; obtain ⟨t392, A21, H⟩ := H; (try dsimp only at H)
       replace H := iT H; obtain ⟨rfl, H⟩ | ⟨rfl, H⟩ := H
       ·
        replace H := iF H; obtain ⟨c23, H⟩ | ⟨c23, H⟩ := H
        ·
         have LMc23 := Aside0.mk c23
         clear c23
         obtain ⟨y394, hy394⟩ : ∃ y_ : List ByteArray, y_ = (x7_1 ++ [rdOf ByteArray.empty t386 x9_1]) := ⟨_, rfl⟩
         replace H : (if t391 = true then ((pentaglotref42_join.f k1 y394).bind fun t397 => (if x6_1.length < 8796093022208 then (pentaglotref42_Sentences.l0 k1 (x6_1 ++ [t397]) (([] : List ByteArray)) t386 (wrap64 (x9_1 + 1)) a_0 a_1 l_2 l_3 l_4 l_5 l_6 a_7 a_8 l_9 a_a l_b l_c a_d a_e a_f a_g a_h a_i a_j l_k l_l l_m l_n l_o a_p l_q l_r l_s a_t) else (none))) else (pentaglotref42_Sentences.l0 k1 x6_1 y394 t386 (wrap64 (x9_1 + 1)) a_0 a_1 l_2 l_3 l_4 l_5 l_6 a_7 a_8 l_9 a_a l_b l_c a_d a_e a_f a_g a_h a_i a_j l_k l_l l_m l_n l_o a_p l_q l_r l_s a_t)) = some (r1, r2) := by first | (rw [hy394]; with_reducible exact H) | (have H2_ := (Option.bind_some _ _).symm.trans H; rw [hy394]; with_reducible exact H2_) | (have H2_ := (Option.bind_some _ _).symm.trans H; with_reducible exact H2_) | with_reducible exact H | (rw [hy394]; exact H) | exact H
         have Ny394 := Aside0.mk hy394
         clear hy394
         replace H := iT H; obtain ⟨rfl, H⟩ | ⟨rfl, H⟩ := H
         ·
          replace H := bI H; obtain ⟨t397, A25, H⟩ := H; (try dsimp only at H)
          replace H := iF H; obtain ⟨c26, H⟩ | ⟨c26, H⟩ := H
          ·
           have LMc26 := Aside0.mk c26
           clear c26
           obtain ⟨y398, hy398⟩ : ∃ y_ : List ByteArray, y_ = (x6_1 ++ [t397]) := ⟨_, rfl⟩
           replace H : (pentaglotref42_Sentences.l0 k1 y398 (([] : List ByteArray)) t386 (wrap64 (x9_1 + 1)) a_0 a_1 l_2 l_3 l_4 l_5 l_6 a_7 a_8 l_9 a_a l_b l_c a_d a_e a_f a_g a_h a_i a_j l_k l_l l_m l_n l_o a_p l_q l_r l_s a_t) = some (r1, r2) := by first | (rw [hy398]; with_reducible exact H) | (have H2_ := (Option.bind_some _ _).symm.trans H; rw [hy398]; with_reducible exact H2_) | (have H2_ := (Option.bind_some _ _).symm.trans H; with_reducible exact H2_) | with_reducible exact H | (rw [hy398]; exact H) | exact H
           have Ny398 := Aside0.mk hy398
           clear hy398
           obtain ⟨y401, hy401⟩ : ∃ y_ : List ByteArray, y_ = (([] : List ByteArray)) := ⟨_, rfl⟩
           replace H : (pentaglotref42_Sentences.l0 k1 y398 y401 t386 (wrap64 (x9_1 + 1)) a_0 a_1 l_2 l_3 l_4 l_5 l_6 a_7 a_8 l_9 a_a l_b l_c a_d a_e a_f a_g a_h a_i a_j l_k l_l l_m l_n l_o a_p l_q l_r l_s a_t) = some (r1, r2) := by first | (rw [hy401]; with_reducible exact H) | (have H2_ := (Option.bind_some _ _).symm.trans H; rw [hy401]; with_reducible exact H2_) | (have H2_ := (Option.bind_some _ _).symm.trans H; with_reducible exact H2_) | with_reducible exact H | (rw [hy401]; exact H) | exact H
           have Ny401 := Aside0.mk hy401
           clear hy401
           have H' := Aside0.mk H
           clear H
           obtain ⟨Ao27, co27, eo27⟩ := Kd.R_slice HO_8.out
           subst eo27
           have mk0_ := trivial
           exact LPrF9xh1
          ·
           exact absurd H (by simp)
         ·
          have H' := Aside0.mk H
          clear H
          obtain ⟨Ao37, co37, eo37⟩ := Kd.R_slice HO_8.out
          subst eo37
          have mk1_ := trivial
          exact LPrF9xh1
        ·
         exact absurd H (by simp)
       ·
        simp only [Option.some.injEq, Prod.mk.injEq] at H
        obtain ⟨rfl, rfl⟩ := H
        obtain ⟨Ao43, co43, eo43⟩ := Kd.R_slice HO_8.out
        subst eo43
        have mk2_ := trivial
        exact LPrF9xh1
      ·
       exact absurd H (by simp)
     ·
      have c18b0 : decide (x9_1 < (t386.length : Int)) = false := decide_eq_false c18
      clear c18
      replace H := iF H; obtain ⟨c48, H⟩ | ⟨c48, H⟩ := H
      ·
       have c48b0 : decide (0 < (x7_1.length : Int)) = true := decide_eq_true c48
       have c48b1 : decide (0 < x7_1.length) = true := decide_eq_true (by omega)
       clear c48
       simp only [Option.some.injEq, Prod.mk.injEq] at H
       obtain ⟨rfl, rfl⟩ := H
       obtain ⟨Ao49, co49, eo49⟩ := Kd.R_slice HO_8.out
       subst eo49
       obtain ⟨Ao50, co50, eo50⟩ := Kd.R_slice HO_7.out
       subst eo50
       go_wp2
       go_ret2
       exact LPrF9x2
      ·
       have c48b0 : decide (0 < (x7_1.length : Int)) = false := decide_eq_false c48
       have c48b1 : decide (0 < x7_1.length) = false := decide_eq_false (by omega)
       clear c48
       replace H := iF H; obtain ⟨c51, H⟩ | ⟨c51, H⟩ := H
       ·
        have c51b0 : decide (8 < (x6_1.length : Int)) = true := decide_eq_true c51
        have c51b1 : decide (8 < x6_1.length) = true := decide_eq_true (by omega)
        clear c51
        simp only [Option.some.injEq, Prod.mk.injEq] at H
        obtain ⟨rfl, rfl⟩ := H
        obtain ⟨Ao52, co52, eo52⟩ := Kd.R_slice HO_8.out
        subst eo52
        obtain ⟨Ao53, co53, eo53⟩ := Kd.R_slice HO_7.out
        subst eo53
        obtain ⟨Ao54, co54, eo54⟩ := Kd.R_slice HO_6.out
        subst eo54
        go_wp2
        go_ret2
        exact LPrF9x2
       ·
        have c51b0 : decide (8 < (x6_1.length : Int)) = false := decide_eq_false c51
        have c51b1 : decide (8 < x6_1.length) = false := decide_eq_false (by omega)
        clear c51
        simp only [Option.some.injEq, Prod.mk.injEq] at H
        obtain ⟨rfl, rfl⟩ := H
        obtain ⟨Ao55, co55, eo55⟩ := Kd.R_slice HO_8.out
        subst eo55
        obtain ⟨Ao56, co56, eo56⟩ := Kd.R_slice HO_7.out
        subst eo56
        obtain ⟨Ao57, co57, eo57⟩ := Kd.R_slice HO_6.out
        subst eo57
        go_wp2
        go_ret2
        exact ⟨_, tE, by (with_reducible repeat (first | apply Kd.R_alloc | apply Kd.R_drewN | apply Kd.R_drew)); exact Kd.R_mono HO_6.out (fun _ hk => trivial), by repeat (first | (with_reducible first | exact HB.out | apply below_alloc | apply pw_below_drewN | apply below_drew1 | refine below_set ?_ GE378.out) | exact HB.out)⟩
 ·
  simp only [Option.some.injEq, Prod.mk.injEq] at H
  obtain ⟨rfl, rfl⟩ := H
  have ma1_ := trivial
  exact LPrF9a1
end Go.Proofs.YtfbhdjflkaldgaaDoor.Pr
