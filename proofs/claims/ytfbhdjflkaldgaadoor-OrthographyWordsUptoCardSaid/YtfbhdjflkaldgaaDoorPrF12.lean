-- Written by a program of this session (ownprint.py, over the kit's printer). Not trusted: Lean checks it.
import Derived.Test.YtfbhdjflkaldgaaDoorMg1
import Derived.Test.YtfbhdjflkaldgaaDoorMg2
import Derived.Test.YtfbhdjflkaldgaaDoorMg21
import Derived.Test.YtfbhdjflkaldgaaDoorMg17
import Derived.Test.YtfbhdjflkaldgaaDoorMg3
namespace Go.Proofs.YtfbhdjflkaldgaaDoor.Pr
open Go.Proofs.YtfbhdjflkaldgaaDoor.Ct Go.RowKit Go.Proofs.YtfbhdjflkaldgaaDoorW.PrintWords Go.Proofs.YtfbhdjflkaldgaaDoorW.PrintLast Go.Proofs.YtfbhdjflkaldgaaDoorW.PrintMore
attribute [local go_sem] max2_int min2_int max_two min_two max_three min_three max_four min_four
set_option linter.unusedVariables false
set_option linter.unusedSimpArgs false
def pentaglotref42_Words.l0 : Nat → List ByteArray → List ByteArray → Int → ByteArray → Bool → List (S80) → List (S85) → List (S180) → List (S183) → List (List Int) → Int → Int → List (S85) → Int → List ByteArray → List ByteArray → Bool → ByteArray → Int → ByteArray → Bool → Int → Int → List (S186) → List (S186) → List ByteArray → List ByteArray → List ByteArray → Bool → List (S188) → List (S190) → List (S194) → ByteArray → Option (List ByteArray × Int)
 | 0, _, _, _, _, _, _, _, _, _, _, _, _, _, _, _, _, _, _, _, _, _, _, _, _, _, _, _, _, _, _, _, _, _ => none
 | k + 1, x6, x7, x8, x417000, x417001, x417002, x417003, x417004, x417005, x417006, x417007, x417008, x417009, x417010, x417011, x417012, x417013, x417014, x417015, x417016, x417017, x417018, x417019, x417020, x417021, x417022, x417023, x417024, x417025, x417026, x417027, x417028, x417029 => if x8 < (x7.length : Int) then (if 0 ≤ x8 then ((pentaglotref42_stopped.f x417000 x417001 x417002 x417003 x417004 x417005 x417006 x417007 x417008 x417009 x417010 x417011 x417012 x417013 x417014 x417015 x417016 x417017 x417018 x417019 x417020 x417021 x417022 x417023 x417024 x417025 x417026 x417027 x417028 x417029 (rdOf ByteArray.empty x7 x8)).bind fun bt425 => ((pentaglotref42_Host.f x417000 x417001 x417002 x417003 x417004 x417005 x417006 x417007 x417008 x417009 x417010 x417011 x417012 x417013 x417014 x417015 x417016 x417017 x417018 x417019 x417020 x417021 x417022 x417023 x417024 x417025 x417026 x417027 x417028 x417029 bt425.1).bind fun t427 => (if t427 = true then (if (bt425.2 != (x8 == (wrap64 ((x7.length : Int) - 1)))) = true then (some (([] : List ByteArray), 3)) else (if x6.length < 8796093022208 then (pentaglotref42_Words.l0 k (x6 ++ [bt425.1]) x7 (wrap64 (x8 + 1)) x417000 x417001 x417002 x417003 x417004 x417005 x417006 x417007 x417008 x417009 x417010 x417011 x417012 x417013 x417014 x417015 x417016 x417017 x417018 x417019 x417020 x417021 x417022 x417023 x417024 x417025 x417026 x417027 x417028 x417029) else (none))) else (some (([] : List ByteArray), 3))))) else (none)) else (if (x6.length : Int) > 40 then (some (([] : List ByteArray), 2)) else (some (x6, 0)))
def pentaglotref42_Words.f (k : Nat) (a_0 : ByteArray) (a_1 : Bool) (l_2 : List (S80)) (l_3 : List (S85)) (l_4 : List (S180)) (l_5 : List (S183)) (l_6 : List (List Int)) (a_7 : Int) (a_8 : Int) (l_9 : List (S85)) (a_a : Int) (l_b : List ByteArray) (l_c : List ByteArray) (a_d : Bool) (a_e : ByteArray) (a_f : Int) (a_g : ByteArray) (a_h : Bool) (a_i : Int) (a_j : Int) (l_k : List (S186)) (l_l : List (S186)) (l_m : List ByteArray) (l_n : List ByteArray) (l_o : List ByteArray) (a_p : Bool) (l_q : List (S188)) (l_r : List (S190)) (l_s : List (S194)) (a_t : ByteArray) (a1 : ByteArray) : Option (List ByteArray × Int) := (pentaglotref42_Valid.f a_0 a_1 l_2 l_3 l_4 l_5 l_6 a_7 a_8 l_9 a_a l_b l_c a_d a_e a_f a_g a_h a_i a_j l_k l_l l_m l_n l_o a_p l_q l_r l_s a_t).bind fun t417 => (if t417 = true then ((pentaglotref42_split.f k a1).bind fun t421 => (pentaglotref42_Words.l0 k (([] : List ByteArray)) t421 0 a_0 a_1 l_2 l_3 l_4 l_5 l_6 a_7 a_8 l_9 a_a l_b l_c a_d a_e a_f a_g a_h a_i a_j l_k l_l l_m l_n l_o a_p l_q l_r l_s a_t)) else (some (([] : List ByteArray), 1)))
def pentaglotref42_Words.T8 : Bool × List (List Nat × List Nat) := (true, [([], []), ([], []), ([], []), ([1, 2], [1, 2]), ([3], [3]), ([0, 4], [0, 4]), ([5], [5]), ([6], [6]), ([6], [6]), ([7, 5, 0, 1, 2, 3, 4, 5, 6, 7], [7]), ([8, 9, 0, 1, 2, 3, 4, 5, 6, 7, 8, 9], [8])])
def pentaglotref42_Words.B8 : List Nat := [0, 0, 0, 6, 14, 31, 63, 127, 127, 255, 1023]
theorem pentaglotref42_Words.tab8 : rtab .any (opsOf Tryd.f12 8) = pentaglotref42_Words.T8 := by kernel_rfl
theorem pentaglotref42_Words.bits8 : waitsOk pentaglotref42_Words.T8.2 pentaglotref42_Words.B8 = true := by kernel_rfl
theorem LPrF12x1 {p : Prop} (h : p := by
  rintro w' ⟨z1_, z2_⟩
  first | (refine Eq.trans (load_held 41 (.tmp 2) (by rfl) gb416 (by rfl) 41 _ _ z1_ Tryd.underlying41 (by rfl) (by kernel_rfl)) ?_; with_reducible rfl) | (clear z1_; go_simp; with_reducible rfl) | (have z3_ : World.cell? w' ⟨gb416, 0, none⟩ = some (.string a_0) := (blk_cell z1_ 0).trans rfl; have z4_ : World.cell? w' ⟨gb416, 1, none⟩ = some (.bool a_1) := (blk_cell z1_ 1).trans rfl; have z5_ : World.cell? w' ⟨gb416, 2, none⟩ = some (.slice A_2 l_2.length c_2) := (blk_cell z1_ 2).trans rfl; have z6_ : World.cell? w' ⟨gb416, 3, none⟩ = some (.slice A_3 l_3.length c_3) := (blk_cell z1_ 3).trans rfl; have z7_ : World.cell? w' ⟨gb416, 4, none⟩ = some (.slice A_4 l_4.length c_4) := (blk_cell z1_ 4).trans rfl; have z8_ : World.cell? w' ⟨gb416, 5, none⟩ = some (.slice A_5 l_5.length c_5) := (blk_cell z1_ 5).trans rfl; have z9_ : World.cell? w' ⟨gb416, 6, none⟩ = some (.slice A_6 l_6.length c_6) := (blk_cell z1_ 6).trans rfl; have z10_ : World.cell? w' ⟨gb416, 7, none⟩ = some (.int .i64 a_7) := (blk_cell z1_ 7).trans rfl; have z11_ : World.cell? w' ⟨gb416, 8, none⟩ = some (.int .i64 a_8) := (blk_cell z1_ 8).trans rfl; have z12_ : World.cell? w' ⟨gb416, 9, none⟩ = some (.slice A_9 l_9.length c_9) := (blk_cell z1_ 9).trans rfl; have z13_ : World.cell? w' ⟨gb416, 10, none⟩ = some (.int .i64 a_a) := (blk_cell z1_ 10).trans rfl; have z14_ : World.cell? w' ⟨gb416, 11, none⟩ = some (.slice A_b l_b.length c_b) := (blk_cell z1_ 11).trans rfl; have z15_ : World.cell? w' ⟨gb416, 12, none⟩ = some (.slice A_c l_c.length c_c) := (blk_cell z1_ 12).trans rfl; have z16_ : World.cell? w' ⟨gb416, 13, none⟩ = some (.bool a_d) := (blk_cell z1_ 13).trans rfl; have z17_ : World.cell? w' ⟨gb416, 14, none⟩ = some (.string a_e) := (blk_cell z1_ 14).trans rfl; have z18_ : World.cell? w' ⟨gb416, 15, none⟩ = some (.int .i64 a_f) := (blk_cell z1_ 15).trans rfl; have z19_ : World.cell? w' ⟨gb416, 16, none⟩ = some (.string a_g) := (blk_cell z1_ 16).trans rfl; have z20_ : World.cell? w' ⟨gb416, 17, none⟩ = some (.bool a_h) := (blk_cell z1_ 17).trans rfl; have z21_ : World.cell? w' ⟨gb416, 18, none⟩ = some (.int .i64 a_i) := (blk_cell z1_ 18).trans rfl; have z22_ : World.cell? w' ⟨gb416, 19, none⟩ = some (.int .i64 a_j) := (blk_cell z1_ 19).trans rfl; have z23_ : World.cell? w' ⟨gb416, 20, none⟩ = some (.slice A_k l_k.length c_k) := (blk_cell z1_ 20).trans rfl; have z24_ : World.cell? w' ⟨gb416, 21, none⟩ = some (.slice A_l l_l.length c_l) := (blk_cell z1_ 21).trans rfl; have z25_ : World.cell? w' ⟨gb416, 22, none⟩ = some (.slice A_m l_m.length c_m) := (blk_cell z1_ 22).trans rfl; have z26_ : World.cell? w' ⟨gb416, 23, none⟩ = some (.slice A_n l_n.length c_n) := (blk_cell z1_ 23).trans rfl; have z27_ : World.cell? w' ⟨gb416, 24, none⟩ = some (.slice A_o l_o.length c_o) := (blk_cell z1_ 24).trans rfl; have z28_ : World.cell? w' ⟨gb416, 25, none⟩ = some (.bool a_p) := (blk_cell z1_ 25).trans rfl; have z29_ : World.cell? w' ⟨gb416, 26, none⟩ = some (.slice A_q l_q.length c_q) := (blk_cell z1_ 26).trans rfl; have z30_ : World.cell? w' ⟨gb416, 27, none⟩ = some (.slice A_r l_r.length c_r) := (blk_cell z1_ 27).trans rfl; have z31_ : World.cell? w' ⟨gb416, 28, none⟩ = some (.slice A_s l_s.length c_s) := (blk_cell z1_ 28).trans rfl; have z32_ : World.cell? w' ⟨gb416, 29, none⟩ = some (.string a_t) := (blk_cell z1_ 29).trans rfl; go_simp; with_reducible rfl)
  skip) : p := h
theorem LPrF12x2 {p : Prop} (h : p := by
  exact ⟨_, tE, by first | exact Kd.R_nil _ _ _ _ _ | exact Kd.N_nil _ _ _ _ _ | exact Kd.V_nil _ _ _ _ _ | exact Kd.Q_nil _ _ _ _ _ | exact Kd.S_nil _ _ _ _ _, by repeat (first | (with_reducible first | exact HB.out | apply below_alloc | apply pw_below_drewN | apply below_drew1 | refine below_set ?_ GE416.out) | exact HB.out)⟩) : p := h
set_option maxRecDepth 1000000 in
theorem LPrF12xh1 {p : Prop} (h : p := by
  refine pT 1 25 ?_
  refine pT 2 26 ?_
  refine pT 3 27 ?_
  refine take_ (i := 0) (N := some 24) (v := ?_) (a' := ?_) #[true, true, true, true, false, false, false, false, false, false, false] rfl rfl (take_ofW HT_.out HW_.out (by kernel_rfl)) (fun _ _ _ h => h) (Or.inl ⟨by rfl, ?_⟩) hHeld ?_ ?_
  rotate_left
  ·
   exact LPrF12x1
  rotate_left
  ·
   exact GpR
  refine take_ (i := 4) (N := some 28) (v := ?_) (a' := ?_) #[true, true, true, true, true, false, false, false, false, false, false] rfl rfl (take_ofW HT_.out HW_.out (by kernel_rfl)) (fun _ _ _ h => h) (Or.inl ⟨by rfl, ?_⟩) hHeld ?_ ?_
  rotate_left
  ·
   exact LPrF12x1
  rotate_left
  ·
   exact GpR
  refine one_ (i := 5) (N := some 29) #[true, true, true, true, true, true, false, false, false, false, false] rfl rfl (one_of HT_.out (by kernel_rfl)) (by decide) (fun K hK => ?_)
  refine goes_ Tryd.func24 (by kernel_rfl) rfl #[.agg _, .string (rdOf ByteArray.empty t421 x8_1)] (by rfl) rfl rfl Gc2 ?_
  with_reducible refine (pentaglotref42_stopped.calls a_0 a_1 _ _ l_2 _ _ l_3 _ _ l_4 _ _ l_5 _ _ l_6 a_7 a_8 _ _ l_9 a_a _ _ l_b _ _ l_c a_d a_e a_f a_g a_h a_i a_j _ _ l_k _ _ l_l _ _ l_m _ _ l_n _ _ l_o a_p _ _ l_q _ _ l_r _ _ l_s a_t (rdOf ByteArray.empty t421 x8_1) t425 t426 _ (tC HR_2 HB) HC_2.out (tC HR_3 HB) HC_3.out (tC HR_4 HB) HC_4.out (tC HR_5 HB) HC_5.out (tC HR_6 HB) HC_6.out (tC HR_9 HB) HC_9.out (tC HR_b HB) HC_b.out (tC HR_c HB) HC_c.out (tC HR_k HB) HC_k.out (tC HR_l HB) HC_l.out (tC HR_m HB) HC_m.out (tC HR_n HB) HC_n.out (tC HR_o HB) HC_o.out (tC HR_q HB) HC_q.out (tC HR_r HB) HC_r.out (tC HR_s HB) HC_s.out A14.out).mono ?_
  first
  | (have mk_ := mk0_
     rintro e w26 ⟨rfl, hb⟩
     have HS30_ := (hb.cell (World.block_lt_of_cell? _ _ (hHeld.2))).trans (hHeld.2)
     refine ⟨_, rfl, ?_⟩
     have n0_ := Aside0.mk (Kd.R_below (dR HO_6) hb)
     have n1_ := Aside0.mk (Kd.R_below (dR HO_7) hb)
     have n2_ := Aside0.mk (blk_below (tK BK416) hb)
     have n3_ := Aside0.mk (below_step (tB HB) hb)
     revert n0_ n1_ n2_ n3_
     clear HO_6 HO_7 BK416 HB
     intro HO_6 HO_7 BK416 HB
     (try clear hb); (try clear hk)
     refine hK.out _ _ ⟨BK416.out, HS30_⟩ (fun hHeld => ?_)
     clear hK K
     refine nR 29 ?_
     refine pT 6 23 ?_
     refine pT 7 30 ?_
     refine pT 8 31 ?_
     refine pT 9 9 ?_
     refine pT 10 10 ?_
     refine done_ (done_of HT_.out (by kernel_rfl)) ?_
     try go_wp2_with (first | ((with_reducible refine gate_load (t := 41) (p := 2) rfl ?_); (try (refine gate_guard (by rfl) ?_; dsimp only)); refine wpList_load_row rfl 41 (.tmp 2) rfl gb416 rfl 41 _ (0, 0) _ (tK BK416) Tryd.underlying41 rfl (by kernel_rfl) ?_) | ((with_reducible refine gate_callee (f := 25) rfl ?_); refine goesL_ (some 34) rfl rfl Tryd.func25 (by kernel_rfl) rfl #[.agg _, .string t425] rfl Gc2 ?_; (with_reducible refine (pentaglotref42_Host.calls a_0 a_1 _ _ l_2 _ _ l_3 _ _ l_4 _ _ l_5 _ _ l_6 a_7 a_8 _ _ l_9 a_a _ _ l_b _ _ l_c a_d a_e a_f a_g a_h a_i a_j _ _ l_k _ _ l_l _ _ l_m _ _ l_n _ _ l_o a_p _ _ l_q _ _ l_r _ _ l_s a_t t425 true _ (tC HR_2 HB) HC_2.out (tC HR_3 HB) HC_3.out (tC HR_4 HB) HC_4.out (tC HR_5 HB) HC_5.out (tC HR_6 HB) HC_6.out (tC HR_9 HB) HC_9.out (tC HR_b HB) HC_b.out (tC HR_c HB) HC_c.out (tC HR_k HB) HC_k.out (tC HR_l HB) HC_l.out (tC HR_m HB) HC_m.out (tC HR_n HB) HC_n.out (tC HR_o HB) HC_o.out (tC HR_q HB) HC_q.out (tC HR_r HB) HC_r.out (tC HR_s HB) HC_s.out A15.out).mono ?_); rintro e w28 ⟨rfl, hb⟩; refine ⟨_, rfl, ?_⟩; have n0_ := Aside0.mk (Kd.R_below (dR HO_6) hb); have n1_ := Aside0.mk (Kd.R_below (dR HO_7) hb); have n2_ := Aside0.mk (blk_below (tK BK416) hb); have n3_ := Aside0.mk (below_step (tB HB) hb); revert n0_ n1_ n2_ n3_; clear HO_6 HO_7 BK416 HB; intro HO_6 HO_7 BK416 HB; (try clear hb); (try clear hb2); (try clear hk); (try clear hi)) | ((with_reducible refine gate_builtin (b := .append) (xs := #[.tmp 45, .tmp 47]) rfl ?_); (try (refine gate_guard (by rfl) ?_; dsimp only)); at_builtin; refine Kd.R_append Kd.string (w0 := w) w.heap.size rfl (.tmp 45) (.tmp 47) 31 9 (.string ⟨#[]⟩) 16 rfl Tryd.underlying31 info9 rfl (by decide) (by omega) u6 x6_1 t425 [.string t425] (fun k_ => some k_ ≠ (.slice (some ad424) t421.length co24 : Value).ownBlock) (fun _ => False) rfl rfl ?aP (fun _ hk => hk.elim) ?aF ?aO ?aB ?aS ?aL ?_; (case aP => exact rfl); (case aB => exact (tB HB)); (case aF => exact (fun k_ hk => Kd.fresh' (Kd.R_lt (dR HO_7)) k_ hk)); (case aO => exact (dR HO_6)); (case aS => exact (tS HB)); (case aL => have := LMc23.out; omega); intro v429 w29 ho hb hg hat; rw [← Ny428.out] at ho; have n0_ := Aside0.mk (Kd.R_after (ok := (fun _ => True)) (dR HO_7) hg hat); have n1_ := Aside0.mk (blk_grown (tK BK416) hg (Kd.R_ne HO_6.out BK416.out (by decide))); have n2_ := Aside0.mk (hb); have n3_ := Aside0.mk (ho); revert n0_ n1_ n2_ n3_; clear HO_7 BK416 HB HO_6; intro HO_7 BK416 HB HO430; clear ho hb hg hat))
     go_roundg k1
     case measure => have := HK1.out; omega
     case rel => exact ⟨(y428), (wrap64 (x8_1 + 1)), tV1, H', ⟨by have := HK1.out; omega⟩, ⟨dR HO430⟩, ⟨dR HO_7⟩, ⟨tK BK416⟩, ⟨tB HB⟩⟩)
  | (have mk_ := mk1_
     rintro e w32 ⟨rfl, hb⟩
     have HS30_ := (hb.cell (World.block_lt_of_cell? _ _ (hHeld.2))).trans (hHeld.2)
     refine ⟨_, rfl, ?_⟩
     have n0_ := Aside0.mk (Kd.R_below (dR HO_6) hb)
     have n1_ := Aside0.mk (Kd.R_below (dR HO_7) hb)
     have n2_ := Aside0.mk (blk_below (tK BK416) hb)
     have n3_ := Aside0.mk (below_step (tB HB) hb)
     revert n0_ n1_ n2_ n3_
     clear HO_6 HO_7 BK416 HB
     intro HO_6 HO_7 BK416 HB
     (try clear hb); (try clear hk)
     refine hK.out _ _ ⟨BK416.out, HS30_⟩ (fun hHeld => ?_)
     clear hK K
     refine nR 29 ?_
     refine pT 6 23 ?_
     refine pT 7 30 ?_
     refine pT 8 31 ?_
     refine pT 9 9 ?_
     refine pT 10 10 ?_
     refine done_ (done_of HT_.out (by kernel_rfl)) ?_
     try go_wp2_with (first | ((with_reducible refine gate_load (t := 41) (p := 2) rfl ?_); (try (refine gate_guard (by rfl) ?_; dsimp only)); refine wpList_load_row rfl 41 (.tmp 2) rfl gb416 rfl 41 _ (0, 0) _ (tK BK416) Tryd.underlying41 rfl (by kernel_rfl) ?_) | ((with_reducible refine gate_callee (f := 25) rfl ?_); refine goesL_ (some 34) rfl rfl Tryd.func25 (by kernel_rfl) rfl #[.agg _, .string t425] rfl Gc2 ?_; (with_reducible refine (pentaglotref42_Host.calls a_0 a_1 _ _ l_2 _ _ l_3 _ _ l_4 _ _ l_5 _ _ l_6 a_7 a_8 _ _ l_9 a_a _ _ l_b _ _ l_c a_d a_e a_f a_g a_h a_i a_j _ _ l_k _ _ l_l _ _ l_m _ _ l_n _ _ l_o a_p _ _ l_q _ _ l_r _ _ l_s a_t t425 false _ (tC HR_2 HB) HC_2.out (tC HR_3 HB) HC_3.out (tC HR_4 HB) HC_4.out (tC HR_5 HB) HC_5.out (tC HR_6 HB) HC_6.out (tC HR_9 HB) HC_9.out (tC HR_b HB) HC_b.out (tC HR_c HB) HC_c.out (tC HR_k HB) HC_k.out (tC HR_l HB) HC_l.out (tC HR_m HB) HC_m.out (tC HR_n HB) HC_n.out (tC HR_o HB) HC_o.out (tC HR_q HB) HC_q.out (tC HR_r HB) HC_r.out (tC HR_s HB) HC_s.out A15.out).mono ?_); rintro e w34 ⟨rfl, hb⟩; refine ⟨_, rfl, ?_⟩; have n0_ := Aside0.mk (Kd.R_below (dR HO_6) hb); have n1_ := Aside0.mk (Kd.R_below (dR HO_7) hb); have n2_ := Aside0.mk (blk_below (tK BK416) hb); have n3_ := Aside0.mk (below_step (tB HB) hb); revert n0_ n1_ n2_ n3_; clear HO_6 HO_7 BK416 HB; intro HO_6 HO_7 BK416 HB; (try clear hb); (try clear hb2); (try clear hk); (try clear hi)))
     go_ret2
     exact LPrF12x2)
  | (have mk_ := mk2_
     rintro e w20 ⟨rfl, hb⟩
     have HS30_ := (hb.cell (World.block_lt_of_cell? _ _ (hHeld.2))).trans (hHeld.2)
     refine ⟨_, rfl, ?_⟩
     have n0_ := Aside0.mk (Kd.R_below (dR HO_6) hb)
     have n1_ := Aside0.mk (Kd.R_below (dR HO_7) hb)
     have n2_ := Aside0.mk (blk_below (tK BK416) hb)
     have n3_ := Aside0.mk (below_step (tB HB) hb)
     revert n0_ n1_ n2_ n3_
     clear HO_6 HO_7 BK416 HB
     intro HO_6 HO_7 BK416 HB
     (try clear hb); (try clear hk)
     refine hK.out _ _ ⟨BK416.out, HS30_⟩ (fun hHeld => ?_)
     clear hK K
     refine nR 29 ?_
     refine pT 6 23 ?_
     refine pT 7 30 ?_
     refine pT 8 31 ?_
     refine pT 9 9 ?_
     refine pT 10 10 ?_
     refine done_ (done_of HT_.out (by kernel_rfl)) ?_
     try go_wp2_with (first | ((with_reducible refine gate_load (t := 41) (p := 2) rfl ?_); (try (refine gate_guard (by rfl) ?_; dsimp only)); refine wpList_load_row rfl 41 (.tmp 2) rfl gb416 rfl 41 _ (0, 0) _ (tK BK416) Tryd.underlying41 rfl (by kernel_rfl) ?_) | ((with_reducible refine gate_callee (f := 25) rfl ?_); refine goesL_ (some 34) rfl rfl Tryd.func25 (by kernel_rfl) rfl #[.agg _, .string t425] rfl Gc2 ?_; (with_reducible refine (pentaglotref42_Host.calls a_0 a_1 _ _ l_2 _ _ l_3 _ _ l_4 _ _ l_5 _ _ l_6 a_7 a_8 _ _ l_9 a_a _ _ l_b _ _ l_c a_d a_e a_f a_g a_h a_i a_j _ _ l_k _ _ l_l _ _ l_m _ _ l_n _ _ l_o a_p _ _ l_q _ _ l_r _ _ l_s a_t t425 true _ (tC HR_2 HB) HC_2.out (tC HR_3 HB) HC_3.out (tC HR_4 HB) HC_4.out (tC HR_5 HB) HC_5.out (tC HR_6 HB) HC_6.out (tC HR_9 HB) HC_9.out (tC HR_b HB) HC_b.out (tC HR_c HB) HC_c.out (tC HR_k HB) HC_k.out (tC HR_l HB) HC_l.out (tC HR_m HB) HC_m.out (tC HR_n HB) HC_n.out (tC HR_o HB) HC_o.out (tC HR_q HB) HC_q.out (tC HR_r HB) HC_r.out (tC HR_s HB) HC_s.out A15.out).mono ?_); rintro e w22 ⟨rfl, hb⟩; refine ⟨_, rfl, ?_⟩; have n0_ := Aside0.mk (Kd.R_below (dR HO_6) hb); have n1_ := Aside0.mk (Kd.R_below (dR HO_7) hb); have n2_ := Aside0.mk (blk_below (tK BK416) hb); have n3_ := Aside0.mk (below_step (tB HB) hb); revert n0_ n1_ n2_ n3_; clear HO_6 HO_7 BK416 HB; intro HO_6 HO_7 BK416 HB; (try clear hb); (try clear hb2); (try clear hk); (try clear hi)))
     go_ret2
     exact LPrF12x2)) : p := h
theorem LPrF12xh2 {p : Prop} (h : p := by
  try go_wp2
  have n0_ := Aside0.mk (Kd.R_drew HO_6.out)
  have n1_ := Aside0.mk (Kd.R_drew HO_7.out)
  have n2_ := Aside0.mk (blk_drew BK416.out)
  have n3_ := Aside0.mk (below_drew1 HB.out)
  revert n0_ n1_ n2_ n3_
  clear HO_6 HO_7 BK416 HB
  intro HO_6 HO_7 BK416 HB
  have p424 : 0 ≤ (x8_1 : Int) := oD
  have q424 : x8_1 < (t421.length : Int) := oD
  obtain ⟨ad424, e424, hx424_0⟩ := Kd.at_string (Kd.R_reads' HO_7.out).2.2 x8_1 p424 q424
  cases e424
  replace p424 := eq_true p424
  replace q424 := eq_true q424
  refine start_ (n := 11) (S := fun w' => w'.heap[gb416]? = some (.cells #[.string a_0, .bool a_1, .slice A_2 l_2.length c_2, .slice A_3 l_3.length c_3, .slice A_4 l_4.length c_4, .slice A_5 l_5.length c_5, .slice A_6 l_6.length c_6, .int .i64 a_7, .int .i64 a_8, .slice A_9 l_9.length c_9, .int .i64 a_a, .slice A_b l_b.length c_b, .slice A_c l_c.length c_c, .bool a_d, .string a_e, .int .i64 a_f, .string a_g, .bool a_h, .int .i64 a_i, .int .i64 a_j, .slice A_k l_k.length c_k, .slice A_l l_l.length c_l, .slice A_m l_m.length c_m, .slice A_n l_n.length c_n, .slice A_o l_o.length c_o, .bool a_p, .slice A_q l_q.length c_q, .slice A_r l_r.length c_r, .slice A_s l_s.length c_s, .string a_t] 41 (0, 0)) ∧ w'.cell? (ad424.add (x8_1).toNat) = some (.string (rdOf ByteArray.empty t421 x8_1))) (ds := []) #[false, false, false, false, false, false, false, false, false, false, false] (by kernel_rfl) rfl rfl ⟨BK416.out, hx424_0⟩ (fun hHeld => ?_); refine with_tabW pentaglotref42_Words.tab8 pentaglotref42_Words.bits8 (fun HT_ HW_ => ?_)
  first
  | (have mk_ := mk0_
     generalize wr.drew = w19 at HO_6 HO_7 BK416 HB hx424_0 hHeld ⊢
     have mk2_ := trivial
     exact LPrF12xh1)
  | (have mk_ := mk1_
     generalize wr.drew = w25 at HO_6 HO_7 BK416 HB hx424_0 hHeld ⊢
     have mk0_ := trivial
     exact LPrF12xh1)
  | (have mk_ := mk2_
     generalize wr.drew = w31 at HO_6 HO_7 BK416 HB hx424_0 hHeld ⊢
     have mk1_ := trivial
     exact LPrF12xh1)) : p := h
set_option maxHeartbeats 8000000 in
set_option maxRecDepth 100000 in
theorem pentaglotref42_Words.calls (k : Nat) (a_0 : ByteArray) (a_1 : Bool) (A_2 : Option Addr) (c_2 : Nat) (l_2 : List (S80)) (A_3 : Option Addr) (c_3 : Nat) (l_3 : List (S85)) (A_4 : Option Addr) (c_4 : Nat) (l_4 : List (S180)) (A_5 : Option Addr) (c_5 : Nat) (l_5 : List (S183)) (A_6 : Option Addr) (c_6 : Nat) (l_6 : List (List Int)) (a_7 : Int) (a_8 : Int) (A_9 : Option Addr) (c_9 : Nat) (l_9 : List (S85)) (a_a : Int) (A_b : Option Addr) (c_b : Nat) (l_b : List ByteArray) (A_c : Option Addr) (c_c : Nat) (l_c : List ByteArray) (a_d : Bool) (a_e : ByteArray) (a_f : Int) (a_g : ByteArray) (a_h : Bool) (a_i : Int) (a_j : Int) (A_k : Option Addr) (c_k : Nat) (l_k : List (S186)) (A_l : Option Addr) (c_l : Nat) (l_l : List (S186)) (A_m : Option Addr) (c_m : Nat) (l_m : List ByteArray) (A_n : Option Addr) (c_n : Nat) (l_n : List ByteArray) (A_o : Option Addr) (c_o : Nat) (l_o : List ByteArray) (a_p : Bool) (A_q : Option Addr) (c_q : Nat) (l_q : List (S188)) (A_r : Option Addr) (c_r : Nat) (l_r : List (S190)) (A_s : Option Addr) (c_s : Nat) (l_s : List (S194)) (a_t : ByteArray) (a1 : ByteArray) (r1 : List ByteArray) (r2 : Int) (w : World) (hT : Tabs w) (hr_2 : Kd.C k80 w A_2 l_2.length l_2) (hc_2 : l_2.length ≤ c_2) (hr_3 : Kd.C k85 w A_3 l_3.length l_3) (hc_3 : l_3.length ≤ c_3) (hr_4 : Kd.C k180 w A_4 l_4.length l_4) (hc_4 : l_4.length ≤ c_4) (hr_5 : Kd.C k183 w A_5 l_5.length l_5) (hc_5 : l_5.length ≤ c_5) (hr_6 : Kd.C (Kd.slice 78 (Kd.int .u32)) w A_6 l_6.length l_6) (hc_6 : l_6.length ≤ c_6) (hr_9 : Kd.C k85 w A_9 l_9.length l_9) (hc_9 : l_9.length ≤ c_9) (hr_b : Kd.C Kd.string w A_b l_b.length l_b) (hc_b : l_b.length ≤ c_b) (hr_c : Kd.C Kd.string w A_c l_c.length l_c) (hc_c : l_c.length ≤ c_c) (hr_k : Kd.C k186 w A_k l_k.length l_k) (hc_k : l_k.length ≤ c_k) (hr_l : Kd.C k186 w A_l l_l.length l_l) (hc_l : l_l.length ≤ c_l) (hr_m : Kd.C Kd.string w A_m l_m.length l_m) (hc_m : l_m.length ≤ c_m) (hr_n : Kd.C Kd.string w A_n l_n.length l_n) (hc_n : l_n.length ≤ c_n) (hr_o : Kd.C Kd.string w A_o l_o.length l_o) (hc_o : l_o.length ≤ c_o) (hr_q : Kd.C k188 w A_q l_q.length l_q) (hc_q : l_q.length ≤ c_q) (hr_r : Kd.C k190 w A_r l_r.length l_r) (hc_r : l_r.length ≤ c_r) (hr_s : Kd.C k194 w A_s l_s.length l_s) (hc_s : l_s.length ≤ c_s) (h : pentaglotref42_Words.f k a_0 a_1 l_2 l_3 l_4 l_5 l_6 a_7 a_8 l_9 a_a l_b l_c a_d a_e a_f a_g a_h a_i a_j l_k l_l l_m l_n l_o a_p l_q l_r l_s a_t a1 = some (r1, r2)) :
 Calls Tryd.prog 12 #[.agg #[.string a_0, .bool a_1, .slice A_2 l_2.length c_2, .slice A_3 l_3.length c_3, .slice A_4 l_4.length c_4, .slice A_5 l_5.length c_5, .slice A_6 l_6.length c_6, .int .i64 a_7, .int .i64 a_8, .slice A_9 l_9.length c_9, .int .i64 a_a, .slice A_b l_b.length c_b, .slice A_c l_c.length c_c, .bool a_d, .string a_e, .int .i64 a_f, .string a_g, .bool a_h, .int .i64 a_i, .int .i64 a_j, .slice A_k l_k.length c_k, .slice A_l l_l.length c_l, .slice A_m l_m.length c_m, .slice A_n l_n.length c_n, .slice A_o l_o.length c_o, .bool a_p, .slice A_q l_q.length c_q, .slice A_r l_r.length c_r, .slice A_s l_s.length c_s, .string a_t], .string a1] w fun e w' => ∃ v0_ : Value, e = .returned (.tuple #[v0_, .int .i64 r2]) ∧ Kd.R Kd.string 9 w' w.heap.size (fun _ => True) v0_ r1 ∧ Below w.heap.size w w' := by
 have HT := Aside0.mk hT
 clear hT
 have hu41 := Tryd.underlying41
 have HR_2 := Aside0.mk hr_2
 have HC_2 := Aside0.mk hc_2
 clear hr_2 hc_2
 have HR_3 := Aside0.mk hr_3
 have HC_3 := Aside0.mk hc_3
 clear hr_3 hc_3
 have HR_4 := Aside0.mk hr_4
 have HC_4 := Aside0.mk hc_4
 clear hr_4 hc_4
 have HR_5 := Aside0.mk hr_5
 have HC_5 := Aside0.mk hc_5
 clear hr_5 hc_5
 have HR_6 := Aside0.mk hr_6
 have HC_6 := Aside0.mk hc_6
 clear hr_6 hc_6
 have HR_9 := Aside0.mk hr_9
 have HC_9 := Aside0.mk hc_9
 clear hr_9 hc_9
 have HR_b := Aside0.mk hr_b
 have HC_b := Aside0.mk hc_b
 clear hr_b hc_b
 have HR_c := Aside0.mk hr_c
 have HC_c := Aside0.mk hc_c
 clear hr_c hc_c
 have HR_k := Aside0.mk hr_k
 have HC_k := Aside0.mk hc_k
 clear hr_k hc_k
 have HR_l := Aside0.mk hr_l
 have HC_l := Aside0.mk hc_l
 clear hr_l hc_l
 have HR_m := Aside0.mk hr_m
 have HC_m := Aside0.mk hc_m
 clear hr_m hc_m
 have HR_n := Aside0.mk hr_n
 have HC_n := Aside0.mk hc_n
 clear hr_n hc_n
 have HR_o := Aside0.mk hr_o
 have HC_o := Aside0.mk hc_o
 clear hr_o hc_o
 have HR_q := Aside0.mk hr_q
 have HC_q := Aside0.mk hc_q
 clear hr_q hc_q
 have HR_r := Aside0.mk hr_r
 have HC_r := Aside0.mk hc_r
 clear hr_r hc_r
 have HR_s := Aside0.mk hr_s
 have HC_s := Aside0.mk hc_s
 clear hr_s hc_s
 have HB := Aside0.mk (Below.refl w.heap.size w)
 have H : ((pentaglotref42_Valid.f a_0 a_1 l_2 l_3 l_4 l_5 l_6 a_7 a_8 l_9 a_a l_b l_c a_d a_e a_f a_g a_h a_i a_j l_k l_l l_m l_n l_o a_p l_q l_r l_s a_t).bind fun t417 => (if t417 = true then ((pentaglotref42_split.f k a1).bind fun t421 => (pentaglotref42_Words.l0 k (([] : List ByteArray)) t421 0 a_0 a_1 l_2 l_3 l_4 l_5 l_6 a_7 a_8 l_9 a_a l_b l_c a_d a_e a_f a_g a_h a_i a_j l_k l_l l_m l_n l_o a_p l_q l_r l_s a_t)) else (some (([] : List ByteArray), 1)))) = some (r1, r2) := h
 clear h
 replace H := bI H; obtain ⟨t417, A3, H⟩ := H; (try dsimp only at H)
 replace H := iT H; obtain ⟨rfl, H⟩ | ⟨rfl, H⟩ := H
 ·
  obtain ⟨y418, hy418⟩ : ∃ y_ : List ByteArray, y_ = (([] : List ByteArray)) := ⟨_, rfl⟩
  replace H : ((pentaglotref42_split.f k a1).bind fun t421 => (pentaglotref42_Words.l0 k y418 t421 0 a_0 a_1 l_2 l_3 l_4 l_5 l_6 a_7 a_8 l_9 a_a l_b l_c a_d a_e a_f a_g a_h a_i a_j l_k l_l l_m l_n l_o a_p l_q l_r l_s a_t)) = some (r1, r2) := by first | (rw [hy418]; with_reducible exact H) | (have H2_ := (Option.bind_some _ _).symm.trans H; rw [hy418]; with_reducible exact H2_) | (have H2_ := (Option.bind_some _ _).symm.trans H; with_reducible exact H2_) | with_reducible exact H | (rw [hy418]; exact H) | exact H
  have Ny418 := Aside0.mk hy418
  clear hy418
  replace H := bI H; obtain ⟨t421, A5, H⟩ := H; (try dsimp only at H)
  have H' := Aside0.mk H
  clear H
  go_enter Tryd.func12, Tryd.ntmps12
  go_wp2_with (first | ((with_reducible refine gate_load (t := 41) (p := 2) rfl ?_); (try (refine gate_guard (by rfl) ?_; dsimp only)); refine wpList_load_row rfl 41 (.tmp 2) rfl gb416 rfl 41 _ (0, 0) _ (tK BK416) Tryd.underlying41 rfl (by kernel_rfl) ?_) | ((with_reducible refine gate_dst (N := 2) rfl ?_); (try (refine gate_guard (by rfl) ?_; dsimp only)); refine box_event ?hg (N := 2) ?hd (cs := ?cs) (t := 41) ?hr ?_; (case hd => rfl); (case hg => rfl); (case hr => exact Gc5); intro gb416 hg w6 hbox hb; have n0_ := Aside0.mk (below_step (tB HB) hb); have n1_ := Aside0.mk (hbox); have n2_ := tZ hg (tS HB); have n3_ := tZ hg (tS HB); revert n0_ n1_ n2_ n3_; clear HB; intro HB BK416 GW416 GE416; clear hb hbox hg) | ((with_reducible refine gate_callee (f := 22) rfl ?_); refine goesL_ (some 12) rfl rfl Tryd.func22 (by kernel_rfl) rfl #[.agg _] rfl Gc2 ?_; (with_reducible refine (pentaglotref42_Valid.calls a_0 a_1 _ _ l_2 _ _ l_3 _ _ l_4 _ _ l_5 _ _ l_6 a_7 a_8 _ _ l_9 a_a _ _ l_b _ _ l_c a_d a_e a_f a_g a_h a_i a_j _ _ l_k _ _ l_l _ _ l_m _ _ l_n _ _ l_o a_p _ _ l_q _ _ l_r _ _ l_s a_t true _ ?sT (tC HR_2 HB) HC_2.out (tC HR_3 HB) HC_3.out (tC HR_4 HB) HC_4.out (tC HR_5 HB) HC_5.out (tC HR_6 HB) HC_6.out (tC HR_9 HB) HC_9.out (tC HR_b HB) HC_b.out (tC HR_c HB) HC_c.out (tC HR_k HB) HC_k.out (tC HR_l HB) HC_l.out (tC HR_m HB) HC_m.out (tC HR_n HB) HC_n.out (tC HR_o HB) HC_o.out (tC HR_q HB) HC_q.out (tC HR_r HB) HC_r.out (tC HR_s HB) HC_s.out A3.out).mono ?_); (case sT => exact Gc1); rintro e w8 ⟨rfl, hb⟩; refine ⟨_, rfl, ?_⟩; have n0_ := Aside0.mk (blk_below (tK BK416) hb); have n1_ := Aside0.mk (below_step (tB HB) hb); revert n0_ n1_; clear BK416 HB; intro BK416 HB; (try clear hb); (try clear hb2); (try clear hk); (try clear hi)) | ((with_reducible refine gate_dst (N := 14) rfl ?_); (try (refine gate_guard (by rfl) ?_; dsimp only)); refine Kd.R_lit Kd.string _ 9 ?hg (N := 14) ?hd (xs := ([] : List ByteArray)) (inner := []) (ok := fun _ => True) (okp := fun _ => True) ?hr ?hp (fun _ hk => hk) trivial (Below.refl _ _) (Nat.le_refl _) (by simp) ?_; (case hd => rfl); (case hg => rfl); (case hr => exact Gc5); (case hp => exact (Reps.none _ _)); intro v419 w9 ho10 hb hg_ hnew_; clear hg_ hnew_; (first | rw [← Ny418.out] at ho10 | (simp only [Int.reduceToNat] at ho10; rw [← Ny418.out] at ho10)); have n0_ := Aside0.mk (Kd.R_lower ho10 (tS HB)); have n1_ := Aside0.mk (blk_below (tK BK416) hb); have n2_ := Aside0.mk (below_step (tB HB) hb); revert n0_ n1_ n2_; clear BK416 HB; intro HO420 BK416 HB; clear hb ho10) | ((with_reducible refine gate_callee (f := 23) rfl ?_); refine goesL_ (some 16) rfl rfl Tryd.func23 (by kernel_rfl) rfl #[.string a1] rfl Gc2 ?_; (with_reducible refine (pentaglotref42_split.calls k a1 t421 _ A5.out).mono ?_); rintro e w11 ⟨v422, rfl, ho0, hb⟩; refine ⟨_, rfl, ?_⟩; have n0_ := Aside0.mk (Kd.R_elder' (dR HO420) (Kd.R_base ho0) hb); have n1_ := Aside0.mk (Kd.R_lower (Kd.R_new' ho0 (Kd.R_lt (dR HO420))) (tS HB)); have n2_ := Aside0.mk (blk_below (tK BK416) hb); have n3_ := Aside0.mk (below_step (tB HB) hb); revert n0_ n1_ n2_ n3_; clear HO420 BK416 HB; intro HO420 HO423 BK416 HB; (try clear hb); (try clear hb2); (try clear hk); (try clear hi); (try clear ho0)))
  go_loopg [6, 8] k (fun kq v6 v8 w' => ∃ (x6_1 : List ByteArray) (x8_1 : Int), v8 = .int .i64 x8_1 ∧ Aside0 (pentaglotref42_Words.l0 kq x6_1 t421 x8_1 a_0 a_1 l_2 l_3 l_4 l_5 l_6 a_7 a_8 l_9 a_a l_b l_c a_d a_e a_f a_g a_h a_i a_j l_k l_l l_m l_n l_o a_p l_q l_r l_s a_t = some (r1, r2)) ∧ Aside0 (kq ≤ k) ∧ Aside0 (Kd.R Kd.string 9 w' w.heap.size (fun k_ => some k_ ≠ (v422 : Value).ownBlock) v6 x6_1) ∧ Aside0 (Kd.R Kd.string 9 w' w.heap.size (fun k_ => some k_ ≠ (v6 : Value).ownBlock) v422 t421) ∧ Aside0 (w'.heap[gb416]? = some (.cells #[.string a_0, .bool a_1, (.slice A_2 l_2.length c_2), (.slice A_3 l_3.length c_3), (.slice A_4 l_4.length c_4), (.slice A_5 l_5.length c_5), (.slice A_6 l_6.length c_6), .int .i64 a_7, .int .i64 a_8, (.slice A_9 l_9.length c_9), .int .i64 a_a, (.slice A_b l_b.length c_b), (.slice A_c l_c.length c_c), .bool a_d, .string a_e, .int .i64 a_f, .string a_g, .bool a_h, .int .i64 a_i, .int .i64 a_j, (.slice A_k l_k.length c_k), (.slice A_l l_l.length c_l), (.slice A_m l_m.length c_m), (.slice A_n l_n.length c_n), (.slice A_o l_o.length c_o), .bool a_p, (.slice A_q l_q.length c_q), (.slice A_r l_r.length c_r), (.slice A_s l_s.length c_s), .string a_t] 41 (0, 0))) ∧ Aside0 (Below w.heap.size w w'))
  case atStart => exact ⟨(y418), (0), tV1, H', ⟨Nat.le_refl _⟩, ⟨dR HO420⟩, ⟨dR HO423⟩, ⟨tK BK416⟩, ⟨tB HB⟩⟩
  case round =>
   clear H'; (try clear c4)
   obtain ⟨x6_1, x8_1, rfl, HA, HK1, HO_6, HO_7, BK416, HB⟩ := hrel
   cases gk with
   | zero => exact absurd HA.out (by simp [pentaglotref42_Words.l0])
   | succ k1 =>
    have H := HA.out
    clear HA
    simp only [pentaglotref42_Words.l0] at H
    replace H := iF H; obtain ⟨c12, H⟩ | ⟨c12, H⟩ := H
    ·
     have c12b0 : decide (x8_1 < (t421.length : Int)) = true := decide_eq_true c12
     clear c12
     replace H := iF H; obtain ⟨c13, H⟩ | ⟨c13, H⟩ := H
     ·
      have c13b0 : decide (0 ≤ x8_1) = true := decide_eq_true c13
      clear c13
      replace H := bI H; obtain ⟨⟨t425, t426⟩, A14, H⟩ := H; (try dsimp only at H)
      replace H := bI H; obtain ⟨t427, A15, H⟩ := H; (try dsimp only at H)
      replace H := iT H; obtain ⟨rfl, H⟩ | ⟨rfl, H⟩ := H
      ·
       replace H := iF H; obtain ⟨c17, H⟩ | ⟨c17, H⟩ := H
       ·
        have c17b0 : (t426 != (x8_1 == (wrap64 ((t421.length : Int) - 1)))) = true := c17
        (try (have c17b1 : decide (t426 = (x8_1 == (wrap64 ((t421.length : Int) - 1)))) = false := by simpa using c17))
        (try (have c17b2 : (t426 == (x8_1 == (wrap64 ((t421.length : Int) - 1)))) = false := by simpa using c17))
        (try (have c17b3 : ¬ (t426 = (x8_1 == (wrap64 ((t421.length : Int) - 1)))) := by simpa using c17))
        clear c17
        simp only [Option.some.injEq, Prod.mk.injEq] at H
        obtain ⟨rfl, rfl⟩ := H
        obtain ⟨Ao18, co18, eo18⟩ := Kd.R_slice HO_7.out
        subst eo18
        have mk0_ := trivial
        exact LPrF12xh2
       ·
        have c17b0 : (t426 != (x8_1 == (wrap64 ((t421.length : Int) - 1)))) = false := by simpa using c17
        (try (have c17b1 : decide (t426 = (x8_1 == (wrap64 ((t421.length : Int) - 1)))) = true := by simpa using c17))
        (try (have c17b2 : (t426 == (x8_1 == (wrap64 ((t421.length : Int) - 1)))) = true := by simpa using c17))
        clear c17
        replace H := iF H; obtain ⟨c23, H⟩ | ⟨c23, H⟩ := H
        ·
         have LMc23 := Aside0.mk c23
         clear c23
         obtain ⟨y428, hy428⟩ : ∃ y_ : List ByteArray, y_ = (x6_1 ++ [t425]) := ⟨_, rfl⟩
         replace H : (pentaglotref42_Words.l0 k1 y428 t421 (wrap64 (x8_1 + 1)) a_0 a_1 l_2 l_3 l_4 l_5 l_6 a_7 a_8 l_9 a_a l_b l_c a_d a_e a_f a_g a_h a_i a_j l_k l_l l_m l_n l_o a_p l_q l_r l_s a_t) = some (r1, r2) := by first | (rw [hy428]; with_reducible exact H) | (have H2_ := (Option.bind_some _ _).symm.trans H; rw [hy428]; with_reducible exact H2_) | (have H2_ := (Option.bind_some _ _).symm.trans H; with_reducible exact H2_) | with_reducible exact H | (rw [hy428]; exact H) | exact H
         have Ny428 := Aside0.mk hy428
         clear hy428
         have H' := Aside0.mk H
         clear H
         obtain ⟨Ao24, co24, eo24⟩ := Kd.R_slice HO_7.out
         subst eo24
         have mk1_ := trivial
         exact LPrF12xh2
        ·
         exact absurd H (by simp)
      ·
       simp only [Option.some.injEq, Prod.mk.injEq] at H
       obtain ⟨rfl, rfl⟩ := H
       obtain ⟨Ao30, co30, eo30⟩ := Kd.R_slice HO_7.out
       subst eo30
       have mk2_ := trivial
       exact LPrF12xh2
     ·
      exact absurd H (by simp)
    ·
     have c12b0 : decide (x8_1 < (t421.length : Int)) = false := decide_eq_false c12
     clear c12
     replace H := iF H; obtain ⟨c35, H⟩ | ⟨c35, H⟩ := H
     ·
      have c35b0 : decide (40 < (x6_1.length : Int)) = true := decide_eq_true c35
      have c35b1 : decide (40 < x6_1.length) = true := decide_eq_true (by omega)
      clear c35
      simp only [Option.some.injEq, Prod.mk.injEq] at H
      obtain ⟨rfl, rfl⟩ := H
      obtain ⟨Ao36, co36, eo36⟩ := Kd.R_slice HO_7.out
      subst eo36
      obtain ⟨Ao37, co37, eo37⟩ := Kd.R_slice HO_6.out
      subst eo37
      go_wp2
      go_ret2
      exact LPrF12x2
     ·
      have c35b0 : decide (40 < (x6_1.length : Int)) = false := decide_eq_false c35
      have c35b1 : decide (40 < x6_1.length) = false := decide_eq_false (by omega)
      clear c35
      simp only [Option.some.injEq, Prod.mk.injEq] at H
      obtain ⟨rfl, rfl⟩ := H
      obtain ⟨Ao38, co38, eo38⟩ := Kd.R_slice HO_7.out
      subst eo38
      obtain ⟨Ao39, co39, eo39⟩ := Kd.R_slice HO_6.out
      subst eo39
      go_wp2
      go_ret2
      exact ⟨_, tE, by (with_reducible repeat (first | apply Kd.R_alloc | apply Kd.R_drewN | apply Kd.R_drew)); exact Kd.R_mono HO_6.out (fun _ hk => trivial), by repeat (first | (with_reducible first | exact HB.out | apply below_alloc | apply pw_below_drewN | apply below_drew1 | refine below_set ?_ GE416.out) | exact HB.out)⟩
 ·
  simp only [Option.some.injEq, Prod.mk.injEq] at H
  obtain ⟨rfl, rfl⟩ := H
  go_enter Tryd.func12, Tryd.ntmps12
  go_wp2_with (first | ((with_reducible refine gate_load (t := 41) (p := 2) rfl ?_); (try (refine gate_guard (by rfl) ?_; dsimp only)); refine wpList_load_row rfl 41 (.tmp 2) rfl gb416 rfl 41 _ (0, 0) _ (tK BK416) Tryd.underlying41 rfl (by kernel_rfl) ?_) | ((with_reducible refine gate_dst (N := 2) rfl ?_); (try (refine gate_guard (by rfl) ?_; dsimp only)); refine box_event ?hg (N := 2) ?hd (cs := ?cs) (t := 41) ?hr ?_; (case hd => rfl); (case hg => rfl); (case hr => exact Gc5); intro gb416 hg w40 hbox hb; have n0_ := Aside0.mk (below_step (tB HB) hb); have n1_ := Aside0.mk (hbox); have n2_ := tZ hg (tS HB); have n3_ := tZ hg (tS HB); revert n0_ n1_ n2_ n3_; clear HB; intro HB BK416 GW416 GE416; clear hb hbox hg) | ((with_reducible refine gate_callee (f := 22) rfl ?_); refine goesL_ (some 12) rfl rfl Tryd.func22 (by kernel_rfl) rfl #[.agg _] rfl Gc2 ?_; (with_reducible refine (pentaglotref42_Valid.calls a_0 a_1 _ _ l_2 _ _ l_3 _ _ l_4 _ _ l_5 _ _ l_6 a_7 a_8 _ _ l_9 a_a _ _ l_b _ _ l_c a_d a_e a_f a_g a_h a_i a_j _ _ l_k _ _ l_l _ _ l_m _ _ l_n _ _ l_o a_p _ _ l_q _ _ l_r _ _ l_s a_t false _ ?sT (tC HR_2 HB) HC_2.out (tC HR_3 HB) HC_3.out (tC HR_4 HB) HC_4.out (tC HR_5 HB) HC_5.out (tC HR_6 HB) HC_6.out (tC HR_9 HB) HC_9.out (tC HR_b HB) HC_b.out (tC HR_c HB) HC_c.out (tC HR_k HB) HC_k.out (tC HR_l HB) HC_l.out (tC HR_m HB) HC_m.out (tC HR_n HB) HC_n.out (tC HR_o HB) HC_o.out (tC HR_q HB) HC_q.out (tC HR_r HB) HC_r.out (tC HR_s HB) HC_s.out A3.out).mono ?_); (case sT => exact Gc1); rintro e w42 ⟨rfl, hb⟩; refine ⟨_, rfl, ?_⟩; have n0_ := Aside0.mk (blk_below (tK BK416) hb); have n1_ := Aside0.mk (below_step (tB HB) hb); revert n0_ n1_; clear BK416 HB; intro BK416 HB; (try clear hb); (try clear hb2); (try clear hk); (try clear hi)))
  go_ret2
  exact LPrF12x2
end Go.Proofs.YtfbhdjflkaldgaaDoor.Pr
