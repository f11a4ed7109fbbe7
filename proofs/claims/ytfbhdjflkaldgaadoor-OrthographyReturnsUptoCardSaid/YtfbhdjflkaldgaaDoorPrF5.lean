-- Written by a program of this session (ownprint.py, over the kit's printer). Not trusted: Lean checks it.
import Derived.Test.YtfbhdjflkaldgaaDoorMg1
import Derived.Test.YtfbhdjflkaldgaaDoorCt
import Derived.Test.YtfbhdjflkaldgaaDoorMg19
import Derived.Test.YtfbhdjflkaldgaaDoorOrS
import Derived.Test.YtfbhdjflkaldgaaDoorMg16
import Derived.Test.YtfbhdjflkaldgaaDoorMg18
import Derived.Test.YtfbhdjflkaldgaaDoorPrF14
import Derived.Test.YtfbhdjflkaldgaaDoorMg20
import Derived.Test.YtfbhdjflkaldgaaDoorMg17
import Derived.Test.YtfbhdjflkaldgaaDoorMg3
namespace Go.Proofs.YtfbhdjflkaldgaaDoor.Pr
open Go.Proofs.YtfbhdjflkaldgaaDoor.Ct Go.RowKit Go.Proofs.YtfbhdjflkaldgaaDoorW.PrintWords Go.Proofs.YtfbhdjflkaldgaaDoorW.PrintLast Go.Proofs.YtfbhdjflkaldgaaDoorW.PrintMore
attribute [local go_sem] max2_int min2_int max_two min_two max_three min_three max_four min_four
set_option linter.unusedVariables false
set_option linter.unusedSimpArgs false
mutual
def pentaglotlaw42_OrthographyReturns.j0 : Nat → List (List ByteArray) → Bool → ByteArray → Bool → List (S80) → List (S85) → List (S180) → List (S183) → List (List Int) → Int → Int → List (S85) → Int → List ByteArray → List ByteArray → Bool → ByteArray → Int → ByteArray → Bool → Int → Int → List (S186) → List (S186) → List ByteArray → List ByteArray → List ByteArray → Bool → List (S188) → List (S190) → List (S194) → ByteArray → Option (Bool)
 | 0, _, _, _, _, _, _, _, _, _, _, _, _, _, _, _, _, _, _, _, _, _, _, _, _, _, _, _, _, _, _, _, _ => none
 | k + 1, x1, x27, x460000, x460001, x460002, x460003, x460004, x460005, x460006, x460007, x460008, x460009, x460010, x460011, x460012, x460013, x460014, x460015, x460016, x460017, x460018, x460019, x460020, x460021, x460022, x460023, x460024, x460025, x460026, x460027, x460028, x460029 => if x27 = true then (some true) else ((orthography_Text.f k x460000 x460001 x460002 x460003 x460004 x460005 x460006 x460007 x460008 x460009 x460010 x460011 x460012 x460013 x460014 x460015 x460016 x460017 x460018 x460019 x460020 x460021 x460022 x460023 x460024 x460025 x460026 x460027 x460028 x460029 x1).bind fun bt462 => (if bt462.2 = 0 then (pentaglotlaw42_OrthographyReturns.j1 k x1 bt462.1 (decide ((bt462.1.size : Int) > 4096)) x460000 x460001 x460002 x460003 x460004 x460005 x460006 x460007 x460008 x460009 x460010 x460011 x460012 x460013 x460014 x460015 x460016 x460017 x460018 x460019 x460020 x460021 x460022 x460023 x460024 x460025 x460026 x460027 x460028 x460029) else (pentaglotlaw42_OrthographyReturns.j1 k x1 bt462.1 true x460000 x460001 x460002 x460003 x460004 x460005 x460006 x460007 x460008 x460009 x460010 x460011 x460012 x460013 x460014 x460015 x460016 x460017 x460018 x460019 x460020 x460021 x460022 x460023 x460024 x460025 x460026 x460027 x460028 x460029)))
def pentaglotlaw42_OrthographyReturns.j1 : Nat → List (List ByteArray) → ByteArray → Bool → ByteArray → Bool → List (S80) → List (S85) → List (S180) → List (S183) → List (List Int) → Int → Int → List (S85) → Int → List ByteArray → List ByteArray → Bool → ByteArray → Int → ByteArray → Bool → Int → Int → List (S186) → List (S186) → List ByteArray → List ByteArray → List ByteArray → Bool → List (S188) → List (S190) → List (S194) → ByteArray → Option (Bool)
 | 0, _, _, _, _, _, _, _, _, _, _, _, _, _, _, _, _, _, _, _, _, _, _, _, _, _, _, _, _, _, _, _, _, _ => none
 | k + 1, x1, x5, x40, x460000, x460001, x460002, x460003, x460004, x460005, x460006, x460007, x460008, x460009, x460010, x460011, x460012, x460013, x460014, x460015, x460016, x460017, x460018, x460019, x460020, x460021, x460022, x460023, x460024, x460025, x460026, x460027, x460028, x460029 => if x40 = true then (some true) else ((orthography_Sentences.f x460000 x460001 x460002 x460003 x460004 x460005 x460006 x460007 x460008 x460009 x460010 x460011 x460012 x460013 x460014 x460015 x460016 x460017 x460018 x460019 x460020 x460021 x460022 x460023 x460024 x460025 x460026 x460027 x460028 x460029 x5).bind fun bt464 => (if bt464.2 = 0 then (pentaglotlaw42_OrthographyReturns.j2 k x1 bt464.1 ((bt464.1.length : Int) != (x1.length : Int)) x460000 x460001 x460002 x460003 x460004 x460005 x460006 x460007 x460008 x460009 x460010 x460011 x460012 x460013 x460014 x460015 x460016 x460017 x460018 x460019 x460020 x460021 x460022 x460023 x460024 x460025 x460026 x460027 x460028 x460029) else (pentaglotlaw42_OrthographyReturns.j2 k x1 bt464.1 true x460000 x460001 x460002 x460003 x460004 x460005 x460006 x460007 x460008 x460009 x460010 x460011 x460012 x460013 x460014 x460015 x460016 x460017 x460018 x460019 x460020 x460021 x460022 x460023 x460024 x460025 x460026 x460027 x460028 x460029)))
def pentaglotlaw42_OrthographyReturns.j2 : Nat → List (List ByteArray) → List ByteArray → Bool → ByteArray → Bool → List (S80) → List (S85) → List (S180) → List (S183) → List (List Int) → Int → Int → List (S85) → Int → List ByteArray → List ByteArray → Bool → ByteArray → Int → ByteArray → Bool → Int → Int → List (S186) → List (S186) → List ByteArray → List ByteArray → List ByteArray → Bool → List (S188) → List (S190) → List (S194) → ByteArray → Option (Bool)
 | 0, _, _, _, _, _, _, _, _, _, _, _, _, _, _, _, _, _, _, _, _, _, _, _, _, _, _, _, _, _, _, _, _, _ => none
 | k + 1, x1, x7, x55, x460000, x460001, x460002, x460003, x460004, x460005, x460006, x460007, x460008, x460009, x460010, x460011, x460012, x460013, x460014, x460015, x460016, x460017, x460018, x460019, x460020, x460021, x460022, x460023, x460024, x460025, x460026, x460027, x460028, x460029 => if x55 = true then (some false) else (pentaglotlaw42_OrthographyReturns.l0 k x1 x7 0 x460000 x460001 x460002 x460003 x460004 x460005 x460006 x460007 x460008 x460009 x460010 x460011 x460012 x460013 x460014 x460015 x460016 x460017 x460018 x460019 x460020 x460021 x460022 x460023 x460024 x460025 x460026 x460027 x460028 x460029)
def pentaglotlaw42_OrthographyReturns.l0 : Nat → List (List ByteArray) → List ByteArray → Int → ByteArray → Bool → List (S80) → List (S85) → List (S180) → List (S183) → List (List Int) → Int → Int → List (S85) → Int → List ByteArray → List ByteArray → Bool → ByteArray → Int → ByteArray → Bool → Int → Int → List (S186) → List (S186) → List ByteArray → List ByteArray → List ByteArray → Bool → List (S188) → List (S190) → List (S194) → ByteArray → Option (Bool)
 | 0, _, _, _, _, _, _, _, _, _, _, _, _, _, _, _, _, _, _, _, _, _, _, _, _, _, _, _, _, _, _, _, _, _ => none
 | k + 1, x1, x7, x9, x460000, x460001, x460002, x460003, x460004, x460005, x460006, x460007, x460008, x460009, x460010, x460011, x460012, x460013, x460014, x460015, x460016, x460017, x460018, x460019, x460020, x460021, x460022, x460023, x460024, x460025, x460026, x460027, x460028, x460029 => if x9 < (x7.length : Int) then (if 0 ≤ x9 then (if x9 < (x1.length : Int) then ((orthography_Sentence.f k x460000 x460001 x460002 x460003 x460004 x460005 x460006 x460007 x460008 x460009 x460010 x460011 x460012 x460013 x460014 x460015 x460016 x460017 x460018 x460019 x460020 x460021 x460022 x460023 x460024 x460025 x460026 x460027 x460028 x460029 (rd_L10 x1 x9)).bind fun bt469 => ((orthography_Words.f x460000 x460001 x460002 x460003 x460004 x460005 x460006 x460007 x460008 x460009 x460010 x460011 x460012 x460013 x460014 x460015 x460016 x460017 x460018 x460019 x460020 x460021 x460022 x460023 x460024 x460025 x460026 x460027 x460028 x460029 (rdOf ByteArray.empty x7 x9)).bind fun bt472 => ((pentaglotref42_Segments.f k x460000 x460001 x460002 x460003 x460004 x460005 x460006 x460007 x460008 x460009 x460010 x460011 x460012 x460013 x460014 x460015 x460016 x460017 x460018 x460019 x460020 x460021 x460022 x460023 x460024 x460025 x460026 x460027 x460028 x460029 (rd_L10 x1 x9)).bind fun t477 => (if bt469.1.toList = (rdOf ByteArray.empty x7 x9).toList then (if bt469.2 = 0 then (if bt472.2 = 0 then (pentaglotlaw42_OrthographyReturns.j4 k x1 x7 x9 bt472.1 t477 ((bt472.1.length : Int) != (t477.length : Int)) x460000 x460001 x460002 x460003 x460004 x460005 x460006 x460007 x460008 x460009 x460010 x460011 x460012 x460013 x460014 x460015 x460016 x460017 x460018 x460019 x460020 x460021 x460022 x460023 x460024 x460025 x460026 x460027 x460028 x460029) else (pentaglotlaw42_OrthographyReturns.j4 k x1 x7 x9 bt472.1 t477 true x460000 x460001 x460002 x460003 x460004 x460005 x460006 x460007 x460008 x460009 x460010 x460011 x460012 x460013 x460014 x460015 x460016 x460017 x460018 x460019 x460020 x460021 x460022 x460023 x460024 x460025 x460026 x460027 x460028 x460029)) else (pentaglotlaw42_OrthographyReturns.j4 k x1 x7 x9 bt472.1 t477 true x460000 x460001 x460002 x460003 x460004 x460005 x460006 x460007 x460008 x460009 x460010 x460011 x460012 x460013 x460014 x460015 x460016 x460017 x460018 x460019 x460020 x460021 x460022 x460023 x460024 x460025 x460026 x460027 x460028 x460029)) else (pentaglotlaw42_OrthographyReturns.j4 k x1 x7 x9 bt472.1 t477 true x460000 x460001 x460002 x460003 x460004 x460005 x460006 x460007 x460008 x460009 x460010 x460011 x460012 x460013 x460014 x460015 x460016 x460017 x460018 x460019 x460020 x460021 x460022 x460023 x460024 x460025 x460026 x460027 x460028 x460029))))) else (none)) else (none)) else (some true)
def pentaglotlaw42_OrthographyReturns.j4 : Nat → List (List ByteArray) → List ByteArray → Int → List ByteArray → List (S57) → Bool → ByteArray → Bool → List (S80) → List (S85) → List (S180) → List (S183) → List (List Int) → Int → Int → List (S85) → Int → List ByteArray → List ByteArray → Bool → ByteArray → Int → ByteArray → Bool → Int → Int → List (S186) → List (S186) → List ByteArray → List ByteArray → List ByteArray → Bool → List (S188) → List (S190) → List (S194) → ByteArray → Option (Bool)
 | 0, _, _, _, _, _, _, _, _, _, _, _, _, _, _, _, _, _, _, _, _, _, _, _, _, _, _, _, _, _, _, _, _, _, _, _, _ => none
 | k + 1, x1, x7, x9, x12, x14, x106, x460000, x460001, x460002, x460003, x460004, x460005, x460006, x460007, x460008, x460009, x460010, x460011, x460012, x460013, x460014, x460015, x460016, x460017, x460018, x460019, x460020, x460021, x460022, x460023, x460024, x460025, x460026, x460027, x460028, x460029 => if x106 = true then (some false) else (pentaglotlaw42_OrthographyReturns.l1 k x1 x7 x9 x12 x14 0 x460000 x460001 x460002 x460003 x460004 x460005 x460006 x460007 x460008 x460009 x460010 x460011 x460012 x460013 x460014 x460015 x460016 x460017 x460018 x460019 x460020 x460021 x460022 x460023 x460024 x460025 x460026 x460027 x460028 x460029)
def pentaglotlaw42_OrthographyReturns.l1 : Nat → List (List ByteArray) → List ByteArray → Int → List ByteArray → List (S57) → Int → ByteArray → Bool → List (S80) → List (S85) → List (S180) → List (S183) → List (List Int) → Int → Int → List (S85) → Int → List ByteArray → List ByteArray → Bool → ByteArray → Int → ByteArray → Bool → Int → Int → List (S186) → List (S186) → List ByteArray → List ByteArray → List ByteArray → Bool → List (S188) → List (S190) → List (S194) → ByteArray → Option (Bool)
 | 0, _, _, _, _, _, _, _, _, _, _, _, _, _, _, _, _, _, _, _, _, _, _, _, _, _, _, _, _, _, _, _, _, _, _, _, _ => none
 | k + 1, x1, x7, x9, x12, x14, x15, x460000, x460001, x460002, x460003, x460004, x460005, x460006, x460007, x460008, x460009, x460010, x460011, x460012, x460013, x460014, x460015, x460016, x460017, x460018, x460019, x460020, x460021, x460022, x460023, x460024, x460025, x460026, x460027, x460028, x460029 => if x15 < (x12.length : Int) then (if 0 ≤ x15 then (if x15 < (x14.length : Int) then ((clitic_AttachAll.f k x460002 x460009 ((rd_T57 x14 x15).f0) ((rd_T57 x14 x15).f1)).bind fun bt482 => (if bt482.2 = 0 then (if bt482.1.toList = (rdOf ByteArray.empty x12 x15).toList then (pentaglotlaw42_OrthographyReturns.l1 k x1 x7 x9 x12 x14 (wrap64 (x15 + 1)) x460000 x460001 x460002 x460003 x460004 x460005 x460006 x460007 x460008 x460009 x460010 x460011 x460012 x460013 x460014 x460015 x460016 x460017 x460018 x460019 x460020 x460021 x460022 x460023 x460024 x460025 x460026 x460027 x460028 x460029) else (some false)) else (some false))) else (none)) else (none)) else (pentaglotlaw42_OrthographyReturns.l0 k x1 x7 (wrap64 (x9 + 1)) x460000 x460001 x460002 x460003 x460004 x460005 x460006 x460007 x460008 x460009 x460010 x460011 x460012 x460013 x460014 x460015 x460016 x460017 x460018 x460019 x460020 x460021 x460022 x460023 x460024 x460025 x460026 x460027 x460028 x460029)
end
def pentaglotlaw42_OrthographyReturns.f (k : Nat) (a_0 : ByteArray) (a_1 : Bool) (l_2 : List (S80)) (l_3 : List (S85)) (l_4 : List (S180)) (l_5 : List (S183)) (l_6 : List (List Int)) (a_7 : Int) (a_8 : Int) (l_9 : List (S85)) (a_a : Int) (l_b : List ByteArray) (l_c : List ByteArray) (a_d : Bool) (a_e : ByteArray) (a_f : Int) (a_g : ByteArray) (a_h : Bool) (a_i : Int) (a_j : Int) (l_k : List (S186)) (l_l : List (S186)) (l_m : List ByteArray) (l_n : List ByteArray) (l_o : List ByteArray) (a_p : Bool) (l_q : List (S188)) (l_r : List (S190)) (l_s : List (S194)) (a_t : ByteArray) (l1 : List (List ByteArray)) : Option (Bool) := (pentaglotlaw42_awake.f).bind fun t460 => (if t460 = true then ((pentaglotlaw42_few.f a_0 a_1 l_2 l_3 l_4 l_5 l_6 a_7 a_8 l_9 a_a l_b l_c a_d a_e a_f a_g a_h a_i a_j l_k l_l l_m l_n l_o a_p l_q l_r l_s a_t).bind fun t461 => (if t461 = true then (pentaglotlaw42_OrthographyReturns.j0 k l1 (decide ((l1.length : Int) > 8)) a_0 a_1 l_2 l_3 l_4 l_5 l_6 a_7 a_8 l_9 a_a l_b l_c a_d a_e a_f a_g a_h a_i a_j l_k l_l l_m l_n l_o a_p l_q l_r l_s a_t) else (pentaglotlaw42_OrthographyReturns.j0 k l1 true a_0 a_1 l_2 l_3 l_4 l_5 l_6 a_7 a_8 l_9 a_a l_b l_c a_d a_e a_f a_g a_h a_i a_j l_k l_l l_m l_n l_o a_p l_q l_r l_s a_t))) else (some false))
def pentaglotlaw42_OrthographyReturns.T14 : Bool × List (List Nat × List Nat) := (true, [([], []), ([], []), ([], []), ([1, 2], [1, 2]), ([3], [3]), ([0, 4], [0, 4]), ([5], [5]), ([6], [6]), ([6], [6]), ([7, 5, 0, 1, 2, 3, 4, 5, 6, 7], [7]), ([8, 9, 0, 1, 2, 3, 4, 5, 6, 7, 8, 9], [8])])
def pentaglotlaw42_OrthographyReturns.B14 : List Nat := [0, 0, 0, 6, 14, 31, 63, 127, 127, 255, 1023]
theorem pentaglotlaw42_OrthographyReturns.tab14 : rtab .any (opsOf Tryd.f5 14) = pentaglotlaw42_OrthographyReturns.T14 := by kernel_rfl
theorem pentaglotlaw42_OrthographyReturns.bits14 : waitsOk pentaglotlaw42_OrthographyReturns.T14.2 pentaglotlaw42_OrthographyReturns.B14 = true := by kernel_rfl
def pentaglotlaw42_OrthographyReturns.T15 : Bool × List (List Nat × List Nat) := (true, [([], []), ([], []), ([], []), ([1, 2], [1, 2]), ([3], [3]), ([0, 4], [0, 4]), ([5], [5]), ([6], [6]), ([6], [6]), ([7, 5, 0, 1, 2, 3, 4, 5, 6, 7], [7]), ([8, 9, 0, 1, 2, 3, 4, 5, 6, 7, 8, 9], [8])])
def pentaglotlaw42_OrthographyReturns.B15 : List Nat := [0, 0, 0, 6, 14, 31, 63, 127, 127, 255, 1023]
theorem pentaglotlaw42_OrthographyReturns.tab15 : rtab .any (opsOf Tryd.f5 15) = pentaglotlaw42_OrthographyReturns.T15 := by kernel_rfl
theorem pentaglotlaw42_OrthographyReturns.bits15 : waitsOk pentaglotlaw42_OrthographyReturns.T15.2 pentaglotlaw42_OrthographyReturns.B15 = true := by kernel_rfl
def pentaglotlaw42_OrthographyReturns.T22 : Bool × List (List Nat × List Nat) := (true, [([], []), ([0], [0]), ([1], [1]), ([], []), ([3], [3]), ([], []), ([], []), ([5, 6], [5, 6]), ([7], [7]), ([2, 4, 8], [2, 4, 8]), ([9], [9]), ([10], [10]), ([10], [10]), ([11, 9, 0, 1, 2, 3, 4, 5, 6, 7, 8, 9, 10, 11], [11]), ([12, 13, 0, 1, 2, 3, 4, 5, 6, 7, 8, 9, 10, 11, 12, 13], [12])])
def pentaglotlaw42_OrthographyReturns.B22 : List Nat := [0, 1, 3, 0, 8, 0, 0, 96, 224, 511, 1023, 2047, 2047, 4095, 16383]
theorem pentaglotlaw42_OrthographyReturns.tab22 : rtab .any (opsOf Tryd.f5 22) = pentaglotlaw42_OrthographyReturns.T22 := by kernel_rfl
theorem pentaglotlaw42_OrthographyReturns.bits22 : waitsOk pentaglotlaw42_OrthographyReturns.T22.2 pentaglotlaw42_OrthographyReturns.B22 = true := by kernel_rfl
theorem LPrF5x1 {p : Prop} (h : p := by
  first | (refine Eq.trans (load_held 41 (.tmp 2) (by rfl) gb459 (by rfl) 41 _ _ s0 Tryd.underlying41 (by rfl) (by kernel_rfl)) ?_; with_reducible rfl) | (clear s0; go_simp; with_reducible rfl) | (have z1_ : World.cell? w' ⟨gb459, 2, none⟩ = some (.slice A_2 l_2.length c_2) := (blk_cell s0 2).trans rfl; have z2_ : World.cell? w' ⟨gb459, 9, none⟩ = some (.slice A_9 l_9.length c_9) := (blk_cell s0 9).trans rfl; go_simp; with_reducible rfl)
  skip) : p := h
theorem LPrF5x2 {p : Prop} (h : p := by
  go_ret
  exact ⟨tE, by repeat (first | (with_reducible first | exact HB.out | apply below_alloc | apply pw_below_drewN | apply below_drew1 | refine below_set ?_ GE459.out) | exact HB.out)⟩) : p := h
theorem LPrF5x3 {p : Prop} (h : p := by
  have H' := Aside0.mk H
  clear H
  have z1_ : 0 ≤ (x9_4 : Int) := oD
  have z2_ : x9_4 < (t464.length : Int) := oD
  obtain ⟨z3_, z4_, z5_⟩ := Kd.at_string (Kd.R_reads' HO_7.out).2.2 x9_4 z1_ z2_
  obtain rfl : ad471 = z3_ := (by injection z4_)
  replace z1_ := eq_true z1_
  replace z2_ := eq_true z2_
  go_wp2
  go_meet
  case rel => exact ⟨_, (true), tV1, H', ⟨by have := HJ4.out; have := HJ15.out; have := HJ21.out; have := HK4.out; first | omega | exact Nat.le_refl _⟩, ⟨dR HO_7⟩, ⟨dR HO474⟩, ⟨dS HO479⟩, ⟨tK BK459⟩, ⟨tB HB⟩⟩) : p := h
set_option maxRecDepth 1000000 in
theorem LPrF5xh1 {p : Prop} (h : p := by
  refine pT 0 114 ?_
  refine pT 1 115 ?_
  refine pT 3 117 ?_
  refine pT 5 119 ?_
  refine pT 6 120 ?_
  refine pT 7 121 ?_
  refine take_ (i := 2) (N := some 116) (v := ?_) (a' := ?_) #[true, true, true, true, false, true, true, true, false, false, false, false, false, false, false] rfl rfl (take_ofW HT_.out HW_.out (by kernel_rfl)) (fun _ _ _ h => h) (Or.inl ⟨by rfl, ?_⟩) hHeld ?_ ?_
  rotate_left
  ·
   rintro w' ⟨s0, s1, s2⟩
   exact LPrF5x1
  rotate_left
  ·
   exact GpR
  refine take_ (i := 4) (N := some 118) (v := ?_) (a' := ?_) #[true, true, true, true, true, true, true, true, false, false, false, false, false, false, false] rfl rfl (take_ofW HT_.out HW_.out (by kernel_rfl)) (fun _ _ _ h => h) (Or.inl ⟨by rfl, ?_⟩) hHeld ?_ ?_
  rotate_left
  ·
   rintro w' ⟨s0, s1, s2⟩
   exact LPrF5x1
  rotate_left
  ·
   exact GpR
  refine take_ (i := 8) (N := some 122) (v := ?_) (a' := ?_) #[true, true, true, true, true, true, true, true, true, false, false, false, false, false, false] rfl rfl (take_ofW HT_.out HW_.out (by kernel_rfl)) (fun _ _ _ h => h) (Or.inl ⟨by rfl, ?_⟩) hHeld ?_ ?_
  rotate_left
  ·
   rintro w' ⟨s0, s1, s2⟩
   exact LPrF5x1
  rotate_left
  ·
   exact GpR
  refine one_ (i := 9) (N := some 123) #[true, true, true, true, true, true, true, true, true, true, false, false, false, false, false] rfl rfl (one_of HT_.out (by kernel_rfl)) (by decide) (fun K hK => ?_)
  refine goes_ Tryd.func16 (by kernel_rfl) rfl #[.slice A_2 l_2.length c_2, .slice A_9 l_9.length c_9, .agg #[.string ((rd_T57 t477 x15_6).f0), .slice A481_1 ((rd_T57 t477 x15_6).f1).length c481_1]] (by rfl) rfl rfl Gc2 ?_
  with_reducible refine (clitic_AttachAll.calls k6 _ _ l_2 _ _ l_9 ((rd_T57 t477 x15_6).f0) _ _ ((rd_T57 t477 x15_6).f1) t482 t483 _ ?sT ?s1 ?s2 ?s3 ?s4 ?s5 ?s6 A51.out).mono ?_
  (case sT => exact Gc1)
  (case s1 => exact tC HR_2 HB)
  (case s2 => exact HC_2.out)
  (case s3 => exact tC HR_9 HB)
  (case s4 => exact HC_9.out)
  (case s5 => repeat (first | exact Gc11 | (with_reducible refine Kd.C_alloc ?_ _) | (with_reducible refine Kd.C_drewN ?_ _) | (with_reducible refine Kd.C_drew ?_)))
  (case s6 => exact HC481_1.out)
  first
  | (have mk_ := mk0_
     rintro e w57 ⟨rfl, hb⟩
     have HS30_ := (hb.cell (World.block_lt_of_cell? _ _ (hHeld.2.1))).trans (hHeld.2.1)
     have HS31_ := (hb.cell (World.block_lt_of_cell? _ _ (hHeld.2.2))).trans (hHeld.2.2)
     refine ⟨_, rfl, ?_⟩
     have n0_ := Aside0.mk (Kd.R_below (dR HO_7) hb)
     have n1_ := Aside0.mk (Kd.R_below (dR HO_12) hb)
     have n2_ := Aside0.mk (Kd.S_below (dS HO_14) hb)
     have n3_ := Aside0.mk (Kd.R_below (dR HL481_1) hb)
     have n4_ := Aside0.mk (blk_below (tK BK459) hb)
     have n5_ := Aside0.mk (Kd.C_below Gc11 hb)
     have n6_ := Aside0.mk (below_step (tB HB) hb)
     revert n0_ n1_ n2_ n3_ n4_ n5_ n6_
     clear HO_7 HO_12 HO_14 HL481_1 BK459 HR481_1 HB
     intro HO_7 HO_12 HO_14 HL481_1 BK459 HR481_1 HB
     (try clear hb)
     refine hK.out _ _ ⟨BK459.out, HS30_, HS31_⟩ (fun hHeld => ?_)
     clear hK K
     refine nR 123 ?_
     refine pT 10 113 ?_
     refine pT 11 124 ?_
     refine pT 12 125 ?_
     refine pT 13 16 ?_
     refine pT 14 17 ?_
     refine done_ (done_of HT_.out (by kernel_rfl)) ?_
     have p484 : 0 ≤ (x15_6 : Int) := oD
     have q484 : x15_6 < (t472.length : Int) := oD
     obtain ⟨ad484, e484, hx484_0⟩ := Kd.at_string (Kd.R_reads' HO_12.out).2.2 x15_6 p484 q484
     cases e484
     replace p484 := eq_true p484
     replace q484 := eq_true q484
     try go_wp2
     go_roundg k6
     case measure => have := HJ4.out; have := HJ15.out; have := HJ21.out; have := HK4.out; have := HJ33.out; have := HK6.out; omega
     case rel => exact ⟨(wrap64 (x15_6 + 1)), tV1, H', ⟨by have := HJ4.out; have := HJ15.out; have := HJ21.out; have := HK4.out; have := HJ33.out; have := HK6.out; omega⟩, ⟨dR HO_7⟩, ⟨dR HO_12⟩, ⟨dS HO_14⟩, ⟨tK BK459⟩, ⟨tB HB⟩⟩)
  | (have mk_ := mk1_
     rintro e w61 ⟨rfl, hb⟩
     have HS30_ := (hb.cell (World.block_lt_of_cell? _ _ (hHeld.2.1))).trans (hHeld.2.1)
     have HS31_ := (hb.cell (World.block_lt_of_cell? _ _ (hHeld.2.2))).trans (hHeld.2.2)
     refine ⟨_, rfl, ?_⟩
     have n0_ := Aside0.mk (Kd.R_below (dR HO_7) hb)
     have n1_ := Aside0.mk (Kd.R_below (dR HO_12) hb)
     have n2_ := Aside0.mk (Kd.S_below (dS HO_14) hb)
     have n3_ := Aside0.mk (Kd.R_below (dR HL481_1) hb)
     have n4_ := Aside0.mk (blk_below (tK BK459) hb)
     have n5_ := Aside0.mk (Kd.C_below Gc11 hb)
     have n6_ := Aside0.mk (below_step (tB HB) hb)
     revert n0_ n1_ n2_ n3_ n4_ n5_ n6_
     clear HO_7 HO_12 HO_14 HL481_1 BK459 HR481_1 HB
     intro HO_7 HO_12 HO_14 HL481_1 BK459 HR481_1 HB
     (try clear hb)
     refine hK.out _ _ ⟨BK459.out, HS30_, HS31_⟩ (fun hHeld => ?_)
     clear hK K
     refine nR 123 ?_
     refine pT 10 113 ?_
     refine pT 11 124 ?_
     refine pT 12 125 ?_
     refine pT 13 16 ?_
     refine pT 14 17 ?_
     refine done_ (done_of HT_.out (by kernel_rfl)) ?_
     have p484 : 0 ≤ (x15_6 : Int) := oD
     have q484 : x15_6 < (t472.length : Int) := oD
     obtain ⟨ad484, e484, hx484_0⟩ := Kd.at_string (Kd.R_reads' HO_12.out).2.2 x15_6 p484 q484
     cases e484
     replace p484 := eq_true p484
     replace q484 := eq_true q484
     try go_wp2
     exact LPrF5x2)
  | (have mk_ := mk2_
     rintro e w65 ⟨rfl, hb⟩
     have HS30_ := (hb.cell (World.block_lt_of_cell? _ _ (hHeld.2.1))).trans (hHeld.2.1)
     have HS31_ := (hb.cell (World.block_lt_of_cell? _ _ (hHeld.2.2))).trans (hHeld.2.2)
     refine ⟨_, rfl, ?_⟩
     have n0_ := Aside0.mk (Kd.R_below (dR HO_7) hb)
     have n1_ := Aside0.mk (Kd.R_below (dR HO_12) hb)
     have n2_ := Aside0.mk (Kd.S_below (dS HO_14) hb)
     have n3_ := Aside0.mk (Kd.R_below (dR HL481_1) hb)
     have n4_ := Aside0.mk (blk_below (tK BK459) hb)
     have n5_ := Aside0.mk (Kd.C_below Gc11 hb)
     have n6_ := Aside0.mk (below_step (tB HB) hb)
     revert n0_ n1_ n2_ n3_ n4_ n5_ n6_
     clear HO_7 HO_12 HO_14 HL481_1 BK459 HR481_1 HB
     intro HO_7 HO_12 HO_14 HL481_1 BK459 HR481_1 HB
     (try clear hb)
     refine hK.out _ _ ⟨BK459.out, HS30_, HS31_⟩ (fun hHeld => ?_)
     clear hK K
     refine nR 123 ?_
     refine pT 10 113 ?_
     refine pT 11 124 ?_
     refine pT 12 125 ?_
     refine pT 13 16 ?_
     refine pT 14 17 ?_
     refine done_ (done_of HT_.out (by kernel_rfl)) ?_
     try go_wp2
     exact LPrF5x2)) : p := h
theorem LPrF5xh2 {p : Prop} (h : p := by
  have p481 : 0 ≤ (x15_6 : Int) := oD
  have q481 : x15_6 < (t477.length : Int) := oD
  obtain ⟨ad481, A481_1, c481_1, e481, hx481_0, hx481_1, hl481_1, hi481_1⟩ := at_T57 (Kd.S_reads' HO_14.out).2.2 x15_6 p481 q481
  cases e481
  obtain ⟨ce481, hce481, hMe481, hcc481⟩ := Kd.S_get HO_14.out z57 x15_6 p481 (by first | exact q481 | exact oD | (have e_ := (Kd.S_reads' HO_14.out).1; omega))
  obtain ⟨ve481_1, rfl, ge481_1⟩ := k57_openM hMe481
  have hv481_1 := hcc481 1 _ rfl
  rw [add_field _ _ 1 (by omega)] at hv481_1
  replace hv481_1 := Option.some.inj (hv481_1.symm.trans hx481_1)
  rw [hv481_1] at ge481_1
  have HL481_1 := Aside0.mk (show Kd.R Kd.string 9 _ _ _ _ ((rd_T57 t477 x15_6).f1) from ge481_1)
  clear hv481_1 ge481_1; clear hcc481 hce481
  have HR481_1 := Aside0.mk hi481_1
  have HC481_1 := Aside0.mk hl481_1
  clear hi481_1 hl481_1
  replace p481 := eq_true p481
  replace q481 := eq_true q481
  refine start_ (n := 15) (S := fun w' => w'.heap[gb459]? = some (.cells #[.string a_0, .bool a_1, .slice A_2 l_2.length c_2, .slice A_3 l_3.length c_3, .slice A_4 l_4.length c_4, .slice A_5 l_5.length c_5, .slice A_6 l_6.length c_6, .int .i64 a_7, .int .i64 a_8, .slice A_9 l_9.length c_9, .int .i64 a_a, .slice A_b l_b.length c_b, .slice A_c l_c.length c_c, .bool a_d, .string a_e, .int .i64 a_f, .string a_g, .bool a_h, .int .i64 a_i, .int .i64 a_j, .slice A_k l_k.length c_k, .slice A_l l_l.length c_l, .slice A_m l_m.length c_m, .slice A_n l_n.length c_n, .slice A_o l_o.length c_o, .bool a_p, .slice A_q l_q.length c_q, .slice A_r l_r.length c_r, .slice A_s l_s.length c_s, .string a_t] 41 (0, 0)) ∧ w'.cell? (ad481.add ((x15_6).toNat * 2)) = some (.string ((rd_T57 t477 x15_6).f0)) ∧ w'.cell? ⟨(ad481.add ((x15_6).toNat * 2)).block, (ad481.add ((x15_6).toNat * 2)).off + 1, none⟩ = some (.slice A481_1 ((rd_T57 t477 x15_6).f1).length c481_1)) (ds := []) #[false, false, false, false, false, false, false, false, false, false, false, false, false, false, false] (by kernel_rfl) rfl rfl ⟨BK459.out, hx481_0, hx481_1⟩ (fun hHeld => ?_); refine with_tabW pentaglotlaw42_OrthographyReturns.tab22 pentaglotlaw42_OrthographyReturns.bits22 (fun HT_ HW_ => ?_)
  first
  | (have mk_ := mk0_
     generalize wr.drew = w55 at HO_7 HO_12 HO_14 BK459 HB HL481_1 HR481_1 hx481_0 hx481_1 hHeld ⊢
     have mk0_ := trivial
     exact LPrF5xh1)
  | (have mk_ := mk1_
     generalize wr.drew = w59 at HO_7 HO_12 HO_14 BK459 HB HL481_1 HR481_1 hx481_0 hx481_1 hHeld ⊢
     have mk1_ := trivial
     exact LPrF5xh1)
  | (have mk_ := mk2_
     generalize wr.drew = w63 at HO_7 HO_12 HO_14 BK459 HB HL481_1 HR481_1 hx481_0 hx481_1 hHeld ⊢
     have mk2_ := trivial
     exact LPrF5xh1)) : p := h
theorem LPrF5xh3 {p : Prop} (h : p := by
  try go_wp2
  have n0_ := Aside0.mk (Kd.R_drew HO_7.out)
  have n1_ := Aside0.mk (Kd.R_drew HO_12.out)
  have n2_ := Aside0.mk (Kd.S_drew HO_14.out)
  have n3_ := Aside0.mk (blk_drew BK459.out)
  have n4_ := Aside0.mk (below_drew1 HB.out)
  revert n0_ n1_ n2_ n3_ n4_
  clear HO_7 HO_12 HO_14 BK459 HB
  intro HO_7 HO_12 HO_14 BK459 HB
  first
  | (have mk_ := mk0_
     obtain ⟨Ao56, co56, eo56⟩ := Kd.S_slice HO_14.out
     (first | subst eo56 | (injection eo56 with f1_ f2_ f3_; have f4_ := f1_.symm; have f5_ := f3_.symm; clear f1_ f2_ f3_; subst f4_; subst f5_))
     have mk0_ := trivial
     exact LPrF5xh2)
  | (have mk_ := mk1_
     obtain ⟨Ao60, co60, eo60⟩ := Kd.S_slice HO_14.out
     (first | subst eo60 | (injection eo60 with f1_ f2_ f3_; have f4_ := f1_.symm; have f5_ := f3_.symm; clear f1_ f2_ f3_; subst f4_; subst f5_))
     have mk1_ := trivial
     exact LPrF5xh2)
  | (have mk_ := mk2_
     obtain ⟨Ao64, co64, eo64⟩ := Kd.S_slice HO_14.out
     (first | subst eo64 | (injection eo64 with f1_ f2_ f3_; have f4_ := f1_.symm; have f5_ := f3_.symm; clear f1_ f2_ f3_; subst f4_; subst f5_))
     have mk2_ := trivial
     exact LPrF5xh2)) : p := h
set_option maxHeartbeats 8000000 in
set_option maxRecDepth 100000 in
theorem pentaglotlaw42_OrthographyReturns.calls (k : Nat) (a_0 : ByteArray) (a_1 : Bool) (A_2 : Option Addr) (c_2 : Nat) (l_2 : List (S80)) (A_3 : Option Addr) (c_3 : Nat) (l_3 : List (S85)) (A_4 : Option Addr) (c_4 : Nat) (l_4 : List (S180)) (A_5 : Option Addr) (c_5 : Nat) (l_5 : List (S183)) (A_6 : Option Addr) (c_6 : Nat) (l_6 : List (List Int)) (a_7 : Int) (a_8 : Int) (A_9 : Option Addr) (c_9 : Nat) (l_9 : List (S85)) (a_a : Int) (A_b : Option Addr) (c_b : Nat) (l_b : List ByteArray) (A_c : Option Addr) (c_c : Nat) (l_c : List ByteArray) (a_d : Bool) (a_e : ByteArray) (a_f : Int) (a_g : ByteArray) (a_h : Bool) (a_i : Int) (a_j : Int) (A_k : Option Addr) (c_k : Nat) (l_k : List (S186)) (A_l : Option Addr) (c_l : Nat) (l_l : List (S186)) (A_m : Option Addr) (c_m : Nat) (l_m : List ByteArray) (A_n : Option Addr) (c_n : Nat) (l_n : List ByteArray) (A_o : Option Addr) (c_o : Nat) (l_o : List ByteArray) (a_p : Bool) (A_q : Option Addr) (c_q : Nat) (l_q : List (S188)) (A_r : Option Addr) (c_r : Nat) (l_r : List (S190)) (A_s : Option Addr) (c_s : Nat) (l_s : List (S194)) (a_t : ByteArray) (A1 : Option Addr) (c1 : Nat) (l1 : List (List ByteArray)) (r : Bool) (w : World) (hT : Tabs w) (hr_2 : Kd.C k80 w A_2 l_2.length l_2) (hc_2 : l_2.length ≤ c_2) (hr_3 : Kd.C k85 w A_3 l_3.length l_3) (hc_3 : l_3.length ≤ c_3) (hr_4 : Kd.C k180 w A_4 l_4.length l_4) (hc_4 : l_4.length ≤ c_4) (hr_5 : Kd.C k183 w A_5 l_5.length l_5) (hc_5 : l_5.length ≤ c_5) (hr_6 : Kd.C (Kd.slice 78 (Kd.int .u32)) w A_6 l_6.length l_6) (hc_6 : l_6.length ≤ c_6) (hr_9 : Kd.C k85 w A_9 l_9.length l_9) (hc_9 : l_9.length ≤ c_9) (hr_b : Kd.C Kd.string w A_b l_b.length l_b) (hc_b : l_b.length ≤ c_b) (hr_c : Kd.C Kd.string w A_c l_c.length l_c) (hc_c : l_c.length ≤ c_c) (hr_k : Kd.C k186 w A_k l_k.length l_k) (hc_k : l_k.length ≤ c_k) (hr_l : Kd.C k186 w A_l l_l.length l_l) (hc_l : l_l.length ≤ c_l) (hr_m : Kd.C Kd.string w A_m l_m.length l_m) (hc_m : l_m.length ≤ c_m) (hr_n : Kd.C Kd.string w A_n l_n.length l_n) (hc_n : l_n.length ≤ c_n) (hr_o : Kd.C Kd.string w A_o l_o.length l_o) (hc_o : l_o.length ≤ c_o) (hr_q : Kd.C k188 w A_q l_q.length l_q) (hc_q : l_q.length ≤ c_q) (hr_r : Kd.C k190 w A_r l_r.length l_r) (hc_r : l_r.length ≤ c_r) (hr_s : Kd.C k194 w A_s l_s.length l_s) (hc_s : l_s.length ≤ c_s) (hr1 : Kd.C (Kd.slice 9 Kd.string) w A1 l1.length l1) (hc1 : l1.length ≤ c1) (h : pentaglotlaw42_OrthographyReturns.f k a_0 a_1 l_2 l_3 l_4 l_5 l_6 a_7 a_8 l_9 a_a l_b l_c a_d a_e a_f a_g a_h a_i a_j l_k l_l l_m l_n l_o a_p l_q l_r l_s a_t l1 = some r) :
 Calls Tryd.prog 5 #[.agg #[.string a_0, .bool a_1, .slice A_2 l_2.length c_2, .slice A_3 l_3.length c_3, .slice A_4 l_4.length c_4, .slice A_5 l_5.length c_5, .slice A_6 l_6.length c_6, .int .i64 a_7, .int .i64 a_8, .slice A_9 l_9.length c_9, .int .i64 a_a, .slice A_b l_b.length c_b, .slice A_c l_c.length c_c, .bool a_d, .string a_e, .int .i64 a_f, .string a_g, .bool a_h, .int .i64 a_i, .int .i64 a_j, .slice A_k l_k.length c_k, .slice A_l l_l.length c_l, .slice A_m l_m.length c_m, .slice A_n l_n.length c_n, .slice A_o l_o.length c_o, .bool a_p, .slice A_q l_q.length c_q, .slice A_r l_r.length c_r, .slice A_s l_s.length c_s, .string a_t], .slice A1 l1.length c1] w fun e w' => e = .returned (.bool r) ∧ Below w.heap.size w w' := by
 have HT := Aside0.mk hT
 clear hT
 have hu41 := Tryd.underlying41
 have hu57 := Tryd.underlying57
 have HR_2 := Aside0.mk hr_2
 have HC_2 := Aside0.mk hc_2
 clear hr_2 hc_2
 have HR_3 := Aside0.mk hr_3
 have HC_3 := Aside0.mk hc_3
 clear hr_3 hc_3
 have HR_4 := Aside0.mk hr_4
 have HC_4 := Aside0.mk hc_4
 clear hr_4 hc_4
 have HR_5 := Aside0.mk hr_5
 have HC_5 := Aside0.mk hc_5
 clear hr_5 hc_5
 have HR_6 := Aside0.mk hr_6
 have HC_6 := Aside0.mk hc_6
 clear hr_6 hc_6
 have HR_9 := Aside0.mk hr_9
 have HC_9 := Aside0.mk hc_9
 clear hr_9 hc_9
 have HR_b := Aside0.mk hr_b
 have HC_b := Aside0.mk hc_b
 clear hr_b hc_b
 have HR_c := Aside0.mk hr_c
 have HC_c := Aside0.mk hc_c
 clear hr_c hc_c
 have HR_k := Aside0.mk hr_k
 have HC_k := Aside0.mk hc_k
 clear hr_k hc_k
 have HR_l := Aside0.mk hr_l
 have HC_l := Aside0.mk hc_l
 clear hr_l hc_l
 have HR_m := Aside0.mk hr_m
 have HC_m := Aside0.mk hc_m
 clear hr_m hc_m
 have HR_n := Aside0.mk hr_n
 have HC_n := Aside0.mk hc_n
 clear hr_n hc_n
 have HR_o := Aside0.mk hr_o
 have HC_o := Aside0.mk hc_o
 clear hr_o hc_o
 have HR_q := Aside0.mk hr_q
 have HC_q := Aside0.mk hc_q
 clear hr_q hc_q
 have HR_r := Aside0.mk hr_r
 have HC_r := Aside0.mk hc_r
 clear hr_r hc_r
 have HR_s := Aside0.mk hr_s
 have HC_s := Aside0.mk hc_s
 clear hr_s hc_s
 have HR1 := Aside0.mk hr1
 have HC1 := Aside0.mk hc1
 clear hr1 hc1
 have HB := Aside0.mk (Below.refl w.heap.size w)
 have H : ((pentaglotlaw42_awake.f).bind fun t460 => (if t460 = true then ((pentaglotlaw42_few.f a_0 a_1 l_2 l_3 l_4 l_5 l_6 a_7 a_8 l_9 a_a l_b l_c a_d a_e a_f a_g a_h a_i a_j l_k l_l l_m l_n l_o a_p l_q l_r l_s a_t).bind fun t461 => (if t461 = true then (pentaglotlaw42_OrthographyReturns.j0 k l1 (decide ((l1.length : Int) > 8)) a_0 a_1 l_2 l_3 l_4 l_5 l_6 a_7 a_8 l_9 a_a l_b l_c a_d a_e a_f a_g a_h a_i a_j l_k l_l l_m l_n l_o a_p l_q l_r l_s a_t) else (pentaglotlaw42_OrthographyReturns.j0 k l1 true a_0 a_1 l_2 l_3 l_4 l_5 l_6 a_7 a_8 l_9 a_a l_b l_c a_d a_e a_f a_g a_h a_i a_j l_k l_l l_m l_n l_o a_p l_q l_r l_s a_t))) else (some false))) = some r := h
 clear h
 replace H := bI H; obtain ⟨t460, A3, H⟩ := H; (try dsimp only at H)
 replace H := iT H; obtain ⟨rfl, H⟩ | ⟨rfl, H⟩ := H
 ·
  have HC5 := Aside0.mk H
  clear H
  go_enter Tryd.func5, Tryd.ntmps5
  go_upto_region 3 with (first | ((with_reducible refine gate_load (t := 41) (p := 2) rfl ?_); (try (refine gate_guard (by rfl) ?_; dsimp only)); refine wpList_load_row rfl 41 (.tmp 2) rfl gb459 rfl 41 _ (0, 0) _ (tK BK459) Tryd.underlying41 rfl (by kernel_rfl) ?_) | ((with_reducible refine gate_dst (N := 2) rfl ?_); (try (refine gate_guard (by rfl) ?_; dsimp only)); refine box_event ?hg (N := 2) ?hd (cs := ?cs) (t := 41) ?hr ?_; (case hd => rfl); (case hg => rfl); (case hr => exact Gc6); intro gb459 hg w6 hbox hb; have n0_ := Aside0.mk (below_step (tB HB) hb); have n1_ := Aside0.mk (hbox); have n2_ := tZ hg (tS HB); have n3_ := tZ hg (tS HB); revert n0_ n1_ n2_ n3_; clear HB; intro HB BK459 GW459 GE459; clear hb hbox hg) | ((with_reducible refine gate_callee (f := 6) rfl ?_); refine goesL_ (some 18) rfl rfl Tryd.func6 (by kernel_rfl) rfl #[] rfl Gc2 ?_; (with_reducible refine (pentaglotlaw42_awake.calls  true _ ?sT A3.out).mono ?_); (case sT => exact Gc1); rintro e w7 ⟨rfl, hb⟩; refine ⟨_, rfl, ?_⟩; have n0_ := Aside0.mk (blk_below (tK BK459) hb); have n1_ := Aside0.mk (below_step (tB HB) hb); revert n0_ n1_; clear BK459 HB; intro BK459 HB; (try clear hb); (try clear hb2); (try clear hk); (try clear hi)))
  (try simp only [Act.put, List.setIfInBounds_toArray, List.set_cons_zero, List.set_cons_succ])
  go_cut [27] (fun v27 wc => ∃ (kq : Nat) (x27_4 : Bool), v27 = .bool x27_4 ∧ Aside0 (pentaglotlaw42_OrthographyReturns.j0 kq l1 x27_4 a_0 a_1 l_2 l_3 l_4 l_5 l_6 a_7 a_8 l_9 a_a l_b l_c a_d a_e a_f a_g a_h a_i a_j l_k l_l l_m l_n l_o a_p l_q l_r l_s a_t = some r) ∧ Aside0 (kq ≤ k) ∧ Aside0 (wc.heap[gb459]? = some (.cells #[.string a_0, .bool a_1, (.slice A_2 l_2.length c_2), (.slice A_3 l_3.length c_3), (.slice A_4 l_4.length c_4), (.slice A_5 l_5.length c_5), (.slice A_6 l_6.length c_6), .int .i64 a_7, .int .i64 a_8, (.slice A_9 l_9.length c_9), .int .i64 a_a, (.slice A_b l_b.length c_b), (.slice A_c l_c.length c_c), .bool a_d, .string a_e, .int .i64 a_f, .string a_g, .bool a_h, .int .i64 a_i, .int .i64 a_j, (.slice A_k l_k.length c_k), (.slice A_l l_l.length c_l), (.slice A_m l_m.length c_m), (.slice A_n l_n.length c_n), (.slice A_o l_o.length c_o), .bool a_p, (.slice A_q l_q.length c_q), (.slice A_r l_r.length c_r), (.slice A_s l_s.length c_s), .string a_t] 41 (0, 0))) ∧ Aside0 (Below w.heap.size w wc))
  case first =>
   have H := HC5.out
   clear HC5
   replace H := bI H; obtain ⟨t461, A8, H⟩ := H; (try dsimp only at H)
   replace H := iT H; obtain ⟨rfl, H⟩ | ⟨rfl, H⟩ := H
   ·
    have H' := Aside0.mk H
    clear H; have hcz10_2 := cel2 BK459 2 rfl; have hcz10_9 := cel2 BK459 9 rfl; have hfz10_2 := blk_frozen BK459.out 2; have hfz10_9 := blk_frozen BK459.out 9
    go_wp2_with (first | ((with_reducible refine gate_load (t := 41) (p := 2) rfl ?_); (try (refine gate_guard (by rfl) ?_; dsimp only)); refine wpList_load_row rfl 41 (.tmp 2) rfl gb459 rfl 41 _ (0, 0) _ (tK BK459) Tryd.underlying41 rfl (by kernel_rfl) ?_) | ((with_reducible refine gate_callee (f := 7) rfl ?_); refine goesL_ (some 21) rfl rfl Tryd.func7 (by kernel_rfl) rfl #[.agg _] rfl Gc2 ?_; (with_reducible refine (pentaglotlaw42_few.calls a_0 a_1 _ _ l_2 _ _ l_3 _ _ l_4 _ _ l_5 _ _ l_6 a_7 a_8 _ _ l_9 a_a _ _ l_b _ _ l_c a_d a_e a_f a_g a_h a_i a_j _ _ l_k _ _ l_l _ _ l_m _ _ l_n _ _ l_o a_p _ _ l_q _ _ l_r _ _ l_s a_t true _ (tC HR_2 HB) HC_2.out (tC HR_3 HB) HC_3.out (tC HR_4 HB) HC_4.out (tC HR_5 HB) HC_5.out (tC HR_6 HB) HC_6.out (tC HR_9 HB) HC_9.out (tC HR_b HB) HC_b.out (tC HR_c HB) HC_c.out (tC HR_k HB) HC_k.out (tC HR_l HB) HC_l.out (tC HR_m HB) HC_m.out (tC HR_n HB) HC_n.out (tC HR_o HB) HC_o.out (tC HR_q HB) HC_q.out (tC HR_r HB) HC_r.out (tC HR_s HB) HC_s.out A8.out).mono ?_); rintro e w11 ⟨rfl, hb⟩; refine ⟨_, rfl, ?_⟩; have n0_ := Aside0.mk (blk_below (tK BK459) hb); have n1_ := Aside0.mk (below_step (tB HB) hb); revert n0_ n1_; clear BK459 HB; intro BK459 HB; (try clear hb); (try clear hb2); (try clear hk); (try clear hi)))
    go_meet
    case rel => exact ⟨_, (decide ((l1.length : Int) > 8)), tV1, H', ⟨tU⟩, ⟨tK BK459⟩, ⟨tB HB⟩⟩
   ·
    have H' := Aside0.mk H
    clear H; have hcz12_2 := cel2 BK459 2 rfl; have hcz12_9 := cel2 BK459 9 rfl; have hfz12_2 := blk_frozen BK459.out 2; have hfz12_9 := blk_frozen BK459.out 9
    go_wp2_with (first | ((with_reducible refine gate_load (t := 41) (p := 2) rfl ?_); (try (refine gate_guard (by rfl) ?_; dsimp only)); refine wpList_load_row rfl 41 (.tmp 2) rfl gb459 rfl 41 _ (0, 0) _ (tK BK459) Tryd.underlying41 rfl (by kernel_rfl) ?_) | ((with_reducible refine gate_callee (f := 7) rfl ?_); refine goesL_ (some 21) rfl rfl Tryd.func7 (by kernel_rfl) rfl #[.agg _] rfl Gc2 ?_; (with_reducible refine (pentaglotlaw42_few.calls a_0 a_1 _ _ l_2 _ _ l_3 _ _ l_4 _ _ l_5 _ _ l_6 a_7 a_8 _ _ l_9 a_a _ _ l_b _ _ l_c a_d a_e a_f a_g a_h a_i a_j _ _ l_k _ _ l_l _ _ l_m _ _ l_n _ _ l_o a_p _ _ l_q _ _ l_r _ _ l_s a_t false _ (tC HR_2 HB) HC_2.out (tC HR_3 HB) HC_3.out (tC HR_4 HB) HC_4.out (tC HR_5 HB) HC_5.out (tC HR_6 HB) HC_6.out (tC HR_9 HB) HC_9.out (tC HR_b HB) HC_b.out (tC HR_c HB) HC_c.out (tC HR_k HB) HC_k.out (tC HR_l HB) HC_l.out (tC HR_m HB) HC_m.out (tC HR_n HB) HC_n.out (tC HR_o HB) HC_o.out (tC HR_q HB) HC_q.out (tC HR_r HB) HC_r.out (tC HR_s HB) HC_s.out A8.out).mono ?_); rintro e w13 ⟨rfl, hb⟩; refine ⟨_, rfl, ?_⟩; have n0_ := Aside0.mk (blk_below (tK BK459) hb); have n1_ := Aside0.mk (below_step (tB HB) hb); revert n0_ n1_; clear BK459 HB; intro BK459 HB; (try clear hb); (try clear hb2); (try clear hk); (try clear hi)))
    go_meet
    case rel => exact ⟨_, (true), tV1, H', ⟨tU⟩, ⟨tK BK459⟩, ⟨tB HB⟩⟩
  case rest =>
   clear HC5; (try clear c4)
   obtain ⟨kq, x27_4, rfl, HA, HJ4, BK459, HB⟩ := hcut
   cases kq with
   | zero => exact absurd HA.out (by simp [pentaglotlaw42_OrthographyReturns.j0])
   | succ kj4 =>
    have H := HA.out
    clear HA
    simp only [pentaglotlaw42_OrthographyReturns.j0] at H
    replace H := iT H; obtain ⟨rfl, H⟩ | ⟨rfl, H⟩ := H
    ·
     obtain rfl := Option.some.inj H
     go_wp2
     exact LPrF5x2
    ·
     replace H := bI H; obtain ⟨⟨t462, t463⟩, A15, H⟩ := H; (try dsimp only at H)
     have HC16 := Aside0.mk H
     clear H; have hcz17_2 := cel2 BK459 2 rfl; have hcz17_9 := cel2 BK459 9 rfl; have hfz17_2 := blk_frozen BK459.out 2; have hfz17_9 := blk_frozen BK459.out 9
     go_upto_region 6 with (first | ((with_reducible refine gate_load (t := 41) (p := 2) rfl ?_); (try (refine gate_guard (by rfl) ?_; dsimp only)); refine wpList_load_row rfl 41 (.tmp 2) rfl gb459 rfl 41 _ (0, 0) _ (tK BK459) Tryd.underlying41 rfl (by kernel_rfl) ?_) | ((with_reducible refine gate_callee (f := 13) rfl ?_); refine goesL_ (some 31) rfl rfl Tryd.func13 (by kernel_rfl) rfl #[.agg _, .slice A1 l1.length c1] rfl Gc2 ?_; (with_reducible refine (orthography_Text.calls kj4 a_0 a_1 _ _ l_2 _ _ l_3 _ _ l_4 _ _ l_5 _ _ l_6 a_7 a_8 _ _ l_9 a_a _ _ l_b _ _ l_c a_d a_e a_f a_g a_h a_i a_j _ _ l_k _ _ l_l _ _ l_m _ _ l_n _ _ l_o a_p _ _ l_q _ _ l_r _ _ l_s a_t _ _ l1 t462 t463 _ ?sT (tC HR_2 HB) HC_2.out (tC HR_3 HB) HC_3.out (tC HR_4 HB) HC_4.out (tC HR_5 HB) HC_5.out (tC HR_6 HB) HC_6.out (tC HR_9 HB) HC_9.out (tC HR_b HB) HC_b.out (tC HR_c HB) HC_c.out (tC HR_k HB) HC_k.out (tC HR_l HB) HC_l.out (tC HR_m HB) HC_m.out (tC HR_n HB) HC_n.out (tC HR_o HB) HC_o.out (tC HR_q HB) HC_q.out (tC HR_r HB) HC_r.out (tC HR_s HB) HC_s.out (tC HR1 HB) HC1.out A15.out).mono ?_); (case sT => exact Gc1); rintro e w18 ⟨rfl, hb⟩; refine ⟨_, rfl, ?_⟩; have n0_ := Aside0.mk (blk_below (tK BK459) hb); have n1_ := Aside0.mk (below_step (tB HB) hb); revert n0_ n1_; clear BK459 HB; intro BK459 HB; (try clear hb); (try clear hb2); (try clear hk); (try clear hi)))
     (try simp only [Act.put, List.setIfInBounds_toArray, List.set_cons_zero, List.set_cons_succ])
     go_cut [40] (fun v40 wc => ∃ (kq : Nat) (x40_15 : Bool), v40 = .bool x40_15 ∧ Aside0 (pentaglotlaw42_OrthographyReturns.j1 kq l1 t462 x40_15 a_0 a_1 l_2 l_3 l_4 l_5 l_6 a_7 a_8 l_9 a_a l_b l_c a_d a_e a_f a_g a_h a_i a_j l_k l_l l_m l_n l_o a_p l_q l_r l_s a_t = some r) ∧ Aside0 (kq ≤ kj4) ∧ Aside0 (wc.heap[gb459]? = some (.cells #[.string a_0, .bool a_1, (.slice A_2 l_2.length c_2), (.slice A_3 l_3.length c_3), (.slice A_4 l_4.length c_4), (.slice A_5 l_5.length c_5), (.slice A_6 l_6.length c_6), .int .i64 a_7, .int .i64 a_8, (.slice A_9 l_9.length c_9), .int .i64 a_a, (.slice A_b l_b.length c_b), (.slice A_c l_c.length c_c), .bool a_d, .string a_e, .int .i64 a_f, .string a_g, .bool a_h, .int .i64 a_i, .int .i64 a_j, (.slice A_k l_k.length c_k), (.slice A_l l_l.length c_l), (.slice A_m l_m.length c_m), (.slice A_n l_n.length c_n), (.slice A_o l_o.length c_o), .bool a_p, (.slice A_q l_q.length c_q), (.slice A_r l_r.length c_r), (.slice A_s l_s.length c_s), .string a_t] 41 (0, 0))) ∧ Aside0 (Below w.heap.size w wc))
     case first =>
      have H := HC16.out
      clear HC16
      replace H := iE H; obtain ⟨-, c19b0, c19b1, H⟩ | ⟨c19, c19b0, c19b1, H⟩ := H
      ·
       (first | rw [c19b0] | (simp only [i64_w, i32_w]; rw [c19b0]) | skip)
       have H' := Aside0.mk H
       clear H
       go_wp2
       go_meet
       case rel => exact ⟨_, (decide ((t462.size : Int) > 4096)), tV1, H', ⟨by have := HJ4.out; first | omega | exact Nat.le_refl _⟩, ⟨tK BK459⟩, ⟨tB HB⟩⟩
      ·
       (first | rw [c19b0] | (simp only [i64_w, i32_w]; rw [c19b0]) | skip)
       have H' := Aside0.mk H
       clear H
       go_wp2
       go_meet
       case rel => exact ⟨_, (true), tV1, H', ⟨by have := HJ4.out; first | omega | exact Nat.le_refl _⟩, ⟨tK BK459⟩, ⟨tB HB⟩⟩
     case rest =>
      clear HC16; (try clear c4); (try clear c14); (try clear hcz17_2); (try clear hcz17_9); (try clear hfz17_2); (try clear hfz17_9)
      obtain ⟨kq, x40_15, rfl, HA, HJ15, BK459, HB⟩ := hcut
      cases kq with
      | zero => exact absurd HA.out (by simp [pentaglotlaw42_OrthographyReturns.j1])
      | succ kj15 =>
       have H := HA.out
       clear HA
       simp only [pentaglotlaw42_OrthographyReturns.j1] at H
       replace H := iT H; obtain ⟨rfl, H⟩ | ⟨rfl, H⟩ := H
       ·
        obtain rfl := Option.some.inj H
        go_wp2
        exact LPrF5x2
       ·
        replace H := bI H; obtain ⟨⟨t464, t467⟩, A21, H⟩ := H; (try dsimp only at H)
        have HC22 := Aside0.mk H
        clear H; have hcz23_2 := cel2 BK459 2 rfl; have hcz23_9 := cel2 BK459 9 rfl; have hfz23_2 := blk_frozen BK459.out 2; have hfz23_9 := blk_frozen BK459.out 9
        go_upto_region 9 with (first | ((with_reducible refine gate_load (t := 41) (p := 2) rfl ?_); (try (refine gate_guard (by rfl) ?_; dsimp only)); refine wpList_load_row rfl 41 (.tmp 2) rfl gb459 rfl 41 _ (0, 0) _ (tK BK459) Tryd.underlying41 rfl (by kernel_rfl) ?_) | ((with_reducible refine gate_callee (f := 8) rfl ?_); refine goesL_ (some 44) rfl rfl Tryd.func8 (by kernel_rfl) rfl #[.agg _, .string t462] rfl Gc2 ?_; (with_reducible refine (orthography_Sentences.calls a_0 a_1 _ _ l_2 _ _ l_3 _ _ l_4 _ _ l_5 _ _ l_6 a_7 a_8 _ _ l_9 a_a _ _ l_b _ _ l_c a_d a_e a_f a_g a_h a_i a_j _ _ l_k _ _ l_l _ _ l_m _ _ l_n _ _ l_o a_p _ _ l_q _ _ l_r _ _ l_s a_t t462 t464 t467 _ ?sT (tC HR_2 HB) HC_2.out (tC HR_3 HB) HC_3.out (tC HR_4 HB) HC_4.out (tC HR_5 HB) HC_5.out (tC HR_6 HB) HC_6.out (tC HR_9 HB) HC_9.out (tC HR_b HB) HC_b.out (tC HR_c HB) HC_c.out (tC HR_k HB) HC_k.out (tC HR_l HB) HC_l.out (tC HR_m HB) HC_m.out (tC HR_n HB) HC_n.out (tC HR_o HB) HC_o.out (tC HR_q HB) HC_q.out (tC HR_r HB) HC_r.out (tC HR_s HB) HC_s.out A21.out).mono ?_); (case sT => exact Gc1); rintro e w24 ⟨v465, rfl, ho0, hb⟩; refine ⟨_, rfl, ?_⟩; have n0_ := Aside0.mk (Kd.R_lower ho0 (tS HB)); have n1_ := Aside0.mk (blk_below (tK BK459) hb); have n2_ := Aside0.mk (below_step (tB HB) hb); revert n0_ n1_ n2_; clear BK459 HB; intro HO466 BK459 HB; (try clear hb); (try clear hb2); (try clear hk); (try clear hi); (try clear ho0)))
        (try simp only [Act.put, List.setIfInBounds_toArray, List.set_cons_zero, List.set_cons_succ])
        go_cut [55] (fun v55 wc => ∃ (kq : Nat) (x55_21 : Bool), v55 = .bool x55_21 ∧ Aside0 (pentaglotlaw42_OrthographyReturns.j2 kq l1 t464 x55_21 a_0 a_1 l_2 l_3 l_4 l_5 l_6 a_7 a_8 l_9 a_a l_b l_c a_d a_e a_f a_g a_h a_i a_j l_k l_l l_m l_n l_o a_p l_q l_r l_s a_t = some r) ∧ Aside0 (kq ≤ kj15) ∧ Aside0 (Kd.R Kd.string 9 wc w.heap.size (fun _ => True) v465 t464) ∧ Aside0 (wc.heap[gb459]? = some (.cells #[.string a_0, .bool a_1, (.slice A_2 l_2.length c_2), (.slice A_3 l_3.length c_3), (.slice A_4 l_4.length c_4), (.slice A_5 l_5.length c_5), (.slice A_6 l_6.length c_6), .int .i64 a_7, .int .i64 a_8, (.slice A_9 l_9.length c_9), .int .i64 a_a, (.slice A_b l_b.length c_b), (.slice A_c l_c.length c_c), .bool a_d, .string a_e, .int .i64 a_f, .string a_g, .bool a_h, .int .i64 a_i, .int .i64 a_j, (.slice A_k l_k.length c_k), (.slice A_l l_l.length c_l), (.slice A_m l_m.length c_m), (.slice A_n l_n.length c_n), (.slice A_o l_o.length c_o), .bool a_p, (.slice A_q l_q.length c_q), (.slice A_r l_r.length c_r), (.slice A_s l_s.length c_s), .string a_t] 41 (0, 0))) ∧ Aside0 (Below w.heap.size w wc))
        case first =>
         have H := HC22.out
         clear HC22
         replace H := iE H; obtain ⟨-, c25b0, c25b1, H⟩ | ⟨c25, c25b0, c25b1, H⟩ := H
         ·
          (first | rw [c25b0] | (simp only [i64_w, i32_w]; rw [c25b0]) | skip)
          have H' := Aside0.mk H
          clear H
          obtain ⟨Ao26, co26, eo26⟩ := Kd.R_slice HO466.out
          subst eo26
          go_wp2
          go_meet
          case rel => exact ⟨_, (((t464.length : Int) != (l1.length : Int))), tV1, H', ⟨by have := HJ4.out; have := HJ15.out; first | omega | exact Nat.le_refl _⟩, ⟨dR HO466⟩, ⟨tK BK459⟩, ⟨tB HB⟩⟩
         ·
          (first | rw [c25b0] | (simp only [i64_w, i32_w]; rw [c25b0]) | skip)
          have H' := Aside0.mk H
          clear H
          go_wp2
          go_meet
          case rel => exact ⟨_, (true), tV1, H', ⟨by have := HJ4.out; have := HJ15.out; first | omega | exact Nat.le_refl _⟩, ⟨dR HO466⟩, ⟨tK BK459⟩, ⟨tB HB⟩⟩
        case rest =>
         clear HC22; (try clear c4); (try clear c14); (try clear c20); (try clear hcz17_2); (try clear hcz17_9); (try clear hcz23_2); (try clear hcz23_9); (try clear hfz17_2); (try clear hfz17_9); (try clear hfz23_2); (try clear hfz23_9)
         obtain ⟨kq, x55_21, rfl, HA, HJ21, HO_7, BK459, HB⟩ := hcut
         cases kq with
         | zero => exact absurd HA.out (by simp [pentaglotlaw42_OrthographyReturns.j2])
         | succ kj21 =>
          have H := HA.out
          clear HA
          simp only [pentaglotlaw42_OrthographyReturns.j2] at H
          replace H := iT H; obtain ⟨rfl, H⟩ | ⟨rfl, H⟩ := H
          ·
           obtain rfl := Option.some.inj H
           go_wp2
           exact LPrF5x2
          ·
           have H' := Aside0.mk H
           clear H
           go_wp2
           go_loopg [9] kj21 (fun kq v9 w' => ∃ (x9_4 : Int), v9 = .int .i64 x9_4 ∧ Aside0 (pentaglotlaw42_OrthographyReturns.l0 kq l1 t464 x9_4 a_0 a_1 l_2 l_3 l_4 l_5 l_6 a_7 a_8 l_9 a_a l_b l_c a_d a_e a_f a_g a_h a_i a_j l_k l_l l_m l_n l_o a_p l_q l_r l_s a_t = some r) ∧ Aside0 (kq ≤ kj21) ∧ Aside0 (Kd.R Kd.string 9 w' w.heap.size (fun _ => True) v465 t464) ∧ Aside0 (w'.heap[gb459]? = some (.cells #[.string a_0, .bool a_1, (.slice A_2 l_2.length c_2), (.slice A_3 l_3.length c_3), (.slice A_4 l_4.length c_4), (.slice A_5 l_5.length c_5), (.slice A_6 l_6.length c_6), .int .i64 a_7, .int .i64 a_8, (.slice A_9 l_9.length c_9), .int .i64 a_a, (.slice A_b l_b.length c_b), (.slice A_c l_c.length c_c), .bool a_d, .string a_e, .int .i64 a_f, .string a_g, .bool a_h, .int .i64 a_i, .int .i64 a_j, (.slice A_k l_k.length c_k), (.slice A_l l_l.length c_l), (.slice A_m l_m.length c_m), (.slice A_n l_n.length c_n), (.slice A_o l_o.length c_o), .bool a_p, (.slice A_q l_q.length c_q), (.slice A_r l_r.length c_r), (.slice A_s l_s.length c_s), .string a_t] 41 (0, 0))) ∧ Aside0 (Below w.heap.size w w'))
           case atStart => exact ⟨(0), tV1, H', ⟨Nat.le_refl _⟩, ⟨dR HO_7⟩, ⟨tK BK459⟩, ⟨tB HB⟩⟩
           case round =>
            clear H'; (try clear c4); (try clear c14); (try clear c20); (try clear c27); (try clear hcz17_2); (try clear hcz17_9); (try clear hcz23_2); (try clear hcz23_9); (try clear hfz17_2); (try clear hfz17_9); (try clear hfz23_2); (try clear hfz23_9)
            obtain ⟨x9_4, rfl, HA, HK4, HO_7, BK459, HB⟩ := hrel
            cases gk with
            | zero => exact absurd HA.out (by simp [pentaglotlaw42_OrthographyReturns.l0])
            | succ k4 =>
             have H := HA.out
             clear HA
             simp only [pentaglotlaw42_OrthographyReturns.l0] at H
             replace H := iF H; obtain ⟨c28, H⟩ | ⟨c28, H⟩ := H
             ·
              have c28b0 : decide (x9_4 < (t464.length : Int)) = true := decide_eq_true c28
              clear c28
              replace H := iF H; obtain ⟨c29, H⟩ | ⟨c29, H⟩ := H
              ·
               have c29b0 : decide (0 ≤ x9_4) = true := decide_eq_true c29
               clear c29
               replace H := iF H; obtain ⟨c30, H⟩ | ⟨c30, H⟩ := H
               ·
                have c30b0 : decide (x9_4 < (l1.length : Int)) = true := decide_eq_true c30
                clear c30
                replace H := bI H; obtain ⟨⟨t469, t470⟩, A31, H⟩ := H; (try dsimp only at H)
                replace H := bI H; obtain ⟨⟨t472, t475⟩, A32, H⟩ := H; (try dsimp only at H)
                replace H := bI H; obtain ⟨t477, A33, H⟩ := H; (try dsimp only at H)
                have HC34 := Aside0.mk H
                clear H
                obtain ⟨Ao35, co35, eo35⟩ := Kd.R_slice HO_7.out
                subst eo35
                try go_wp2
                have n0_ := Aside0.mk (Kd.R_drew HO_7.out)
                have n1_ := Aside0.mk (blk_drew BK459.out)
                have n2_ := Aside0.mk (below_drew1 HB.out)
                revert n0_ n1_ n2_
                clear HO_7 BK459 HB
                intro HO_7 BK459 HB
                have p468 : 0 ≤ (x9_4 : Int) := oD
                have q468 : x9_4 < (l1.length : Int) := oD
                obtain ⟨ad468, A468_0, c468_0, e468, hx468_0, hl468_0, hi468_0⟩ := at_L10 HR1.out x9_4 p468 q468
                have hw468_0 := hx468_0
                cases e468
                replace hx468_0 := celB HB hx468_0
                have HR468_0 := Aside0.mk hi468_0
                have HC468_0 := Aside0.mk hl468_0
                clear hi468_0 hl468_0
                replace p468 := eq_true p468
                replace q468 := eq_true q468
                refine start_ (n := 11) (S := fun w' => w'.heap[gb459]? = some (.cells #[.string a_0, .bool a_1, .slice A_2 l_2.length c_2, .slice A_3 l_3.length c_3, .slice A_4 l_4.length c_4, .slice A_5 l_5.length c_5, .slice A_6 l_6.length c_6, .int .i64 a_7, .int .i64 a_8, .slice A_9 l_9.length c_9, .int .i64 a_a, .slice A_b l_b.length c_b, .slice A_c l_c.length c_c, .bool a_d, .string a_e, .int .i64 a_f, .string a_g, .bool a_h, .int .i64 a_i, .int .i64 a_j, .slice A_k l_k.length c_k, .slice A_l l_l.length c_l, .slice A_m l_m.length c_m, .slice A_n l_n.length c_n, .slice A_o l_o.length c_o, .bool a_p, .slice A_q l_q.length c_q, .slice A_r l_r.length c_r, .slice A_s l_s.length c_s, .string a_t] 41 (0, 0)) ∧ w'.cell? (ad468.add (x9_4).toNat) = some (.slice A468_0 (rd_L10 l1 x9_4).length c468_0)) (ds := []) #[false, false, false, false, false, false, false, false, false, false, false] (by kernel_rfl) rfl rfl ⟨BK459.out, ((HB.out.cell (World.block_lt_of_cell? w _ hw468_0)).trans hw468_0)⟩ (fun hHeld => ?_); refine with_tabW pentaglotlaw42_OrthographyReturns.tab14 pentaglotlaw42_OrthographyReturns.bits14 (fun HT_ HW_ => ?_)
                generalize wr.drew = w36 at HO_7 BK459 HB HR468_0 hx468_0 hHeld ⊢
                refine pT 1 64 ?_
                refine pT 2 65 ?_
                refine pT 3 66 ?_
                refine take_ (i := 0) (N := some 63) (v := ?_) (a' := ?_) #[true, true, true, true, false, false, false, false, false, false, false] rfl rfl (take_ofW HT_.out HW_.out (by kernel_rfl)) (fun _ _ _ h => h) (Or.inl ⟨by rfl, ?_⟩) hHeld ?_ ?_
                rotate_left
                ·
                 rintro w' ⟨s0, s1⟩
                 exact LPrF5x1
                rotate_left
                ·
                 exact GpR
                refine take_ (i := 4) (N := some 67) (v := ?_) (a' := ?_) #[true, true, true, true, true, false, false, false, false, false, false] rfl rfl (take_ofW HT_.out HW_.out (by kernel_rfl)) (fun _ _ _ h => h) (Or.inl ⟨by rfl, ?_⟩) hHeld ?_ ?_
                rotate_left
                ·
                 rintro w' ⟨s0, s1⟩
                 exact LPrF5x1
                rotate_left
                ·
                 exact GpR
                refine one_ (i := 5) (N := some 68) #[true, true, true, true, true, true, false, false, false, false, false] rfl rfl (one_of HT_.out (by kernel_rfl)) (by decide) (fun K hK => ?_)
                refine goes_ Tryd.func14 (by kernel_rfl) rfl #[.agg _, .slice A468_0 (rd_L10 l1 x9_4).length c468_0] (by rfl) rfl rfl Gc2 ?_
                with_reducible refine (orthography_Sentence.calls k4 a_0 a_1 _ _ l_2 _ _ l_3 _ _ l_4 _ _ l_5 _ _ l_6 a_7 a_8 _ _ l_9 a_a _ _ l_b _ _ l_c a_d a_e a_f a_g a_h a_i a_j _ _ l_k _ _ l_l _ _ l_m _ _ l_n _ _ l_o a_p _ _ l_q _ _ l_r _ _ l_s a_t _ _ (rd_L10 l1 x9_4) t469 t470 _ ?sT ?s1 ?s2 ?s3 ?s4 ?s5 ?s6 ?s7 ?s8 ?s9 ?s10 ?s11 ?s12 ?s13 ?s14 ?s15 ?s16 ?s17 ?s18 ?s19 ?s20 ?s21 ?s22 ?s23 ?s24 ?s25 ?s26 ?s27 ?s28 ?s29 ?s30 ?s31 ?s32 ?s33 ?s34 A31.out).mono ?_
                (case sT => exact Gc1)
                (case s1 => exact tC HR_2 HB)
                (case s2 => exact HC_2.out)
                (case s3 => exact tC HR_3 HB)
                (case s4 => exact HC_3.out)
                (case s5 => exact tC HR_4 HB)
                (case s6 => exact HC_4.out)
                (case s7 => exact tC HR_5 HB)
                (case s8 => exact HC_5.out)
                (case s9 => exact tC HR_6 HB)
                (case s10 => exact HC_6.out)
                (case s11 => exact tC HR_9 HB)
                (case s12 => exact HC_9.out)
                (case s13 => exact tC HR_b HB)
                (case s14 => exact HC_b.out)
                (case s15 => exact tC HR_c HB)
                (case s16 => exact HC_c.out)
                (case s17 => exact tC HR_k HB)
                (case s18 => exact HC_k.out)
                (case s19 => exact tC HR_l HB)
                (case s20 => exact HC_l.out)
                (case s21 => exact tC HR_m HB)
                (case s22 => exact HC_m.out)
                (case s23 => exact tC HR_n HB)
                (case s24 => exact HC_n.out)
                (case s25 => exact tC HR_o HB)
                (case s26 => exact HC_o.out)
                (case s27 => exact tC HR_q HB)
                (case s28 => exact HC_q.out)
                (case s29 => exact tC HR_r HB)
                (case s30 => exact HC_r.out)
                (case s31 => exact tC HR_s HB)
                (case s32 => exact HC_s.out)
                (case s33 => exact tC HR468_0 HB)
                (case s34 => exact HC468_0.out)
                rintro e w37 ⟨rfl, hb⟩
                refine ⟨_, rfl, ?_⟩
                have n0_ := Aside0.mk (Kd.R_below (dR HO_7) hb)
                have n1_ := Aside0.mk (blk_below (tK BK459) hb)
                have n2_ := Aside0.mk (below_step (tB HB) hb)
                revert n0_ n1_ n2_
                clear HO_7 BK459 HB
                intro HO_7 BK459 HB
                (try clear hb)
                refine hK.out _ _ ⟨BK459.out, ((HB.out.cell (World.block_lt_of_cell? w _ hw468_0)).trans hw468_0)⟩ (fun hHeld => ?_)
                clear hK K
                refine nR 68 ?_
                refine pT 6 62 ?_
                refine pT 7 69 ?_
                refine pT 8 70 ?_
                refine pT 9 10 ?_
                refine pT 10 11 ?_
                refine done_ (done_of HT_.out (by kernel_rfl)) ?_
                try go_wp2
                have n0_ := Aside0.mk (Kd.R_drew HO_7.out)
                have n1_ := Aside0.mk (blk_drew BK459.out)
                have n2_ := Aside0.mk (below_drew1 HB.out)
                revert n0_ n1_ n2_
                clear HO_7 BK459 HB
                intro HO_7 BK459 HB
                have p471 : 0 ≤ (x9_4 : Int) := oD
                have q471 : x9_4 < (t464.length : Int) := oD
                obtain ⟨ad471, e471, hx471_0⟩ := Kd.at_string (Kd.R_reads' HO_7.out).2.2 x9_4 p471 q471
                cases e471
                replace p471 := eq_true p471
                replace q471 := eq_true q471
                refine start_ (n := 11) (S := fun w' => w'.heap[gb459]? = some (.cells #[.string a_0, .bool a_1, .slice A_2 l_2.length c_2, .slice A_3 l_3.length c_3, .slice A_4 l_4.length c_4, .slice A_5 l_5.length c_5, .slice A_6 l_6.length c_6, .int .i64 a_7, .int .i64 a_8, .slice A_9 l_9.length c_9, .int .i64 a_a, .slice A_b l_b.length c_b, .slice A_c l_c.length c_c, .bool a_d, .string a_e, .int .i64 a_f, .string a_g, .bool a_h, .int .i64 a_i, .int .i64 a_j, .slice A_k l_k.length c_k, .slice A_l l_l.length c_l, .slice A_m l_m.length c_m, .slice A_n l_n.length c_n, .slice A_o l_o.length c_o, .bool a_p, .slice A_q l_q.length c_q, .slice A_r l_r.length c_r, .slice A_s l_s.length c_s, .string a_t] 41 (0, 0)) ∧ w'.cell? (ad471.add (x9_4).toNat) = some (.string (rdOf ByteArray.empty t464 x9_4))) (ds := []) #[false, false, false, false, false, false, false, false, false, false, false] (by kernel_rfl) rfl rfl ⟨BK459.out, hx471_0⟩ (fun hHeld => ?_); refine with_tabW pentaglotlaw42_OrthographyReturns.tab15 pentaglotlaw42_OrthographyReturns.bits15 (fun HT_ HW_ => ?_)
                generalize w37.drew = w38 at HO_7 BK459 HB hx471_0 hHeld ⊢
                refine pT 1 73 ?_
                refine pT 2 74 ?_
                refine pT 3 75 ?_
                refine take_ (i := 0) (N := some 72) (v := ?_) (a' := ?_) #[true, true, true, true, false, false, false, false, false, false, false] rfl rfl (take_ofW HT_.out HW_.out (by kernel_rfl)) (fun _ _ _ h => h) (Or.inl ⟨by rfl, ?_⟩) hHeld ?_ ?_
                rotate_left
                ·
                 rintro w' ⟨s0, s1⟩
                 exact LPrF5x1
                rotate_left
                ·
                 exact GpR
                refine take_ (i := 4) (N := some 76) (v := ?_) (a' := ?_) #[true, true, true, true, true, false, false, false, false, false, false] rfl rfl (take_ofW HT_.out HW_.out (by kernel_rfl)) (fun _ _ _ h => h) (Or.inl ⟨by rfl, ?_⟩) hHeld ?_ ?_
                rotate_left
                ·
                 rintro w' ⟨s0, s1⟩
                 exact LPrF5x1
                rotate_left
                ·
                 exact GpR
                refine one_ (i := 5) (N := some 77) #[true, true, true, true, true, true, false, false, false, false, false] rfl rfl (one_of HT_.out (by kernel_rfl)) (by decide) (fun K hK => ?_)
                refine goes_ Tryd.func11 (by kernel_rfl) rfl #[.agg _, .string (rdOf ByteArray.empty t464 x9_4)] (by rfl) rfl rfl Gc2 ?_
                with_reducible refine (orthography_Words.calls a_0 a_1 _ _ l_2 _ _ l_3 _ _ l_4 _ _ l_5 _ _ l_6 a_7 a_8 _ _ l_9 a_a _ _ l_b _ _ l_c a_d a_e a_f a_g a_h a_i a_j _ _ l_k _ _ l_l _ _ l_m _ _ l_n _ _ l_o a_p _ _ l_q _ _ l_r _ _ l_s a_t (rdOf ByteArray.empty t464 x9_4) t472 t475 _ ?sT ?s1 ?s2 ?s3 ?s4 ?s5 ?s6 ?s7 ?s8 ?s9 ?s10 ?s11 ?s12 ?s13 ?s14 ?s15 ?s16 ?s17 ?s18 ?s19 ?s20 ?s21 ?s22 ?s23 ?s24 ?s25 ?s26 ?s27 ?s28 ?s29 ?s30 ?s31 ?s32 A32.out).mono ?_
                (case sT => exact Gc1)
                (case s1 => exact tC HR_2 HB)
                (case s2 => exact HC_2.out)
                (case s3 => exact tC HR_3 HB)
                (case s4 => exact HC_3.out)
                (case s5 => exact tC HR_4 HB)
                (case s6 => exact HC_4.out)
                (case s7 => exact tC HR_5 HB)
                (case s8 => exact HC_5.out)
                (case s9 => exact tC HR_6 HB)
                (case s10 => exact HC_6.out)
                (case s11 => exact tC HR_9 HB)
                (case s12 => exact HC_9.out)
                (case s13 => exact tC HR_b HB)
                (case s14 => exact HC_b.out)
                (case s15 => exact tC HR_c HB)
                (case s16 => exact HC_c.out)
                (case s17 => exact tC HR_k HB)
                (case s18 => exact HC_k.out)
                (case s19 => exact tC HR_l HB)
                (case s20 => exact HC_l.out)
                (case s21 => exact tC HR_m HB)
                (case s22 => exact HC_m.out)
                (case s23 => exact tC HR_n HB)
                (case s24 => exact HC_n.out)
                (case s25 => exact tC HR_o HB)
                (case s26 => exact HC_o.out)
                (case s27 => exact tC HR_q HB)
                (case s28 => exact HC_q.out)
                (case s29 => exact tC HR_r HB)
                (case s30 => exact HC_r.out)
                (case s31 => exact tC HR_s HB)
                (case s32 => exact HC_s.out)
                rintro e w39 ⟨v473, rfl, ho0, hb⟩
                have HS30_ := (hb.cell (World.block_lt_of_cell? _ _ (hHeld.2))).trans (hHeld.2)
                refine ⟨_, rfl, ?_⟩
                have n0_ := Aside0.mk (Kd.R_elder' (dR HO_7) (Kd.R_base ho0) hb)
                have n1_ := Aside0.mk (Kd.R_lower (Kd.R_new' ho0 (Kd.R_lt (dR HO_7))) (tS HB))
                have n2_ := Aside0.mk (blk_below (tK BK459) hb)
                have n3_ := Aside0.mk (below_step (tB HB) hb)
                revert n0_ n1_ n2_ n3_
                clear HO_7 BK459 HB
                intro HO_7 HO474 BK459 HB
                (try clear hb); (try clear ho0)
                refine hK.out _ _ ⟨BK459.out, HS30_⟩ (fun hHeld => ?_)
                clear hK K
                refine nR 77 ?_
                refine pT 6 71 ?_
                refine pT 7 78 ?_
                refine pT 8 79 ?_
                refine pT 9 12 ?_
                refine pT 10 13 ?_
                refine done_ (done_of HT_.out (by kernel_rfl)) ?_
                try go_wp2
                have n0_ := Aside0.mk (Kd.R_drew HO_7.out)
                have n1_ := Aside0.mk (Kd.R_drew HO474.out)
                have n2_ := Aside0.mk (blk_drew BK459.out)
                have n3_ := Aside0.mk (below_drew1 HB.out)
                revert n0_ n1_ n2_ n3_
                clear HO_7 HO474 BK459 HB
                intro HO_7 HO474 BK459 HB
                have p476 : 0 ≤ (x9_4 : Int) := oD
                have q476 : x9_4 < (l1.length : Int) := oD
                obtain ⟨ad476, A476_0, c476_0, e476, hx476_0, hl476_0, hi476_0⟩ := at_L10 HR1.out x9_4 p476 q476
                have hw476_0 := hx476_0
                obtain rfl : ad468 = ad476 := (by injection e476)
                replace hx476_0 := celB HB hx476_0
                have HR476_0 := Aside0.mk hi476_0
                have HC476_0 := Aside0.mk hl476_0
                clear hi476_0 hl476_0
                replace p476 := eq_true p476
                replace q476 := eq_true q476
                refine start_ (n := 7) (S := fun w' => w'.heap[gb459]? = some (.cells #[.string a_0, .bool a_1, .slice A_2 l_2.length c_2, .slice A_3 l_3.length c_3, .slice A_4 l_4.length c_4, .slice A_5 l_5.length c_5, .slice A_6 l_6.length c_6, .int .i64 a_7, .int .i64 a_8, .slice A_9 l_9.length c_9, .int .i64 a_a, .slice A_b l_b.length c_b, .slice A_c l_c.length c_c, .bool a_d, .string a_e, .int .i64 a_f, .string a_g, .bool a_h, .int .i64 a_i, .int .i64 a_j, .slice A_k l_k.length c_k, .slice A_l l_l.length c_l, .slice A_m l_m.length c_m, .slice A_n l_n.length c_n, .slice A_o l_o.length c_o, .bool a_p, .slice A_q l_q.length c_q, .slice A_r l_r.length c_r, .slice A_s l_s.length c_s, .string a_t] 41 (0, 0)) ∧ w'.cell? (ad468.add (x9_4).toNat) = some (.slice A476_0 (rd_L10 l1 x9_4).length c476_0)) (ds := []) #[false, false, false, false, false, false, false] (by kernel_rfl) rfl rfl ⟨BK459.out, ((HB.out.cell (World.block_lt_of_cell? w _ hw476_0)).trans hw476_0)⟩ (fun hHeld => ?_)
                generalize w39.drew = w40 at HO_7 HO474 BK459 HB HR476_0 hx476_0 hHeld ⊢
                refine pK 1 81 ?_
                refine pK 2 82 ?_
                refine pK 3 83 ?_
                refine take_ (i := 0) (N := some 80) (v := ?_) (a' := ?_) #[true, true, true, true, false, false, false] rfl rfl (by kernel_rfl) (fun _ _ _ h => h) (Or.inl ⟨by rfl, ?_⟩) hHeld ?_ ?_
                rotate_left
                ·
                 rintro w' ⟨s0, s1⟩
                 exact LPrF5x1
                rotate_left
                ·
                 exact GpR
                refine take_ (i := 4) (N := some 84) (v := ?_) (a' := ?_) #[true, true, true, true, true, false, false] rfl rfl (by kernel_rfl) (fun _ _ _ h => h) (Or.inl ⟨by rfl, ?_⟩) hHeld ?_ ?_
                rotate_left
                ·
                 rintro w' ⟨s0, s1⟩
                 exact LPrF5x1
                rotate_left
                ·
                 exact GpR
                refine one_ (i := 5) (N := some 85) #[true, true, true, true, true, true, false] rfl rfl (by kernel_rfl) (by decide) (fun K hK => ?_)
                refine goes_ Tryd.func15 (by kernel_rfl) rfl #[.agg _, .slice A476_0 (rd_L10 l1 x9_4).length c476_0] (by rfl) rfl rfl Gc2 ?_
                with_reducible refine (pentaglotref42_Segments.calls k4 a_0 a_1 _ _ l_2 _ _ l_3 _ _ l_4 _ _ l_5 _ _ l_6 a_7 a_8 _ _ l_9 a_a _ _ l_b _ _ l_c a_d a_e a_f a_g a_h a_i a_j _ _ l_k _ _ l_l _ _ l_m _ _ l_n _ _ l_o a_p _ _ l_q _ _ l_r _ _ l_s a_t _ _ (rd_L10 l1 x9_4) t477 _ (tC HR_2 HB) HC_2.out (tC HR_3 HB) HC_3.out (tC HR_4 HB) HC_4.out (tC HR_5 HB) HC_5.out (tC HR_6 HB) HC_6.out (tC HR_9 HB) HC_9.out (tC HR_b HB) HC_b.out (tC HR_c HB) HC_c.out (tC HR_k HB) HC_k.out (tC HR_l HB) HC_l.out (tC HR_m HB) HC_m.out (tC HR_n HB) HC_n.out (tC HR_o HB) HC_o.out (tC HR_q HB) HC_q.out (tC HR_r HB) HC_r.out (tC HR_s HB) HC_s.out (tC HR476_0 HB) HC476_0.out A33.out).mono ?_
                rintro e w41 ⟨v478, rfl, ho0, hb⟩
                refine ⟨_, rfl, ?_⟩
                have n0_ := Aside0.mk (Kd.R_below (dR HO_7) hb)
                have n1_ := Aside0.mk (Kd.R_below (dR HO474) hb)
                have n2_ := Aside0.mk (Kd.S_lower (Kd.S_new' (Kd.S_new' ho0 (Kd.R_lt (dR HO_7))) (Kd.R_lt (dR HO474))) (tS HB))
                have n3_ := Aside0.mk (blk_below (tK BK459) hb)
                have n4_ := Aside0.mk (below_step (tB HB) hb)
                revert n0_ n1_ n2_ n3_ n4_
                clear HO_7 HO474 BK459 HB
                intro HO_7 HO474 HO479 BK459 HB
                (try clear hb); (try clear ho0)
                refine hK.out _ _ ⟨BK459.out, ((HB.out.cell (World.block_lt_of_cell? w _ hw476_0)).trans hw476_0)⟩ (fun hHeld => ?_)
                clear hK K
                refine nR 85 ?_
                refine pK 6 14 ?_
                refine done_ (by kernel_rfl) ?_
                go_upto_region 17 with (fail)
                go_cut [106] (fun v106 wc => ∃ (kq : Nat) (x106_33 : Bool), v106 = .bool x106_33 ∧ Aside0 (pentaglotlaw42_OrthographyReturns.j4 kq l1 t464 x9_4 t472 t477 x106_33 a_0 a_1 l_2 l_3 l_4 l_5 l_6 a_7 a_8 l_9 a_a l_b l_c a_d a_e a_f a_g a_h a_i a_j l_k l_l l_m l_n l_o a_p l_q l_r l_s a_t = some r) ∧ Aside0 (kq ≤ k4) ∧ Aside0 (Kd.R Kd.string 9 wc w.heap.size (fun k_ => some k_ ≠ (v473 : Value).ownBlock) (.slice (some ad471) t464.length co35) t464) ∧ Aside0 (Kd.R Kd.string 9 wc w.heap.size (fun k_ => some k_ ≠ ((.slice (some ad471) t464.length co35) : Value).ownBlock) v473 t472) ∧ Aside0 (Kd.S k57 57 wc w.heap.size (fun k_ => some k_ ≠ ((.slice (some ad471) t464.length co35) : Value).ownBlock ∧ some k_ ≠ (v473 : Value).ownBlock) v478 t477) ∧ Aside0 (wc.heap[gb459]? = some (.cells #[.string a_0, .bool a_1, (.slice A_2 l_2.length c_2), (.slice A_3 l_3.length c_3), (.slice A_4 l_4.length c_4), (.slice A_5 l_5.length c_5), (.slice A_6 l_6.length c_6), .int .i64 a_7, .int .i64 a_8, (.slice A_9 l_9.length c_9), .int .i64 a_a, (.slice A_b l_b.length c_b), (.slice A_c l_c.length c_c), .bool a_d, .string a_e, .int .i64 a_f, .string a_g, .bool a_h, .int .i64 a_i, .int .i64 a_j, (.slice A_k l_k.length c_k), (.slice A_l l_l.length c_l), (.slice A_m l_m.length c_m), (.slice A_n l_n.length c_n), (.slice A_o l_o.length c_o), .bool a_p, (.slice A_q l_q.length c_q), (.slice A_r l_r.length c_r), (.slice A_s l_s.length c_s), .string a_t] 41 (0, 0))) ∧ Aside0 (Below w.heap.size w wc))
                case first =>
                 have H := HC34.out
                 clear HC34
                 replace H := iE H; obtain ⟨-, c42b0, c42b1, H⟩ | ⟨c42, c42b0, c42b1, H⟩ := H
                 ·
                  (first | rw [c42b0] | (simp only [i64_w, i32_w]; rw [c42b0]) | skip)
                  replace H := iE H; obtain ⟨-, c43b0, c43b1, H⟩ | ⟨c43, c43b0, c43b1, H⟩ := H
                  ·
                   replace H := iE H; obtain ⟨-, c44b0, c44b1, H⟩ | ⟨c44, c44b0, c44b1, H⟩ := H
                   ·
                    have H' := Aside0.mk H
                    clear H
                    have p480 : 0 ≤ (x9_4 : Int) := oD
                    have q480 : x9_4 < (t464.length : Int) := oD
                    obtain ⟨ad480, e480, hx480_0⟩ := Kd.at_string (Kd.R_reads' HO_7.out).2.2 x9_4 p480 q480
                    obtain rfl : ad471 = ad480 := (by injection e480)
                    replace p480 := eq_true p480
                    replace q480 := eq_true q480
                    obtain ⟨Ao45, co45, eo45⟩ := Kd.R_slice HO474.out
                    subst eo45
                    obtain ⟨Ao46, co46, eo46⟩ := Kd.S_slice HO479.out
                    subst eo46
                    go_wp2
                    go_meet
                    case rel => exact ⟨_, (((t472.length : Int) != (t477.length : Int))), tV1, H', ⟨by have := HJ4.out; have := HJ15.out; have := HJ21.out; have := HK4.out; first | omega | exact Nat.le_refl _⟩, ⟨dR HO_7⟩, ⟨dR HO474⟩, ⟨dS HO479⟩, ⟨tK BK459⟩, ⟨tB HB⟩⟩
                   ·
                    exact LPrF5x3
                  ·
                   exact LPrF5x3
                 ·
                  (first | rw [c42b0] | (simp only [i64_w, i32_w]; rw [c42b0]) | skip)
                  exact LPrF5x3
                case rest =>
                 clear HC34; (try clear c4); (try clear c14); (try clear c28); (try clear c28b0); (try clear c29); (try clear c29b0); (try clear c30); (try clear c30b0); (try clear hfz23_9); (try clear hx468_0); (try clear hx471_0); (try clear hx476_0); (try clear p468); (try clear p471); (try clear p476); (try clear q468); (try clear q471); (try clear q476)
                 obtain ⟨kq, x106_33, rfl, HA, HJ33, HO_7, HO_12, HO_14, BK459, HB⟩ := hcut
                 cases kq with
                 | zero => exact absurd HA.out (by simp [pentaglotlaw42_OrthographyReturns.j4])
                 | succ kj33 =>
                  have H := HA.out
                  clear HA
                  simp only [pentaglotlaw42_OrthographyReturns.j4] at H
                  replace H := iT H; obtain ⟨rfl, H⟩ | ⟨rfl, H⟩ := H
                  ·
                   obtain rfl := Option.some.inj H
                   go_wp2
                   exact LPrF5x2
                  ·
                   have H' := Aside0.mk H
                   clear H
                   go_wp2
                   go_loopg [15] kj33 (fun kq v15 w' => ∃ (x15_6 : Int), v15 = .int .i64 x15_6 ∧ Aside0 (pentaglotlaw42_OrthographyReturns.l1 kq l1 t464 x9_4 t472 t477 x15_6 a_0 a_1 l_2 l_3 l_4 l_5 l_6 a_7 a_8 l_9 a_a l_b l_c a_d a_e a_f a_g a_h a_i a_j l_k l_l l_m l_n l_o a_p l_q l_r l_s a_t = some r) ∧ Aside0 (kq ≤ kj33) ∧ Aside0 (Kd.R Kd.string 9 w' w.heap.size (fun k_ => some k_ ≠ (v473 : Value).ownBlock) (.slice (some ad471) t464.length co35) t464) ∧ Aside0 (Kd.R Kd.string 9 w' w.heap.size (fun k_ => some k_ ≠ ((.slice (some ad471) t464.length co35) : Value).ownBlock) v473 t472) ∧ Aside0 (Kd.S k57 57 w' w.heap.size (fun k_ => some k_ ≠ ((.slice (some ad471) t464.length co35) : Value).ownBlock ∧ some k_ ≠ (v473 : Value).ownBlock) v478 t477) ∧ Aside0 (w'.heap[gb459]? = some (.cells #[.string a_0, .bool a_1, (.slice A_2 l_2.length c_2), (.slice A_3 l_3.length c_3), (.slice A_4 l_4.length c_4), (.slice A_5 l_5.length c_5), (.slice A_6 l_6.length c_6), .int .i64 a_7, .int .i64 a_8, (.slice A_9 l_9.length c_9), .int .i64 a_a, (.slice A_b l_b.length c_b), (.slice A_c l_c.length c_c), .bool a_d, .string a_e, .int .i64 a_f, .string a_g, .bool a_h, .int .i64 a_i, .int .i64 a_j, (.slice A_k l_k.length c_k), (.slice A_l l_l.length c_l), (.slice A_m l_m.length c_m), (.slice A_n l_n.length c_n), (.slice A_o l_o.length c_o), .bool a_p, (.slice A_q l_q.length c_q), (.slice A_r l_r.length c_r), (.slice A_s l_s.length c_s), .string a_t] 41 (0, 0))) ∧ Aside0 (Below w.heap.size w w'))
                   case atStart => exact ⟨(0), tV1, H', ⟨Nat.le_refl _⟩, ⟨dR HO_7⟩, ⟨dR HO_12⟩, ⟨dS HO_14⟩, ⟨tK BK459⟩, ⟨tB HB⟩⟩
                   case round =>
                    clear H'; (try clear c4); (try clear c14); (try clear c28); (try clear c28b0); (try clear c29); (try clear c29b0); (try clear c30); (try clear c30b0); (try clear c47); (try clear hfz23_9); (try clear hx468_0); (try clear hx471_0); (try clear hx476_0); (try clear p468); (try clear p471); (try clear p476); (try clear q468); (try clear q471); (try clear q476)
                    obtain ⟨x15_6, rfl, HA, HK6, HO_7, HO_12, HO_14, BK459, HB⟩ := hrel
                    cases gk with
                    | zero => exact absurd HA.out (by simp [pentaglotlaw42_OrthographyReturns.l1])
                    | succ k6 =>
                     have H := HA.out
                     clear HA
                     simp only [pentaglotlaw42_OrthographyReturns.l1] at H
                     replace H := iF H; obtain ⟨c48, H⟩ | ⟨c48, H⟩ := H
                     ·
                      have c48b0 : decide (x15_6 < (t472.length : Int)) = true := decide_eq_true c48
                      clear c48
                      replace H := iF H; obtain ⟨c49, H⟩ | ⟨c49, H⟩ := H
                      ·
                       have c49b0 : decide (0 ≤ x15_6) = true := decide_eq_true c49
                       clear c49
                       replace H := iF H; obtain ⟨c50, H⟩ | ⟨c50, H⟩ := H
                       ·
                        have c50b0 : decide (x15_6 < (t477.length : Int)) = true := decide_eq_true c50
                        clear c50
                        replace H := bI H; obtain ⟨⟨t482, t483⟩, A51, H⟩ := H; (try dsimp only at H)
                        replace H := iE H; obtain ⟨-, c52b0, c52b1, H⟩ | ⟨c52, c52b0, c52b1, H⟩ := H
                        ·
                         replace H := iE H; obtain ⟨-, c53b0, c53b1, H⟩ | ⟨c53, c53b0, c53b1, H⟩ := H
                         ·
                          have H' := Aside0.mk H
                          clear H
                          obtain ⟨Ao54, co54, eo54⟩ := Kd.R_slice HO_12.out
                          subst eo54
                          have mk0_ := trivial
                          exact LPrF5xh3
                         ·
                          obtain rfl := Option.some.inj H
                          obtain ⟨Ao58, co58, eo58⟩ := Kd.R_slice HO_12.out
                          subst eo58
                          have mk1_ := trivial
                          exact LPrF5xh3
                        ·
                         obtain rfl := Option.some.inj H
                         obtain ⟨Ao62, co62, eo62⟩ := Kd.R_slice HO_12.out
                         subst eo62
                         have mk2_ := trivial
                         exact LPrF5xh3
                       ·
                        exact absurd H (by simp)
                      ·
                       exact absurd H (by simp)
                     ·
                      have c48b0 : decide (x15_6 < (t472.length : Int)) = false := decide_eq_false c48
                      clear c48
                      have H' := Aside0.mk H
                      clear H
                      obtain ⟨Ao66, co66, eo66⟩ := Kd.R_slice HO_12.out
                      subst eo66
                      go_wp2
                      go_roundg k6
                      case measure => have := HJ4.out; have := HJ15.out; have := HJ21.out; have := HK4.out; have := HJ33.out; have := HK6.out; omega
                      case rel => exact ⟨(wrap64 (x9_4 + 1)), tV1, H', ⟨by have := HJ4.out; have := HJ15.out; have := HJ21.out; have := HK4.out; have := HJ33.out; have := HK6.out; omega⟩, ⟨dR HO_7⟩, ⟨tK BK459⟩, ⟨tB HB⟩⟩
               ·
                exact absurd H (by simp)
              ·
               exact absurd H (by simp)
             ·
              have c28b0 : decide (x9_4 < (t464.length : Int)) = false := decide_eq_false c28
              clear c28
              obtain rfl := Option.some.inj H
              obtain ⟨Ao67, co67, eo67⟩ := Kd.R_slice HO_7.out
              subst eo67
              go_wp2
              exact LPrF5x2
 ·
  obtain rfl := Option.some.inj H
  go_enter Tryd.func5, Tryd.ntmps5
  go_wp2_with (first | ((with_reducible refine gate_load (t := 41) (p := 2) rfl ?_); (try (refine gate_guard (by rfl) ?_; dsimp only)); refine wpList_load_row rfl 41 (.tmp 2) rfl gb459 rfl 41 _ (0, 0) _ (tK BK459) Tryd.underlying41 rfl (by kernel_rfl) ?_) | ((with_reducible refine gate_dst (N := 2) rfl ?_); (try (refine gate_guard (by rfl) ?_; dsimp only)); refine box_event ?hg (N := 2) ?hd (cs := ?cs) (t := 41) ?hr ?_; (case hd => rfl); (case hg => rfl); (case hr => exact Gc6); intro gb459 hg w68 hbox hb; have n0_ := Aside0.mk (below_step (tB HB) hb); have n1_ := Aside0.mk (hbox); have n2_ := tZ hg (tS HB); have n3_ := tZ hg (tS HB); revert n0_ n1_ n2_ n3_; clear HB; intro HB BK459 GW459 GE459; clear hb hbox hg) | ((with_reducible refine gate_callee (f := 6) rfl ?_); refine goesL_ (some 18) rfl rfl Tryd.func6 (by kernel_rfl) rfl #[] rfl Gc2 ?_; (with_reducible refine (pentaglotlaw42_awake.calls  false _ ?sT A3.out).mono ?_); (case sT => exact Gc1); rintro e w69 ⟨rfl, hb⟩; refine ⟨_, rfl, ?_⟩; have n0_ := Aside0.mk (blk_below (tK BK459) hb); have n1_ := Aside0.mk (below_step (tB HB) hb); revert n0_ n1_; clear BK459 HB; intro BK459 HB; (try clear hb); (try clear hb2); (try clear hk); (try clear hi)))
  exact LPrF5x2
end Go.Proofs.YtfbhdjflkaldgaaDoor.Pr
