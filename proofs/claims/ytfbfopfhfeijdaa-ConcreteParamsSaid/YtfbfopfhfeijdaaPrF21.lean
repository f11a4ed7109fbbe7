-- Written by a program of this session (ownprint.py, over the kit's printer). Not trusted: Lean checks it.
import Derived.Test.YtfbfopfhfeijdaaPr0
import Derived.Test.YtfbfopfhfeijdaaCt
import Derived.Test.YtfbfopfhfeijdaaPrF13
namespace Go.Proofs.Ytfbfopfhfeijdaa.Pr
open Go.Proofs.Ytfbfopfhfeijdaa.Ct Go.RowKit Go.Proofs.YtfbfopfhfeijdaaW.PrintWords Go.Proofs.YtfbfopfhfeijdaaW.PrintLast Go.Proofs.YtfbfopfhfeijdaaW.PrintMore
attribute [local go_sem] max2_int min2_int max_two min_two max_three min_three max_four min_four   -- for this text's walks alone
set_option linter.unusedVariables false
set_option linter.unusedSimpArgs false

/-! ### pentaglotlaw33_few: function 21 -/
mutual
def pentaglotlaw33_few.j0 : Nat → List (S85) → Bool → ByteArray → Bool → List (S173) → List (S176) → List (S179) → List (S181) → List (List Int) → Int → Int → List (S176) → Int → List ByteArray → List ByteArray → Bool → ByteArray → Int → ByteArray → Bool → Int → Int → List (S184) → List (S184) → List ByteArray → List ByteArray → List ByteArray → Bool → List (S186) → List (S68) → List (S33) → ByteArray → Option (Bool)
 | 0, _, _, _, _, _, _, _, _, _, _, _, _, _, _, _, _, _, _, _, _, _, _, _, _, _, _, _, _, _, _, _, _ => none
 | k + 1, x0, x54, x203000, x203001, x203002, x203003, x203004, x203005, x203006, x203007, x203008, x203009, x203010, x203011, x203012, x203013, x203014, x203015, x203016, x203017, x203018, x203019, x203020, x203021, x203022, x203023, x203024, x203025, x203026, x203027, x203028, x203029 => if x54 = true then (some false) else (pentaglotlaw33_few.l0 k x0 0 x203000 x203001 x203002 x203003 x203004 x203005 x203006 x203007 x203008 x203009 x203010 x203011 x203012 x203013 x203014 x203015 x203016 x203017 x203018 x203019 x203020 x203021 x203022 x203023 x203024 x203025 x203026 x203027 x203028 x203029)
def pentaglotlaw33_few.l0 : Nat → List (S85) → Int → ByteArray → Bool → List (S173) → List (S176) → List (S179) → List (S181) → List (List Int) → Int → Int → List (S176) → Int → List ByteArray → List ByteArray → Bool → ByteArray → Int → ByteArray → Bool → Int → Int → List (S184) → List (S184) → List ByteArray → List ByteArray → List ByteArray → Bool → List (S186) → List (S68) → List (S33) → ByteArray → Option (Bool)
 | 0, _, _, _, _, _, _, _, _, _, _, _, _, _, _, _, _, _, _, _, _, _, _, _, _, _, _, _, _, _, _, _, _ => none
 | k + 1, x0, x5, x203000, x203001, x203002, x203003, x203004, x203005, x203006, x203007, x203008, x203009, x203010, x203011, x203012, x203013, x203014, x203015, x203016, x203017, x203018, x203019, x203020, x203021, x203022, x203023, x203024, x203025, x203026, x203027, x203028, x203029 => if x5 < (x0.length : Int) then (if 0 ≤ x5 then (if ((rd_T85 x0 x5).f3) < 0 then (some false) else (pentaglotlaw33_few.l0 k x0 (wrap64 (x5 + 1)) x203000 x203001 x203002 x203003 x203004 x203005 x203006 x203007 x203008 x203009 x203010 x203011 x203012 x203013 x203014 x203015 x203016 x203017 x203018 x203019 x203020 x203021 x203022 x203023 x203024 x203025 x203026 x203027 x203028 x203029)) else (none)) else (pentaglotlaw33_few.l1 k 0 x203000 x203001 x203002 x203003 x203004 x203005 x203006 x203007 x203008 x203009 x203010 x203011 x203012 x203013 x203014 x203015 x203016 x203017 x203018 x203019 x203020 x203021 x203022 x203023 x203024 x203025 x203026 x203027 x203028 x203029)
def pentaglotlaw33_few.l1 : Nat → Int → ByteArray → Bool → List (S173) → List (S176) → List (S179) → List (S181) → List (List Int) → Int → Int → List (S176) → Int → List ByteArray → List ByteArray → Bool → ByteArray → Int → ByteArray → Bool → Int → Int → List (S184) → List (S184) → List ByteArray → List ByteArray → List ByteArray → Bool → List (S186) → List (S68) → List (S33) → ByteArray → Option (Bool)
 | 0, _, _, _, _, _, _, _, _, _, _, _, _, _, _, _, _, _, _, _, _, _, _, _, _, _, _, _, _, _, _, _ => none
 | k + 1, x6, x203000, x203001, x203002, x203003, x203004, x203005, x203006, x203007, x203008, x203009, x203010, x203011, x203012, x203013, x203014, x203015, x203016, x203017, x203018, x203019, x203020, x203021, x203022, x203023, x203024, x203025, x203026, x203027, x203028, x203029 => if x6 < (x203028.length : Int) then (if 0 ≤ x6 then (if (((rd_T33 x203028 x6).f1).length : Int) > 4 then (pentaglotlaw33_few.j3 k x6 true x203000 x203001 x203002 x203003 x203004 x203005 x203006 x203007 x203008 x203009 x203010 x203011 x203012 x203013 x203014 x203015 x203016 x203017 x203018 x203019 x203020 x203021 x203022 x203023 x203024 x203025 x203026 x203027 x203028 x203029 ((rd_T33 x203028 x6).f0) ((rd_T33 x203028 x6).f1) ((rd_T33 x203028 x6).f2) ((rd_T33 x203028 x6).f3)) else (if (((rd_T33 x203028 x6).f3).length : Int) > 8 then (pentaglotlaw33_few.j3 k x6 true x203000 x203001 x203002 x203003 x203004 x203005 x203006 x203007 x203008 x203009 x203010 x203011 x203012 x203013 x203014 x203015 x203016 x203017 x203018 x203019 x203020 x203021 x203022 x203023 x203024 x203025 x203026 x203027 x203028 x203029 ((rd_T33 x203028 x6).f0) ((rd_T33 x203028 x6).f1) ((rd_T33 x203028 x6).f2) ((rd_T33 x203028 x6).f3)) else ((pentaglotlaw33_records.f k ((rd_T33 x203028 x6).f1)).bind fun t206 => (if t206 = true then (pentaglotlaw33_few.j3 k x6 (decide ((((rd_T33 x203028 x6).f2).length : Int) > 10)) x203000 x203001 x203002 x203003 x203004 x203005 x203006 x203007 x203008 x203009 x203010 x203011 x203012 x203013 x203014 x203015 x203016 x203017 x203018 x203019 x203020 x203021 x203022 x203023 x203024 x203025 x203026 x203027 x203028 x203029 ((rd_T33 x203028 x6).f0) ((rd_T33 x203028 x6).f1) ((rd_T33 x203028 x6).f2) ((rd_T33 x203028 x6).f3)) else (pentaglotlaw33_few.j3 k x6 true x203000 x203001 x203002 x203003 x203004 x203005 x203006 x203007 x203008 x203009 x203010 x203011 x203012 x203013 x203014 x203015 x203016 x203017 x203018 x203019 x203020 x203021 x203022 x203023 x203024 x203025 x203026 x203027 x203028 x203029 ((rd_T33 x203028 x6).f0) ((rd_T33 x203028 x6).f1) ((rd_T33 x203028 x6).f2) ((rd_T33 x203028 x6).f3)))))) else (none)) else (pentaglotlaw33_few.l3 k 0 x203000 x203001 x203002 x203003 x203004 x203005 x203006 x203007 x203008 x203009 x203010 x203011 x203012 x203013 x203014 x203015 x203016 x203017 x203018 x203019 x203020 x203021 x203022 x203023 x203024 x203025 x203026 x203027 x203028 x203029)
def pentaglotlaw33_few.j3 : Nat → Int → Bool → ByteArray → Bool → List (S173) → List (S176) → List (S179) → List (S181) → List (List Int) → Int → Int → List (S176) → Int → List ByteArray → List ByteArray → Bool → ByteArray → Int → ByteArray → Bool → Int → Int → List (S184) → List (S184) → List ByteArray → List ByteArray → List ByteArray → Bool → List (S186) → List (S68) → List (S33) → ByteArray → ByteArray → List (List (S37)) → List (S37) → List (S88) → Option (Bool)
 | 0, _, _, _, _, _, _, _, _, _, _, _, _, _, _, _, _, _, _, _, _, _, _, _, _, _, _, _, _, _, _, _, _, _, _, _, _ => none
 | k + 1, x6, x100, x203000, x203001, x203002, x203003, x203004, x203005, x203006, x203007, x203008, x203009, x203010, x203011, x203012, x203013, x203014, x203015, x203016, x203017, x203018, x203019, x203020, x203021, x203022, x203023, x203024, x203025, x203026, x203027, x203028, x203029, x206000, x206001, x206002, x206003 => if x100 = true then (some false) else (pentaglotlaw33_few.l2 k x6 0 x203000 x203001 x203002 x203003 x203004 x203005 x203006 x203007 x203008 x203009 x203010 x203011 x203012 x203013 x203014 x203015 x203016 x203017 x203018 x203019 x203020 x203021 x203022 x203023 x203024 x203025 x203026 x203027 x203028 x203029 x206000 x206001 x206002 x206003)
def pentaglotlaw33_few.l2 : Nat → Int → Int → ByteArray → Bool → List (S173) → List (S176) → List (S179) → List (S181) → List (List Int) → Int → Int → List (S176) → Int → List ByteArray → List ByteArray → Bool → ByteArray → Int → ByteArray → Bool → Int → Int → List (S184) → List (S184) → List ByteArray → List ByteArray → List ByteArray → Bool → List (S186) → List (S68) → List (S33) → ByteArray → ByteArray → List (List (S37)) → List (S37) → List (S88) → Option (Bool)
 | 0, _, _, _, _, _, _, _, _, _, _, _, _, _, _, _, _, _, _, _, _, _, _, _, _, _, _, _, _, _, _, _, _, _, _, _, _ => none
 | k + 1, x6, x8, x203000, x203001, x203002, x203003, x203004, x203005, x203006, x203007, x203008, x203009, x203010, x203011, x203012, x203013, x203014, x203015, x203016, x203017, x203018, x203019, x203020, x203021, x203022, x203023, x203024, x203025, x203026, x203027, x203028, x203029, x206000, x206001, x206002, x206003 => if x8 < (x206003.length : Int) then (if 0 ≤ x8 then (if (((rd_T88 x206003 x8).f1).length : Int) > 20 then (some false) else (pentaglotlaw33_few.l2 k x6 (wrap64 (x8 + 1)) x203000 x203001 x203002 x203003 x203004 x203005 x203006 x203007 x203008 x203009 x203010 x203011 x203012 x203013 x203014 x203015 x203016 x203017 x203018 x203019 x203020 x203021 x203022 x203023 x203024 x203025 x203026 x203027 x203028 x203029 x206000 x206001 x206002 x206003)) else (none)) else (pentaglotlaw33_few.l1 k (wrap64 (x6 + 1)) x203000 x203001 x203002 x203003 x203004 x203005 x203006 x203007 x203008 x203009 x203010 x203011 x203012 x203013 x203014 x203015 x203016 x203017 x203018 x203019 x203020 x203021 x203022 x203023 x203024 x203025 x203026 x203027 x203028 x203029)
def pentaglotlaw33_few.l3 : Nat → Int → ByteArray → Bool → List (S173) → List (S176) → List (S179) → List (S181) → List (List Int) → Int → Int → List (S176) → Int → List ByteArray → List ByteArray → Bool → ByteArray → Int → ByteArray → Bool → Int → Int → List (S184) → List (S184) → List ByteArray → List ByteArray → List ByteArray → Bool → List (S186) → List (S68) → List (S33) → ByteArray → Option (Bool)
 | 0, _, _, _, _, _, _, _, _, _, _, _, _, _, _, _, _, _, _, _, _, _, _, _, _, _, _, _, _, _, _, _ => none
 | k + 1, x9, x203000, x203001, x203002, x203003, x203004, x203005, x203006, x203007, x203008, x203009, x203010, x203011, x203012, x203013, x203014, x203015, x203016, x203017, x203018, x203019, x203020, x203021, x203022, x203023, x203024, x203025, x203026, x203027, x203028, x203029 => if x9 < (x203027.length : Int) then (pentaglotlaw33_few.l4 k x9 1 0 x203000 x203001 x203002 x203003 x203004 x203005 x203006 x203007 x203008 x203009 x203010 x203011 x203012 x203013 x203014 x203015 x203016 x203017 x203018 x203019 x203020 x203021 x203022 x203023 x203024 x203025 x203026 x203027 x203028 x203029) else (some true)
def pentaglotlaw33_few.l4 : Nat → Int → Int → Int → ByteArray → Bool → List (S173) → List (S176) → List (S179) → List (S181) → List (List Int) → Int → Int → List (S176) → Int → List ByteArray → List ByteArray → Bool → ByteArray → Int → ByteArray → Bool → Int → Int → List (S184) → List (S184) → List ByteArray → List ByteArray → List ByteArray → Bool → List (S186) → List (S68) → List (S33) → ByteArray → Option (Bool)
 | 0, _, _, _, _, _, _, _, _, _, _, _, _, _, _, _, _, _, _, _, _, _, _, _, _, _, _, _, _, _, _, _, _, _ => none
 | k + 1, x9, x10, x11, x203000, x203001, x203002, x203003, x203004, x203005, x203006, x203007, x203008, x203009, x203010, x203011, x203012, x203013, x203014, x203015, x203016, x203017, x203018, x203019, x203020, x203021, x203022, x203023, x203024, x203025, x203026, x203027, x203028, x203029 => if 0 ≤ x9 then (if x9 < (x203027.length : Int) then (if x11 < (((rd_T68 x203027 x9).f1).length : Int) then (if x11 < 5 then (if 0 ≤ x11 then (pentaglotlaw33_few.l4 k x9 (wrap64 (x10 * (mn (((rd_T90 ((rd_T68 x203027 x9).f1) x11).f1).length : Int) 100))) (wrap64 (x11 + 1)) x203000 x203001 x203002 x203003 x203004 x203005 x203006 x203007 x203008 x203009 x203010 x203011 x203012 x203013 x203014 x203015 x203016 x203017 x203018 x203019 x203020 x203021 x203022 x203023 x203024 x203025 x203026 x203027 x203028 x203029) else (none)) else (if x10 > 100 then (some false) else (if (((rd_T68 x203027 x9).f2).length : Int) > 20 then (some false) else (if (((rd_T68 x203027 x9).f1).length : Int) > 5 then (some false) else (pentaglotlaw33_few.l3 k (wrap64 (x9 + 1)) x203000 x203001 x203002 x203003 x203004 x203005 x203006 x203007 x203008 x203009 x203010 x203011 x203012 x203013 x203014 x203015 x203016 x203017 x203018 x203019 x203020 x203021 x203022 x203023 x203024 x203025 x203026 x203027 x203028 x203029))))) else (if x10 > 100 then (some false) else (if (((rd_T68 x203027 x9).f2).length : Int) > 20 then (some false) else (if (((rd_T68 x203027 x9).f1).length : Int) > 5 then (some false) else (pentaglotlaw33_few.l3 k (wrap64 (x9 + 1)) x203000 x203001 x203002 x203003 x203004 x203005 x203006 x203007 x203008 x203009 x203010 x203011 x203012 x203013 x203014 x203015 x203016 x203017 x203018 x203019 x203020 x203021 x203022 x203023 x203024 x203025 x203026 x203027 x203028 x203029))))) else (none)) else (none)
end
def pentaglotlaw33_few.f (k : Nat) (l0 : List (S85)) (a1_0 : ByteArray) (a1_1 : Bool) (l1_2 : List (S173)) (l1_3 : List (S176)) (l1_4 : List (S179)) (l1_5 : List (S181)) (l1_6 : List (List Int)) (a1_7 : Int) (a1_8 : Int) (l1_9 : List (S176)) (a1_10 : Int) (l1_11 : List ByteArray) (l1_12 : List ByteArray) (a1_13 : Bool) (a1_14 : ByteArray) (a1_15 : Int) (a1_16 : ByteArray) (a1_17 : Bool) (a1_18 : Int) (a1_19 : Int) (l1_20 : List (S184)) (l1_21 : List (S184)) (l1_22 : List ByteArray) (l1_23 : List ByteArray) (l1_24 : List ByteArray) (a1_25 : Bool) (l1_26 : List (S186)) (l1_27 : List (S68)) (l1_28 : List (S33)) (a1_29 : ByteArray) : Option (Bool) := if (l0.length : Int) > 70 then (pentaglotlaw33_few.j0 k l0 true a1_0 a1_1 l1_2 l1_3 l1_4 l1_5 l1_6 a1_7 a1_8 l1_9 a1_10 l1_11 l1_12 a1_13 a1_14 a1_15 a1_16 a1_17 a1_18 a1_19 l1_20 l1_21 l1_22 l1_23 l1_24 a1_25 l1_26 l1_27 l1_28 a1_29) else (if (l1_27.length : Int) > 12 then (pentaglotlaw33_few.j0 k l0 true a1_0 a1_1 l1_2 l1_3 l1_4 l1_5 l1_6 a1_7 a1_8 l1_9 a1_10 l1_11 l1_12 a1_13 a1_14 a1_15 a1_16 a1_17 a1_18 a1_19 l1_20 l1_21 l1_22 l1_23 l1_24 a1_25 l1_26 l1_27 l1_28 a1_29) else (if (l1_28.length : Int) > 24 then (pentaglotlaw33_few.j0 k l0 true a1_0 a1_1 l1_2 l1_3 l1_4 l1_5 l1_6 a1_7 a1_8 l1_9 a1_10 l1_11 l1_12 a1_13 a1_14 a1_15 a1_16 a1_17 a1_18 a1_19 l1_20 l1_21 l1_22 l1_23 l1_24 a1_25 l1_26 l1_27 l1_28 a1_29) else (if (l1_5.length : Int) > 12 then (pentaglotlaw33_few.j0 k l0 true a1_0 a1_1 l1_2 l1_3 l1_4 l1_5 l1_6 a1_7 a1_8 l1_9 a1_10 l1_11 l1_12 a1_13 a1_14 a1_15 a1_16 a1_17 a1_18 a1_19 l1_20 l1_21 l1_22 l1_23 l1_24 a1_25 l1_26 l1_27 l1_28 a1_29) else (if (l1_4.length : Int) > 3 then (pentaglotlaw33_few.j0 k l0 true a1_0 a1_1 l1_2 l1_3 l1_4 l1_5 l1_6 a1_7 a1_8 l1_9 a1_10 l1_11 l1_12 a1_13 a1_14 a1_15 a1_16 a1_17 a1_18 a1_19 l1_20 l1_21 l1_22 l1_23 l1_24 a1_25 l1_26 l1_27 l1_28 a1_29) else (if (l1_2.length : Int) > 70 then (pentaglotlaw33_few.j0 k l0 true a1_0 a1_1 l1_2 l1_3 l1_4 l1_5 l1_6 a1_7 a1_8 l1_9 a1_10 l1_11 l1_12 a1_13 a1_14 a1_15 a1_16 a1_17 a1_18 a1_19 l1_20 l1_21 l1_22 l1_23 l1_24 a1_25 l1_26 l1_27 l1_28 a1_29) else (pentaglotlaw33_few.j0 k l0 (decide ((l1_3.length : Int) > 6)) a1_0 a1_1 l1_2 l1_3 l1_4 l1_5 l1_6 a1_7 a1_8 l1_9 a1_10 l1_11 l1_12 a1_13 a1_14 a1_15 a1_16 a1_17 a1_18 a1_19 l1_20 l1_21 l1_22 l1_23 l1_24 a1_25 l1_26 l1_27 l1_28 a1_29))))))
set_option maxHeartbeats 8000000 in
set_option maxRecDepth 100000 in
theorem pentaglotlaw33_few.calls (k : Nat) (A0 : Option Addr) (c0 : Nat) (l0 : List (S85)) (a1_0 : ByteArray) (a1_1 : Bool) (A1_2 : Option Addr) (c1_2 : Nat) (l1_2 : List (S173)) (A1_3 : Option Addr) (c1_3 : Nat) (l1_3 : List (S176)) (A1_4 : Option Addr) (c1_4 : Nat) (l1_4 : List (S179)) (A1_5 : Option Addr) (c1_5 : Nat) (l1_5 : List (S181)) (A1_6 : Option Addr) (c1_6 : Nat) (l1_6 : List (List Int)) (a1_7 : Int) (a1_8 : Int) (A1_9 : Option Addr) (c1_9 : Nat) (l1_9 : List (S176)) (a1_10 : Int) (A1_11 : Option Addr) (c1_11 : Nat) (l1_11 : List ByteArray) (A1_12 : Option Addr) (c1_12 : Nat) (l1_12 : List ByteArray) (a1_13 : Bool) (a1_14 : ByteArray) (a1_15 : Int) (a1_16 : ByteArray) (a1_17 : Bool) (a1_18 : Int) (a1_19 : Int) (A1_20 : Option Addr) (c1_20 : Nat) (l1_20 : List (S184)) (A1_21 : Option Addr) (c1_21 : Nat) (l1_21 : List (S184)) (A1_22 : Option Addr) (c1_22 : Nat) (l1_22 : List ByteArray) (A1_23 : Option Addr) (c1_23 : Nat) (l1_23 : List ByteArray) (A1_24 : Option Addr) (c1_24 : Nat) (l1_24 : List ByteArray) (a1_25 : Bool) (A1_26 : Option Addr) (c1_26 : Nat) (l1_26 : List (S186)) (A1_27 : Option Addr) (c1_27 : Nat) (l1_27 : List (S68)) (A1_28 : Option Addr) (c1_28 : Nat) (l1_28 : List (S33)) (a1_29 : ByteArray) (r : Bool) (w : World) (hr0 : Kd.C k85 w A0 l0.length l0) (hc0 : l0.length ≤ c0) (hr1_2 : Kd.C k173 w A1_2 l1_2.length l1_2) (hc1_2 : l1_2.length ≤ c1_2) (hr1_3 : Kd.C k176 w A1_3 l1_3.length l1_3) (hc1_3 : l1_3.length ≤ c1_3) (hr1_4 : Kd.C k179 w A1_4 l1_4.length l1_4) (hc1_4 : l1_4.length ≤ c1_4) (hr1_5 : Kd.C k181 w A1_5 l1_5.length l1_5) (hc1_5 : l1_5.length ≤ c1_5) (hr1_6 : Kd.C (Kd.slice 143 (Kd.int .u32)) w A1_6 l1_6.length l1_6) (hc1_6 : l1_6.length ≤ c1_6) (hr1_9 : Kd.C k176 w A1_9 l1_9.length l1_9) (hc1_9 : l1_9.length ≤ c1_9) (hr1_11 : Kd.C Kd.string w A1_11 l1_11.length l1_11) (hc1_11 : l1_11.length ≤ c1_11) (hr1_12 : Kd.C Kd.string w A1_12 l1_12.length l1_12) (hc1_12 : l1_12.length ≤ c1_12) (hr1_20 : Kd.C k184 w A1_20 l1_20.length l1_20) (hc1_20 : l1_20.length ≤ c1_20) (hr1_21 : Kd.C k184 w A1_21 l1_21.length l1_21) (hc1_21 : l1_21.length ≤ c1_21) (hr1_22 : Kd.C Kd.string w A1_22 l1_22.length l1_22) (hc1_22 : l1_22.length ≤ c1_22) (hr1_23 : Kd.C Kd.string w A1_23 l1_23.length l1_23) (hc1_23 : l1_23.length ≤ c1_23) (hr1_24 : Kd.C Kd.string w A1_24 l1_24.length l1_24) (hc1_24 : l1_24.length ≤ c1_24) (hr1_26 : Kd.C k186 w A1_26 l1_26.length l1_26) (hc1_26 : l1_26.length ≤ c1_26) (hr1_27 : Kd.C k68 w A1_27 l1_27.length l1_27) (hc1_27 : l1_27.length ≤ c1_27) (hr1_28 : Kd.C k33 w A1_28 l1_28.length l1_28) (hc1_28 : l1_28.length ≤ c1_28) (h : pentaglotlaw33_few.f k l0 a1_0 a1_1 l1_2 l1_3 l1_4 l1_5 l1_6 a1_7 a1_8 l1_9 a1_10 l1_11 l1_12 a1_13 a1_14 a1_15 a1_16 a1_17 a1_18 a1_19 l1_20 l1_21 l1_22 l1_23 l1_24 a1_25 l1_26 l1_27 l1_28 a1_29 = some r) :
 Calls Try.prog 21 #[.slice A0 l0.length c0, .agg #[.string a1_0, .bool a1_1, .slice A1_2 l1_2.length c1_2, .slice A1_3 l1_3.length c1_3, .slice A1_4 l1_4.length c1_4, .slice A1_5 l1_5.length c1_5, .slice A1_6 l1_6.length c1_6, .int .i64 a1_7, .int .i64 a1_8, .slice A1_9 l1_9.length c1_9, .int .i64 a1_10, .slice A1_11 l1_11.length c1_11, .slice A1_12 l1_12.length c1_12, .bool a1_13, .string a1_14, .int .i64 a1_15, .string a1_16, .bool a1_17, .int .i64 a1_18, .int .i64 a1_19, .slice A1_20 l1_20.length c1_20, .slice A1_21 l1_21.length c1_21, .slice A1_22 l1_22.length c1_22, .slice A1_23 l1_23.length c1_23, .slice A1_24 l1_24.length c1_24, .bool a1_25, .slice A1_26 l1_26.length c1_26, .slice A1_27 l1_27.length c1_27, .slice A1_28 l1_28.length c1_28, .string a1_29]] w fun e w' => e = .returned (.bool r) ∧ Below w.heap.size w w' := by
 have hu60 := Try.underlying60
 have hu33 := Try.underlying33
 have HR0 := Aside0.mk hr0
 have HC0 := Aside0.mk hc0
 clear hr0 hc0
 have HR1_2 := Aside0.mk hr1_2
 have HC1_2 := Aside0.mk hc1_2
 clear hr1_2 hc1_2
 have HR1_3 := Aside0.mk hr1_3
 have HC1_3 := Aside0.mk hc1_3
 clear hr1_3 hc1_3
 have HR1_4 := Aside0.mk hr1_4
 have HC1_4 := Aside0.mk hc1_4
 clear hr1_4 hc1_4
 have HR1_5 := Aside0.mk hr1_5
 have HC1_5 := Aside0.mk hc1_5
 clear hr1_5 hc1_5
 have HR1_6 := Aside0.mk hr1_6
 have HC1_6 := Aside0.mk hc1_6
 clear hr1_6 hc1_6
 have HR1_9 := Aside0.mk hr1_9
 have HC1_9 := Aside0.mk hc1_9
 clear hr1_9 hc1_9
 have HR1_11 := Aside0.mk hr1_11
 have HC1_11 := Aside0.mk hc1_11
 clear hr1_11 hc1_11
 have HR1_12 := Aside0.mk hr1_12
 have HC1_12 := Aside0.mk hc1_12
 clear hr1_12 hc1_12
 have HR1_20 := Aside0.mk hr1_20
 have HC1_20 := Aside0.mk hc1_20
 clear hr1_20 hc1_20
 have HR1_21 := Aside0.mk hr1_21
 have HC1_21 := Aside0.mk hc1_21
 clear hr1_21 hc1_21
 have HR1_22 := Aside0.mk hr1_22
 have HC1_22 := Aside0.mk hc1_22
 clear hr1_22 hc1_22
 have HR1_23 := Aside0.mk hr1_23
 have HC1_23 := Aside0.mk hc1_23
 clear hr1_23 hc1_23
 have HR1_24 := Aside0.mk hr1_24
 have HC1_24 := Aside0.mk hc1_24
 clear hr1_24 hc1_24
 have HR1_26 := Aside0.mk hr1_26
 have HC1_26 := Aside0.mk hc1_26
 clear hr1_26 hc1_26
 have HR1_27 := Aside0.mk hr1_27
 have HC1_27 := Aside0.mk hc1_27
 clear hr1_27 hc1_27
 have HR1_28 := Aside0.mk hr1_28
 have HC1_28 := Aside0.mk hc1_28
 clear hr1_28 hc1_28
 have HB := Aside0.mk (Below.refl w.heap.size w)
 have H : (if (l0.length : Int) > 70 then (pentaglotlaw33_few.j0 k l0 true a1_0 a1_1 l1_2 l1_3 l1_4 l1_5 l1_6 a1_7 a1_8 l1_9 a1_10 l1_11 l1_12 a1_13 a1_14 a1_15 a1_16 a1_17 a1_18 a1_19 l1_20 l1_21 l1_22 l1_23 l1_24 a1_25 l1_26 l1_27 l1_28 a1_29) else (if (l1_27.length : Int) > 12 then (pentaglotlaw33_few.j0 k l0 true a1_0 a1_1 l1_2 l1_3 l1_4 l1_5 l1_6 a1_7 a1_8 l1_9 a1_10 l1_11 l1_12 a1_13 a1_14 a1_15 a1_16 a1_17 a1_18 a1_19 l1_20 l1_21 l1_22 l1_23 l1_24 a1_25 l1_26 l1_27 l1_28 a1_29) else (if (l1_28.length : Int) > 24 then (pentaglotlaw33_few.j0 k l0 true a1_0 a1_1 l1_2 l1_3 l1_4 l1_5 l1_6 a1_7 a1_8 l1_9 a1_10 l1_11 l1_12 a1_13 a1_14 a1_15 a1_16 a1_17 a1_18 a1_19 l1_20 l1_21 l1_22 l1_23 l1_24 a1_25 l1_26 l1_27 l1_28 a1_29) else (if (l1_5.length : Int) > 12 then (pentaglotlaw33_few.j0 k l0 true a1_0 a1_1 l1_2 l1_3 l1_4 l1_5 l1_6 a1_7 a1_8 l1_9 a1_10 l1_11 l1_12 a1_13 a1_14 a1_15 a1_16 a1_17 a1_18 a1_19 l1_20 l1_21 l1_22 l1_23 l1_24 a1_25 l1_26 l1_27 l1_28 a1_29) else (if (l1_4.length : Int) > 3 then (pentaglotlaw33_few.j0 k l0 true a1_0 a1_1 l1_2 l1_3 l1_4 l1_5 l1_6 a1_7 a1_8 l1_9 a1_10 l1_11 l1_12 a1_13 a1_14 a1_15 a1_16 a1_17 a1_18 a1_19 l1_20 l1_21 l1_22 l1_23 l1_24 a1_25 l1_26 l1_27 l1_28 a1_29) else (if (l1_2.length : Int) > 70 then (pentaglotlaw33_few.j0 k l0 true a1_0 a1_1 l1_2 l1_3 l1_4 l1_5 l1_6 a1_7 a1_8 l1_9 a1_10 l1_11 l1_12 a1_13 a1_14 a1_15 a1_16 a1_17 a1_18 a1_19 l1_20 l1_21 l1_22 l1_23 l1_24 a1_25 l1_26 l1_27 l1_28 a1_29) else (pentaglotlaw33_few.j0 k l0 (decide ((l1_3.length : Int) > 6)) a1_0 a1_1 l1_2 l1_3 l1_4 l1_5 l1_6 a1_7 a1_8 l1_9 a1_10 l1_11 l1_12 a1_13 a1_14 a1_15 a1_16 a1_17 a1_18 a1_19 l1_20 l1_21 l1_22 l1_23 l1_24 a1_25 l1_26 l1_27 l1_28 a1_29))))))) = some r := h
 clear h
 have HC3 := Aside0.mk H
 clear H
 go_enter Try.func21, Try.ntmps21
 go_upto_region 1 with (first | ((with_reducible refine gate_load (t := 60) (p := 3) rfl ?_); (try (refine gate_guard (by rfl) ?_; dsimp only)); refine wpList_load_row rfl 60 (.tmp 3) rfl gb202 rfl 60 _ (0, 0) _ (tK BK202) Try.underlying60 rfl (by kernel_rfl) ?_) | ((with_reducible refine gate_dst (N := 3) rfl ?_); (try (refine gate_guard (by rfl) ?_; dsimp only)); refine box_event ?hg (N := 3) ?hd (cs := #[.string a1_0, .bool a1_1, .slice A1_2 l1_2.length c1_2, .slice A1_3 l1_3.length c1_3, .slice A1_4 l1_4.length c1_4, .slice A1_5 l1_5.length c1_5, .slice A1_6 l1_6.length c1_6, .int .i64 a1_7, .int .i64 a1_8, .slice A1_9 l1_9.length c1_9, .int .i64 a1_10, .slice A1_11 l1_11.length c1_11, .slice A1_12 l1_12.length c1_12, .bool a1_13, .string a1_14, .int .i64 a1_15, .string a1_16, .bool a1_17, .int .i64 a1_18, .int .i64 a1_19, .slice A1_20 l1_20.length c1_20, .slice A1_21 l1_21.length c1_21, .slice A1_22 l1_22.length c1_22, .slice A1_23 l1_23.length c1_23, .slice A1_24 l1_24.length c1_24, .bool a1_25, .slice A1_26 l1_26.length c1_26, .slice A1_27 l1_27.length c1_27, .slice A1_28 l1_28.length c1_28, .string a1_29]) (t := 60) ?hr ?_; (case hd => rfl); (case hg => rfl); (case hr => first | (go_simp; done) | (go_simp; rfl)); intro gb202 hg w4 hbox hb; have n0_ := Aside0.mk (below_step (tB HB) hb); have n1_ := Aside0.mk (hbox); have n2_ := tZ hg (tS HB); have n3_ := tZ hg (tS HB); revert n0_ n1_ n2_ n3_; clear HB; intro HB BK202 GW202 GE202; clear hb hbox hg))
 (try simp only [Act.put, List.setIfInBounds_toArray, List.set_cons_zero, List.set_cons_succ])
 go_cut [54] (fun v54 wc => ∃ (kq : Nat) (x54_2 : Bool), v54 = .bool x54_2 ∧ Aside0 (pentaglotlaw33_few.j0 kq l0 x54_2 a1_0 a1_1 l1_2 l1_3 l1_4 l1_5 l1_6 a1_7 a1_8 l1_9 a1_10 l1_11 l1_12 a1_13 a1_14 a1_15 a1_16 a1_17 a1_18 a1_19 l1_20 l1_21 l1_22 l1_23 l1_24 a1_25 l1_26 l1_27 l1_28 a1_29 = some r) ∧ Aside0 (kq ≤ k) ∧ Aside0 (wc.heap[gb202]? = some (.cells #[.string a1_0, .bool a1_1, (.slice A1_2 l1_2.length c1_2), (.slice A1_3 l1_3.length c1_3), (.slice A1_4 l1_4.length c1_4), (.slice A1_5 l1_5.length c1_5), (.slice A1_6 l1_6.length c1_6), .int .i64 a1_7, .int .i64 a1_8, (.slice A1_9 l1_9.length c1_9), .int .i64 a1_10, (.slice A1_11 l1_11.length c1_11), (.slice A1_12 l1_12.length c1_12), .bool a1_13, .string a1_14, .int .i64 a1_15, .string a1_16, .bool a1_17, .int .i64 a1_18, .int .i64 a1_19, (.slice A1_20 l1_20.length c1_20), (.slice A1_21 l1_21.length c1_21), (.slice A1_22 l1_22.length c1_22), (.slice A1_23 l1_23.length c1_23), (.slice A1_24 l1_24.length c1_24), .bool a1_25, (.slice A1_26 l1_26.length c1_26), (.slice A1_27 l1_27.length c1_27), (.slice A1_28 l1_28.length c1_28), .string a1_29] 60 (0, 0))) ∧ Aside0 (Below w.heap.size w wc))
 case first =>
  have H := HC3.out
  clear HC3
  by_cases c5 : (l0.length : Int) > 70
  ·
   rw [if_pos c5] at H
   have c5b0 : decide (70 < (l0.length : Int)) = true := decide_eq_true c5
   have c5b1 : decide (70 < l0.length) = true := decide_eq_true (by omega)
   clear c5
   (first | rw [c5b0] | (simp only [i64_w, i32_w]; rw [c5b0]) | skip)
   have H' := Aside0.mk H
   clear H
   go_wp2
   go_meet
   case rel => exact ⟨_, (true), tV1, H', ⟨tU⟩, ⟨tK BK202⟩, ⟨tB HB⟩⟩
  ·
   rw [if_neg c5] at H
   have c5b0 : decide (70 < (l0.length : Int)) = false := decide_eq_false c5
   have c5b1 : decide (70 < l0.length) = false := decide_eq_false (by omega)
   clear c5
   (first | rw [c5b0] | (simp only [i64_w, i32_w]; rw [c5b0]) | skip)
   by_cases c6 : (l1_27.length : Int) > 12
   ·
    rw [if_pos c6] at H
    have c6b0 : decide (12 < (l1_27.length : Int)) = true := decide_eq_true c6
    have c6b1 : decide (12 < l1_27.length) = true := decide_eq_true (by omega)
    clear c6
    have H' := Aside0.mk H
    clear H; have hcz7_2 := cel2 BK202 2 rfl; have hcz7_3 := cel2 BK202 3 rfl; have hcz7_4 := cel2 BK202 4 rfl; have hcz7_5 := cel2 BK202 5 rfl; have hcz7_27 := cel2 BK202 27 rfl; have hcz7_28 := cel2 BK202 28 rfl; have hfz7_2 := blk_frozen BK202.out 2; have hfz7_3 := blk_frozen BK202.out 3; have hfz7_4 := blk_frozen BK202.out 4; have hfz7_5 := blk_frozen BK202.out 5; have hfz7_27 := blk_frozen BK202.out 27; have hfz7_28 := blk_frozen BK202.out 28
    go_wp2
    go_meet
    case rel => exact ⟨_, (true), tV1, H', ⟨tU⟩, ⟨tK BK202⟩, ⟨tB HB⟩⟩
   ·
    rw [if_neg c6] at H
    have c6b0 : decide (12 < (l1_27.length : Int)) = false := decide_eq_false c6
    have c6b1 : decide (12 < l1_27.length) = false := decide_eq_false (by omega)
    clear c6
    by_cases c8 : (l1_28.length : Int) > 24
    ·
     rw [if_pos c8] at H
     have c8b0 : decide (24 < (l1_28.length : Int)) = true := decide_eq_true c8
     have c8b1 : decide (24 < l1_28.length) = true := decide_eq_true (by omega)
     clear c8
     have H' := Aside0.mk H
     clear H; have hcz9_2 := cel2 BK202 2 rfl; have hcz9_3 := cel2 BK202 3 rfl; have hcz9_4 := cel2 BK202 4 rfl; have hcz9_5 := cel2 BK202 5 rfl; have hcz9_27 := cel2 BK202 27 rfl; have hcz9_28 := cel2 BK202 28 rfl; have hfz9_2 := blk_frozen BK202.out 2; have hfz9_3 := blk_frozen BK202.out 3; have hfz9_4 := blk_frozen BK202.out 4; have hfz9_5 := blk_frozen BK202.out 5; have hfz9_27 := blk_frozen BK202.out 27; have hfz9_28 := blk_frozen BK202.out 28
     go_wp2
     go_meet
     case rel => exact ⟨_, (true), tV1, H', ⟨tU⟩, ⟨tK BK202⟩, ⟨tB HB⟩⟩
    ·
     rw [if_neg c8] at H
     have c8b0 : decide (24 < (l1_28.length : Int)) = false := decide_eq_false c8
     have c8b1 : decide (24 < l1_28.length) = false := decide_eq_false (by omega)
     clear c8
     by_cases c10 : (l1_5.length : Int) > 12
     ·
      rw [if_pos c10] at H
      have c10b0 : decide (12 < (l1_5.length : Int)) = true := decide_eq_true c10
      have c10b1 : decide (12 < l1_5.length) = true := decide_eq_true (by omega)
      clear c10
      have H' := Aside0.mk H
      clear H; have hcz11_2 := cel2 BK202 2 rfl; have hcz11_3 := cel2 BK202 3 rfl; have hcz11_4 := cel2 BK202 4 rfl; have hcz11_5 := cel2 BK202 5 rfl; have hcz11_27 := cel2 BK202 27 rfl; have hcz11_28 := cel2 BK202 28 rfl; have hfz11_2 := blk_frozen BK202.out 2; have hfz11_3 := blk_frozen BK202.out 3; have hfz11_4 := blk_frozen BK202.out 4; have hfz11_5 := blk_frozen BK202.out 5; have hfz11_27 := blk_frozen BK202.out 27; have hfz11_28 := blk_frozen BK202.out 28
      go_wp2
      go_meet
      case rel => exact ⟨_, (true), tV1, H', ⟨tU⟩, ⟨tK BK202⟩, ⟨tB HB⟩⟩
     ·
      rw [if_neg c10] at H
      have c10b0 : decide (12 < (l1_5.length : Int)) = false := decide_eq_false c10
      have c10b1 : decide (12 < l1_5.length) = false := decide_eq_false (by omega)
      clear c10
      by_cases c12 : (l1_4.length : Int) > 3
      ·
       rw [if_pos c12] at H
       have c12b0 : decide (3 < (l1_4.length : Int)) = true := decide_eq_true c12
       have c12b1 : decide (3 < l1_4.length) = true := decide_eq_true (by omega)
       clear c12
       have H' := Aside0.mk H
       clear H; have hcz13_2 := cel2 BK202 2 rfl; have hcz13_3 := cel2 BK202 3 rfl; have hcz13_4 := cel2 BK202 4 rfl; have hcz13_5 := cel2 BK202 5 rfl; have hcz13_27 := cel2 BK202 27 rfl; have hcz13_28 := cel2 BK202 28 rfl; have hfz13_2 := blk_frozen BK202.out 2; have hfz13_3 := blk_frozen BK202.out 3; have hfz13_4 := blk_frozen BK202.out 4; have hfz13_5 := blk_frozen BK202.out 5; have hfz13_27 := blk_frozen BK202.out 27; have hfz13_28 := blk_frozen BK202.out 28
       go_wp2
       go_meet
       case rel => exact ⟨_, (true), tV1, H', ⟨tU⟩, ⟨tK BK202⟩, ⟨tB HB⟩⟩
      ·
       rw [if_neg c12] at H
       have c12b0 : decide (3 < (l1_4.length : Int)) = false := decide_eq_false c12
       have c12b1 : decide (3 < l1_4.length) = false := decide_eq_false (by omega)
       clear c12
       by_cases c14 : (l1_2.length : Int) > 70
       ·
        rw [if_pos c14] at H
        have c14b0 : decide (70 < (l1_2.length : Int)) = true := decide_eq_true c14
        have c14b1 : decide (70 < l1_2.length) = true := decide_eq_true (by omega)
        clear c14
        have H' := Aside0.mk H
        clear H; have hcz15_2 := cel2 BK202 2 rfl; have hcz15_3 := cel2 BK202 3 rfl; have hcz15_4 := cel2 BK202 4 rfl; have hcz15_5 := cel2 BK202 5 rfl; have hcz15_27 := cel2 BK202 27 rfl; have hcz15_28 := cel2 BK202 28 rfl; have hfz15_2 := blk_frozen BK202.out 2; have hfz15_3 := blk_frozen BK202.out 3; have hfz15_4 := blk_frozen BK202.out 4; have hfz15_5 := blk_frozen BK202.out 5; have hfz15_27 := blk_frozen BK202.out 27; have hfz15_28 := blk_frozen BK202.out 28
        go_wp2
        go_meet
        case rel => exact ⟨_, (true), tV1, H', ⟨tU⟩, ⟨tK BK202⟩, ⟨tB HB⟩⟩
       ·
        rw [if_neg c14] at H
        have c14b0 : decide (70 < (l1_2.length : Int)) = false := decide_eq_false c14
        have c14b1 : decide (70 < l1_2.length) = false := decide_eq_false (by omega)
        clear c14
        have H' := Aside0.mk H
        clear H; have hcz16_2 := cel2 BK202 2 rfl; have hcz16_3 := cel2 BK202 3 rfl; have hcz16_4 := cel2 BK202 4 rfl; have hcz16_5 := cel2 BK202 5 rfl; have hcz16_27 := cel2 BK202 27 rfl; have hcz16_28 := cel2 BK202 28 rfl; have hfz16_2 := blk_frozen BK202.out 2; have hfz16_3 := blk_frozen BK202.out 3; have hfz16_4 := blk_frozen BK202.out 4; have hfz16_5 := blk_frozen BK202.out 5; have hfz16_27 := blk_frozen BK202.out 27; have hfz16_28 := blk_frozen BK202.out 28
        go_wp2
        go_meet
        case rel => exact ⟨_, (decide ((l1_3.length : Int) > 6)), tV1, H', ⟨tU⟩, ⟨tK BK202⟩, ⟨tB HB⟩⟩
 case rest =>
  clear HC3
  obtain ⟨kq, x54_2, rfl, HA, HJ2, BK202, HB⟩ := hcut
  cases kq with
  | zero => exact absurd HA.out (by simp [pentaglotlaw33_few.j0])
  | succ kj2 =>
   have H := HA.out
   clear HA
   simp only [pentaglotlaw33_few.j0] at H
   by_cases c17 : x54_2 = true
   ·
    subst c17
    rw [if_pos rfl] at H
    obtain rfl := Option.some.inj H
    go_wp2
    go_ret
    exact ⟨tE, by repeat (first | (with_reducible first | exact HB.out | apply below_alloc | apply pw_below_drewN | apply below_drew1 | refine below_set ?_ GE202.out) | exact HB.out)⟩
   ·
    replace c17 := Bool.eq_false_iff.mpr c17
    subst c17
    rw [if_neg (show ¬ (false = true) by decide)] at H
    have H' := Aside0.mk H
    clear H
    go_wp2
    go_loopg [5] kj2 (fun kq v5 w' => ∃ (x5_2 : Int), v5 = .int .i64 x5_2 ∧ Aside0 (pentaglotlaw33_few.l0 kq l0 x5_2 a1_0 a1_1 l1_2 l1_3 l1_4 l1_5 l1_6 a1_7 a1_8 l1_9 a1_10 l1_11 l1_12 a1_13 a1_14 a1_15 a1_16 a1_17 a1_18 a1_19 l1_20 l1_21 l1_22 l1_23 l1_24 a1_25 l1_26 l1_27 l1_28 a1_29 = some r) ∧ Aside0 (kq ≤ kj2) ∧ Aside0 (w'.heap[gb202]? = some (.cells #[.string a1_0, .bool a1_1, (.slice A1_2 l1_2.length c1_2), (.slice A1_3 l1_3.length c1_3), (.slice A1_4 l1_4.length c1_4), (.slice A1_5 l1_5.length c1_5), (.slice A1_6 l1_6.length c1_6), .int .i64 a1_7, .int .i64 a1_8, (.slice A1_9 l1_9.length c1_9), .int .i64 a1_10, (.slice A1_11 l1_11.length c1_11), (.slice A1_12 l1_12.length c1_12), .bool a1_13, .string a1_14, .int .i64 a1_15, .string a1_16, .bool a1_17, .int .i64 a1_18, .int .i64 a1_19, (.slice A1_20 l1_20.length c1_20), (.slice A1_21 l1_21.length c1_21), (.slice A1_22 l1_22.length c1_22), (.slice A1_23 l1_23.length c1_23), (.slice A1_24 l1_24.length c1_24), .bool a1_25, (.slice A1_26 l1_26.length c1_26), (.slice A1_27 l1_27.length c1_27), (.slice A1_28 l1_28.length c1_28), .string a1_29] 60 (0, 0))) ∧ Aside0 (Below w.heap.size w w'))
    case atStart => exact ⟨(0), tV1, H', ⟨Nat.le_refl _⟩, ⟨tK BK202⟩, ⟨tB HB⟩⟩
    case round =>
     clear H'; (try clear c17)
     obtain ⟨x5_2, rfl, HA, HK2, BK202, HB⟩ := hrel
     cases gk with
     | zero => exact absurd HA.out (by simp [pentaglotlaw33_few.l0])
     | succ k2 =>
      have H := HA.out
      clear HA
      simp only [pentaglotlaw33_few.l0] at H
      by_cases c18 : x5_2 < (l0.length : Int)
      ·
       rw [if_pos c18] at H
       have c18b0 : decide (x5_2 < (l0.length : Int)) = true := decide_eq_true c18
       clear c18
       by_cases c19 : 0 ≤ x5_2
       ·
        rw [if_pos c19] at H
        have c19b0 : decide (0 ≤ x5_2) = true := decide_eq_true c19
        clear c19
        by_cases c20 : ((rd_T85 l0 x5_2).f3) < 0
        ·
         rw [if_pos c20] at H
         have c20b0 : decide (((rd_T85 l0 x5_2).f3) < 0) = true := decide_eq_true c20
         clear c20
         obtain rfl := Option.some.inj H
         have p203 : 0 ≤ (x5_2 : Int) := oD
         have q203 : x5_2 < (l0.length : Int) := oD
         obtain ⟨ad203, A203_1, c203_1, e203, hx203_0, hx203_1, hx203_2, hx203_3, hl203_1, hi203_1⟩ := at_T85 HR0.out x5_2 p203 q203
         cases e203
         replace hx203_0 := celB HB hx203_0
         replace hx203_1 := celB HB hx203_1
         replace hx203_2 := celB HB hx203_2
         replace hx203_3 := celB HB hx203_3
         have HR203_1 := Aside0.mk hi203_1
         have HC203_1 := Aside0.mk hl203_1
         clear hi203_1 hl203_1
         replace p203 := eq_true p203
         replace q203 := eq_true q203
         go_wp2
         go_ret
         exact ⟨tE, by repeat (first | (with_reducible first | exact HB.out | apply below_alloc | apply pw_below_drewN | apply below_drew1 | refine below_set ?_ GE202.out) | exact HB.out)⟩
        ·
         rw [if_neg c20] at H
         have c20b0 : decide (((rd_T85 l0 x5_2).f3) < 0) = false := decide_eq_false c20
         clear c20
         have H' := Aside0.mk H
         clear H
         have p203 : 0 ≤ (x5_2 : Int) := oD
         have q203 : x5_2 < (l0.length : Int) := oD
         obtain ⟨ad203, A203_1, c203_1, e203, hx203_0, hx203_1, hx203_2, hx203_3, hl203_1, hi203_1⟩ := at_T85 HR0.out x5_2 p203 q203
         cases e203
         replace hx203_0 := celB HB hx203_0
         replace hx203_1 := celB HB hx203_1
         replace hx203_2 := celB HB hx203_2
         replace hx203_3 := celB HB hx203_3
         have HR203_1 := Aside0.mk hi203_1
         have HC203_1 := Aside0.mk hl203_1
         clear hi203_1 hl203_1
         replace p203 := eq_true p203
         replace q203 := eq_true q203
         go_wp2
         go_roundg k2
         case measure => have := HJ2.out; have := HK2.out; omega
         case rel => exact ⟨(wrap64 (x5_2 + 1)), tV1, H', ⟨by have := HJ2.out; have := HK2.out; omega⟩, ⟨tK BK202⟩, ⟨tB HB⟩⟩
       ·
        rw [if_neg c19] at H
        exact absurd H (by simp)
      ·
       rw [if_neg c18] at H
       have c18b0 : decide (x5_2 < (l0.length : Int)) = false := decide_eq_false c18
       clear c18
       have H' := Aside0.mk H
       clear H
       go_wp2
       go_loopg [6] k2 (fun kq v6 w' => ∃ (x6_3 : Int), v6 = .int .i64 x6_3 ∧ Aside0 (pentaglotlaw33_few.l1 kq x6_3 a1_0 a1_1 l1_2 l1_3 l1_4 l1_5 l1_6 a1_7 a1_8 l1_9 a1_10 l1_11 l1_12 a1_13 a1_14 a1_15 a1_16 a1_17 a1_18 a1_19 l1_20 l1_21 l1_22 l1_23 l1_24 a1_25 l1_26 l1_27 l1_28 a1_29 = some r) ∧ Aside0 (kq ≤ k2) ∧ Aside0 (w'.heap[gb202]? = some (.cells #[.string a1_0, .bool a1_1, (.slice A1_2 l1_2.length c1_2), (.slice A1_3 l1_3.length c1_3), (.slice A1_4 l1_4.length c1_4), (.slice A1_5 l1_5.length c1_5), (.slice A1_6 l1_6.length c1_6), .int .i64 a1_7, .int .i64 a1_8, (.slice A1_9 l1_9.length c1_9), .int .i64 a1_10, (.slice A1_11 l1_11.length c1_11), (.slice A1_12 l1_12.length c1_12), .bool a1_13, .string a1_14, .int .i64 a1_15, .string a1_16, .bool a1_17, .int .i64 a1_18, .int .i64 a1_19, (.slice A1_20 l1_20.length c1_20), (.slice A1_21 l1_21.length c1_21), (.slice A1_22 l1_22.length c1_22), (.slice A1_23 l1_23.length c1_23), (.slice A1_24 l1_24.length c1_24), .bool a1_25, (.slice A1_26 l1_26.length c1_26), (.slice A1_27 l1_27.length c1_27), (.slice A1_28 l1_28.length c1_28), .string a1_29] 60 (0, 0))) ∧ Aside0 (Below w.heap.size w w'))
       case atStart => exact ⟨(0), tV1, H', ⟨Nat.le_refl _⟩, ⟨tK BK202⟩, ⟨tB HB⟩⟩
       case round =>
        clear H'; (try clear c17); (try clear c18); (try clear c18b0)
        obtain ⟨x6_3, rfl, HA, HK3, BK202, HB⟩ := hrel
        cases gk with
        | zero => exact absurd HA.out (by simp [pentaglotlaw33_few.l1])
        | succ k3 =>
         have H := HA.out
         clear HA
         simp only [pentaglotlaw33_few.l1] at H
         by_cases c21 : x6_3 < (l1_28.length : Int)
         ·
          rw [if_pos c21] at H
          have c21b0 : decide (x6_3 < (l1_28.length : Int)) = true := decide_eq_true c21
          clear c21
          by_cases c22 : 0 ≤ x6_3
          ·
           rw [if_pos c22] at H
           have c22b0 : decide (0 ≤ x6_3) = true := decide_eq_true c22
           clear c22
           have HC23 := Aside0.mk H
           clear H; have hcz24_2 := cel2 BK202 2 rfl; have hcz24_3 := cel2 BK202 3 rfl; have hcz24_4 := cel2 BK202 4 rfl; have hcz24_5 := cel2 BK202 5 rfl; have hcz24_27 := cel2 BK202 27 rfl; have hcz24_28 := cel2 BK202 28 rfl; have hfz24_2 := blk_frozen BK202.out 2; have hfz24_3 := blk_frozen BK202.out 3; have hfz24_4 := blk_frozen BK202.out 4; have hfz24_5 := blk_frozen BK202.out 5; have hfz24_27 := blk_frozen BK202.out 27; have hfz24_28 := blk_frozen BK202.out 28
           have p204 : 0 ≤ (x6_3 : Int) := oD
           have q204 : x6_3 < (l1_28.length : Int) := oD
           obtain ⟨ad204, A204_1, c204_1, A204_2, c204_2, A204_3, c204_3, e204, hx204_0, hx204_1, hx204_2, hx204_3, hl204_1, hi204_1, hl204_2, hi204_2, hl204_3, hi204_3⟩ := at_T33 HR1_28.out x6_3 p204 q204
           cases e204
           replace hx204_0 := celB HB hx204_0
           replace hx204_1 := celB HB hx204_1
           replace hx204_2 := celB HB hx204_2
           replace hx204_3 := celB HB hx204_3
           have HR204_1 := Aside0.mk hi204_1
           have HC204_1 := Aside0.mk hl204_1
           clear hi204_1 hl204_1
           have HR204_2 := Aside0.mk hi204_2
           have HC204_2 := Aside0.mk hl204_2
           clear hi204_2 hl204_2
           have HR204_3 := Aside0.mk hi204_3
           have HC204_3 := Aside0.mk hl204_3
           clear hi204_3 hl204_3
           replace p204 := eq_true p204
           replace q204 := eq_true q204
           go_upto_region 12 with (first | ((with_reducible refine gate_load (t := 60) (p := 3) rfl ?_); (try (refine gate_guard (by rfl) ?_; dsimp only)); refine wpList_load_row rfl 60 (.tmp 3) rfl gb202 rfl 60 _ (0, 0) _ (tK BK202) Try.underlying60 rfl (by kernel_rfl) ?_) | ((with_reducible refine gate_dst (N := 7) rfl ?_); (try (refine gate_guard (by rfl) ?_; dsimp only)); refine box_event ?hg (N := 7) ?hd (cs := #[.string (⟨#[]⟩ : ByteArray), .slice none 0 0, .slice none 0 0, .slice none 0 0]) (t := 33) ?hr ?_; (case hd => rfl); (case hg => rfl); (case hr => first | (go_simp; done) | (go_simp; rfl)); intro gb205 hg w25 hbox hb; have n0_ := Aside0.mk (blk_below (tK BK202) hb); have n1_ := Aside0.mk (below_step (tB HB) hb); have n2_ := Aside0.mk (hbox); have n3_ := tZ hg (tS HB); have n4_ := tZ hg (tS HB); have n5_ := tL hg (tK BK202); have n6_ := tG hg (tK BK202); revert n0_ n1_ n2_ n3_ n4_ n5_ n6_; clear BK202 HB; intro BK202 HB BK205 GW205 GE205 NB202_205 NB205_202; clear hb hbox hg; have hnb26 := NB205_202.out; have hnc26 := NB202_205.out; have hcz27_0 := cel2 BK205 0 rfl; have hcz27_1 := cel2 BK205 1 rfl; have hcz27_2 := cel2 BK205 2 rfl; have hcz27_3 := cel2 BK205 3 rfl; have hfz27_0 := blk_frozen BK205.out 0; have hfz27_1 := blk_frozen BK205.out 1; have hfz27_2 := blk_frozen BK205.out 2; have hfz27_3 := blk_frozen BK205.out 3))
           (try simp only [Act.put, List.setIfInBounds_toArray, List.set_cons_zero, List.set_cons_succ])
           go_cut [100] (fun v100 wc => ∃ (kq : Nat) (x100_22 : Bool), v100 = .bool x100_22 ∧ Aside0 (pentaglotlaw33_few.j3 kq x6_3 x100_22 a1_0 a1_1 l1_2 l1_3 l1_4 l1_5 l1_6 a1_7 a1_8 l1_9 a1_10 l1_11 l1_12 a1_13 a1_14 a1_15 a1_16 a1_17 a1_18 a1_19 l1_20 l1_21 l1_22 l1_23 l1_24 a1_25 l1_26 l1_27 l1_28 a1_29 ((rd_T33 l1_28 x6_3).f0) ((rd_T33 l1_28 x6_3).f1) ((rd_T33 l1_28 x6_3).f2) ((rd_T33 l1_28 x6_3).f3) = some r) ∧ Aside0 (kq ≤ k3) ∧ Aside0 (wc.heap[gb202]? = some (.cells #[.string a1_0, .bool a1_1, (.slice A1_2 l1_2.length c1_2), (.slice A1_3 l1_3.length c1_3), (.slice A1_4 l1_4.length c1_4), (.slice A1_5 l1_5.length c1_5), (.slice A1_6 l1_6.length c1_6), .int .i64 a1_7, .int .i64 a1_8, (.slice A1_9 l1_9.length c1_9), .int .i64 a1_10, (.slice A1_11 l1_11.length c1_11), (.slice A1_12 l1_12.length c1_12), .bool a1_13, .string a1_14, .int .i64 a1_15, .string a1_16, .bool a1_17, .int .i64 a1_18, .int .i64 a1_19, (.slice A1_20 l1_20.length c1_20), (.slice A1_21 l1_21.length c1_21), (.slice A1_22 l1_22.length c1_22), (.slice A1_23 l1_23.length c1_23), (.slice A1_24 l1_24.length c1_24), .bool a1_25, (.slice A1_26 l1_26.length c1_26), (.slice A1_27 l1_27.length c1_27), (.slice (some ad204) l1_28.length c1_28), .string a1_29] 60 (0, 0))) ∧ Aside0 (wc.heap[gb205]? = some (.cells #[.string ((rd_T33 l1_28 x6_3).f0), (.slice A204_1 ((rd_T33 l1_28 x6_3).f1).length c204_1), (.slice A204_2 ((rd_T33 l1_28 x6_3).f2).length c204_2), (.slice A204_3 ((rd_T33 l1_28 x6_3).f3).length c204_3)] 33 (0, 0))) ∧ Aside0 (Below w.heap.size w wc))
           case first =>
            have H := HC23.out
            clear HC23
            by_cases c28 : (((rd_T33 l1_28 x6_3).f1).length : Int) > 4
            ·
             rw [if_pos c28] at H
             have c28b0 : decide (4 < (((rd_T33 l1_28 x6_3).f1).length : Int)) = true := decide_eq_true c28
             have c28b1 : decide (4 < ((rd_T33 l1_28 x6_3).f1).length) = true := decide_eq_true (by omega)
             clear c28
             (first | rw [c28b0] | (simp only [i64_w, i32_w]; rw [c28b0]) | skip)
             have H' := Aside0.mk H
             clear H
             have hnb29 := NB205_202.out
             have hnc29 := NB202_205.out
             obtain ⟨hcz30_0, hcz30_1, hcz30_2, hcz30_3, hfz30_0, hfz30_1, hfz30_2, hfz30_3⟩ := bx4 BK205
             go_wp2
             go_meet
             case rel => exact ⟨_, (true), tV1, H', ⟨by have := HJ2.out; have := HK2.out; have := HK3.out; first | omega | exact Nat.le_refl _⟩, ⟨tK BK202⟩, ⟨tKp BK205⟩, ⟨tB HB⟩⟩
            ·
             rw [if_neg c28] at H
             have c28b0 : decide (4 < (((rd_T33 l1_28 x6_3).f1).length : Int)) = false := decide_eq_false c28
             have c28b1 : decide (4 < ((rd_T33 l1_28 x6_3).f1).length) = false := decide_eq_false (by omega)
             clear c28
             (first | rw [c28b0] | (simp only [i64_w, i32_w]; rw [c28b0]) | skip)
             by_cases c31 : (((rd_T33 l1_28 x6_3).f3).length : Int) > 8
             ·
              rw [if_pos c31] at H
              have c31b0 : decide (8 < (((rd_T33 l1_28 x6_3).f3).length : Int)) = true := decide_eq_true c31
              have c31b1 : decide (8 < ((rd_T33 l1_28 x6_3).f3).length) = true := decide_eq_true (by omega)
              clear c31
              have H' := Aside0.mk H
              clear H
              have hnb32 := NB205_202.out
              have hnc32 := NB202_205.out
              obtain ⟨hcz33_0, hcz33_1, hcz33_2, hcz33_3, hfz33_0, hfz33_1, hfz33_2, hfz33_3⟩ := bx4 BK205
              go_wp2
              go_meet
              case rel => exact ⟨_, (true), tV1, H', ⟨by have := HJ2.out; have := HK2.out; have := HK3.out; first | omega | exact Nat.le_refl _⟩, ⟨tK BK202⟩, ⟨tKp BK205⟩, ⟨tB HB⟩⟩
             ·
              rw [if_neg c31] at H
              have c31b0 : decide (8 < (((rd_T33 l1_28 x6_3).f3).length : Int)) = false := decide_eq_false c31
              have c31b1 : decide (8 < ((rd_T33 l1_28 x6_3).f3).length) = false := decide_eq_false (by omega)
              clear c31
              replace H := Option.bind_eq_some_iff.mp H
              obtain ⟨t206, A340, H⟩ := H
              (try dsimp only at H)
              have A34 := Aside0.mk A340
              clear A340
              by_cases c35 : t206 = true
              ·
               subst c35
               rw [if_pos rfl] at H
               have H' := Aside0.mk H
               clear H
               have hnb36 := NB205_202.out
               have hnc36 := NB202_205.out
               obtain ⟨hcz37_0, hcz37_1, hcz37_2, hcz37_3, hfz37_0, hfz37_1, hfz37_2, hfz37_3⟩ := bx4 BK205
               go_wp2_with (first | ((with_reducible refine gate_load (t := 60) (p := 3) rfl ?_); (try (refine gate_guard (by rfl) ?_; dsimp only)); refine wpList_load_row rfl 60 (.tmp 3) rfl gb202 rfl 60 _ (0, 0) _ (tK BK202) Try.underlying60 rfl (by kernel_rfl) ?_) | (go_at_call 13; (with_reducible refine (pentaglotlaw33_records.calls k3 _ _ ((rd_T33 l1_28 x6_3).f1) true _ ?s1 ?s2 A34.out).mono ?_); (case s1 => exact Kd.C_below HR204_1.out (tB HB)); (case s2 => exact HC204_1.out); rintro e w' ⟨rfl, ⟨nd, rfl⟩⟩))
               go_meet
               case rel => exact ⟨_, (decide ((((rd_T33 l1_28 x6_3).f2).length : Int) > 10)), tV1, H', ⟨by have := HJ2.out; have := HK2.out; have := HK3.out; first | omega | exact Nat.le_refl _⟩, ⟨tK BK202⟩, ⟨tKp BK205⟩, ⟨tB HB⟩⟩
              ·
               replace c35 := Bool.eq_false_iff.mpr c35
               subst c35
               rw [if_neg (show ¬ (false = true) by decide)] at H
               have H' := Aside0.mk H
               clear H
               have hnb38 := NB205_202.out
               have hnc38 := NB202_205.out
               obtain ⟨hcz39_0, hcz39_1, hcz39_2, hcz39_3, hfz39_0, hfz39_1, hfz39_2, hfz39_3⟩ := bx4 BK205
               go_wp2_with (first | ((with_reducible refine gate_load (t := 60) (p := 3) rfl ?_); (try (refine gate_guard (by rfl) ?_; dsimp only)); refine wpList_load_row rfl 60 (.tmp 3) rfl gb202 rfl 60 _ (0, 0) _ (tK BK202) Try.underlying60 rfl (by kernel_rfl) ?_) | (go_at_call 13; (with_reducible refine (pentaglotlaw33_records.calls k3 _ _ ((rd_T33 l1_28 x6_3).f1) false _ ?s1 ?s2 A34.out).mono ?_); (case s1 => exact Kd.C_below HR204_1.out (tB HB)); (case s2 => exact HC204_1.out); rintro e w' ⟨rfl, ⟨nd, rfl⟩⟩))
               go_meet
               case rel => exact ⟨_, (true), tV1, H', ⟨by have := HJ2.out; have := HK2.out; have := HK3.out; first | omega | exact Nat.le_refl _⟩, ⟨tK BK202⟩, ⟨tKp BK205⟩, ⟨tB HB⟩⟩
           case rest =>
            clear HC23; (try clear c17); (try clear c18); (try clear c18b0); (try clear c21); (try clear c21b0); (try clear c22); (try clear c22b0); (try clear hcz24_2); (try clear hcz24_27); (try clear hcz24_28); (try clear hcz24_3); (try clear hcz24_4); (try clear hcz24_5); (try clear hcz27_0); (try clear hcz27_1); (try clear hcz27_2); (try clear hcz27_3); (try clear hfz24_2); (try clear hfz24_27); (try clear hfz24_28); (try clear hfz24_3); (try clear hfz24_4); (try clear hfz24_5); (try clear hfz27_0); (try clear hfz27_1); (try clear hfz27_2); (try clear hfz27_3); (try clear hx204_0); (try clear hx204_1); (try clear hx204_2); (try clear hx204_3); (try clear p204); (try clear q204)
            obtain ⟨kq, x100_22, rfl, HA, HJ22, BK202, BK205, HB⟩ := hcut
            cases kq with
            | zero => exact absurd HA.out (by simp [pentaglotlaw33_few.j3])
            | succ kj22 =>
             have H := HA.out
             clear HA
             simp only [pentaglotlaw33_few.j3] at H
             by_cases c40 : x100_22 = true
             ·
              subst c40
              rw [if_pos rfl] at H
              obtain rfl := Option.some.inj H
              go_wp2
              go_ret
              exact ⟨tE, by repeat (first | (with_reducible first | exact HB.out | apply below_alloc | apply pw_below_drewN | apply below_drew1 | refine below_set ?_ GE202.out | refine below_set ?_ GE205.out) | exact HB.out)⟩
             ·
              replace c40 := Bool.eq_false_iff.mpr c40
              subst c40
              rw [if_neg (show ¬ (false = true) by decide)] at H
              have H' := Aside0.mk H
              clear H
              go_wp2
              go_loopg [8] kj22 (fun kq v8 w' => ∃ (x8_5 : Int), v8 = .int .i64 x8_5 ∧ Aside0 (pentaglotlaw33_few.l2 kq x6_3 x8_5 a1_0 a1_1 l1_2 l1_3 l1_4 l1_5 l1_6 a1_7 a1_8 l1_9 a1_10 l1_11 l1_12 a1_13 a1_14 a1_15 a1_16 a1_17 a1_18 a1_19 l1_20 l1_21 l1_22 l1_23 l1_24 a1_25 l1_26 l1_27 l1_28 a1_29 ((rd_T33 l1_28 x6_3).f0) ((rd_T33 l1_28 x6_3).f1) ((rd_T33 l1_28 x6_3).f2) ((rd_T33 l1_28 x6_3).f3) = some r) ∧ Aside0 (kq ≤ kj22) ∧ Aside0 (w'.heap[gb202]? = some (.cells #[.string a1_0, .bool a1_1, (.slice A1_2 l1_2.length c1_2), (.slice A1_3 l1_3.length c1_3), (.slice A1_4 l1_4.length c1_4), (.slice A1_5 l1_5.length c1_5), (.slice A1_6 l1_6.length c1_6), .int .i64 a1_7, .int .i64 a1_8, (.slice A1_9 l1_9.length c1_9), .int .i64 a1_10, (.slice A1_11 l1_11.length c1_11), (.slice A1_12 l1_12.length c1_12), .bool a1_13, .string a1_14, .int .i64 a1_15, .string a1_16, .bool a1_17, .int .i64 a1_18, .int .i64 a1_19, (.slice A1_20 l1_20.length c1_20), (.slice A1_21 l1_21.length c1_21), (.slice A1_22 l1_22.length c1_22), (.slice A1_23 l1_23.length c1_23), (.slice A1_24 l1_24.length c1_24), .bool a1_25, (.slice A1_26 l1_26.length c1_26), (.slice A1_27 l1_27.length c1_27), (.slice (some ad204) l1_28.length c1_28), .string a1_29] 60 (0, 0))) ∧ Aside0 (w'.heap[gb205]? = some (.cells #[.string ((rd_T33 l1_28 x6_3).f0), (.slice A204_1 ((rd_T33 l1_28 x6_3).f1).length c204_1), (.slice A204_2 ((rd_T33 l1_28 x6_3).f2).length c204_2), (.slice A204_3 ((rd_T33 l1_28 x6_3).f3).length c204_3)] 33 (0, 0))) ∧ Aside0 (Below w.heap.size w w'))
              case atStart => exact ⟨(0), tV1, H', ⟨Nat.le_refl _⟩, ⟨tK BK202⟩, ⟨tK BK205⟩, ⟨tB HB⟩⟩
              case round =>
               clear H'; (try clear c17); (try clear c18); (try clear c18b0); (try clear c21); (try clear c21b0); (try clear c22); (try clear c22b0); (try clear c40); (try clear hcz24_2); (try clear hcz24_27); (try clear hcz24_28); (try clear hcz24_3); (try clear hcz24_4); (try clear hcz24_5); (try clear hcz27_0); (try clear hcz27_1); (try clear hcz27_2); (try clear hcz27_3); (try clear hfz24_2); (try clear hfz24_27); (try clear hfz24_28); (try clear hfz24_3); (try clear hfz24_4); (try clear hfz24_5); (try clear hfz27_0); (try clear hfz27_1); (try clear hfz27_2); (try clear hfz27_3); (try clear hx204_0); (try clear hx204_1); (try clear hx204_2); (try clear hx204_3); (try clear p204); (try clear q204)
               obtain ⟨x8_5, rfl, HA, HK5, BK202, BK205, HB⟩ := hrel
               cases gk with
               | zero => exact absurd HA.out (by simp [pentaglotlaw33_few.l2])
               | succ k5 =>
                have H := HA.out
                clear HA
                simp only [pentaglotlaw33_few.l2] at H
                by_cases c41 : x8_5 < (((rd_T33 l1_28 x6_3).f3).length : Int)
                ·
                 rw [if_pos c41] at H
                 have c41b0 : decide (x8_5 < (((rd_T33 l1_28 x6_3).f3).length : Int)) = true := decide_eq_true c41
                 clear c41
                 by_cases c42 : 0 ≤ x8_5
                 ·
                  rw [if_pos c42] at H
                  have c42b0 : decide (0 ≤ x8_5) = true := decide_eq_true c42
                  clear c42
                  by_cases c43 : (((rd_T88 ((rd_T33 l1_28 x6_3).f3) x8_5).f1).length : Int) > 20
                  ·
                   rw [if_pos c43] at H
                   have c43b0 : decide (20 < (((rd_T88 ((rd_T33 l1_28 x6_3).f3) x8_5).f1).length : Int)) = true := decide_eq_true c43
                   have c43b1 : decide (20 < ((rd_T88 ((rd_T33 l1_28 x6_3).f3) x8_5).f1).length) = true := decide_eq_true (by omega)
                   clear c43
                   obtain rfl := Option.some.inj H
                   have hnb44 := NB205_202.out
                   have hnc44 := NB202_205.out
                   obtain ⟨hcz45_0, hcz45_1, hcz45_2, hcz45_3, hfz45_0, hfz45_1, hfz45_2, hfz45_3⟩ := bx4 BK205
                   have p207 : 0 ≤ (x8_5 : Int) := oD
                   have q207 : x8_5 < (((rd_T33 l1_28 x6_3).f3).length : Int) := oD
                   obtain ⟨ad207, A207_1, c207_1, e207, hx207_0, hx207_1, hl207_1, hi207_1⟩ := at_T88 HR204_3.out x8_5 p207 q207
                   cases e207
                   replace hx207_0 := celB HB hx207_0
                   replace hx207_1 := celB HB hx207_1
                   have HR207_1 := Aside0.mk hi207_1
                   have HC207_1 := Aside0.mk hl207_1
                   clear hi207_1 hl207_1
                   replace p207 := eq_true p207
                   replace q207 := eq_true q207
                   go_wp2
                   go_ret
                   exact ⟨tE, by repeat (first | (with_reducible first | exact HB.out | apply below_alloc | apply pw_below_drewN | apply below_drew1 | refine below_set ?_ GE202.out | refine below_set ?_ GE205.out) | exact HB.out)⟩
                  ·
                   rw [if_neg c43] at H
                   have c43b0 : decide (20 < (((rd_T88 ((rd_T33 l1_28 x6_3).f3) x8_5).f1).length : Int)) = false := decide_eq_false c43
                   have c43b1 : decide (20 < ((rd_T88 ((rd_T33 l1_28 x6_3).f3) x8_5).f1).length) = false := decide_eq_false (by omega)
                   clear c43
                   have H' := Aside0.mk H
                   clear H
                   have hnb46 := NB205_202.out
                   have hnc46 := NB202_205.out
                   obtain ⟨hcz47_0, hcz47_1, hcz47_2, hcz47_3, hfz47_0, hfz47_1, hfz47_2, hfz47_3⟩ := bx4 BK205
                   have p207 : 0 ≤ (x8_5 : Int) := oD
                   have q207 : x8_5 < (((rd_T33 l1_28 x6_3).f3).length : Int) := oD
                   obtain ⟨ad207, A207_1, c207_1, e207, hx207_0, hx207_1, hl207_1, hi207_1⟩ := at_T88 HR204_3.out x8_5 p207 q207
                   cases e207
                   replace hx207_0 := celB HB hx207_0
                   replace hx207_1 := celB HB hx207_1
                   have HR207_1 := Aside0.mk hi207_1
                   have HC207_1 := Aside0.mk hl207_1
                   clear hi207_1 hl207_1
                   replace p207 := eq_true p207
                   replace q207 := eq_true q207
                   go_wp2
                   go_roundg k5
                   case measure => have := HJ2.out; have := HK2.out; have := HK3.out; have := HJ22.out; have := HK5.out; omega
                   case rel => exact ⟨(wrap64 (x8_5 + 1)), tV1, H', ⟨by have := HJ2.out; have := HK2.out; have := HK3.out; have := HJ22.out; have := HK5.out; omega⟩, ⟨tK BK202⟩, ⟨tK BK205⟩, ⟨tB HB⟩⟩
                 ·
                  rw [if_neg c42] at H
                  exact absurd H (by simp)
                ·
                 rw [if_neg c41] at H
                 have c41b0 : decide (x8_5 < (((rd_T33 l1_28 x6_3).f3).length : Int)) = false := decide_eq_false c41
                 clear c41
                 have H' := Aside0.mk H
                 clear H
                 have hnb48 := NB205_202.out
                 have hnc48 := NB202_205.out
                 obtain ⟨hcz49_0, hcz49_1, hcz49_2, hcz49_3, hfz49_0, hfz49_1, hfz49_2, hfz49_3⟩ := bx4 BK205
                 go_wp2
                 go_roundg k5
                 case measure => have := HJ2.out; have := HK2.out; have := HK3.out; have := HJ22.out; have := HK5.out; omega
                 case rel => exact ⟨(wrap64 (x6_3 + 1)), tV1, H', ⟨by have := HJ2.out; have := HK2.out; have := HK3.out; have := HJ22.out; have := HK5.out; omega⟩, ⟨tK BK202⟩, ⟨tB HB⟩⟩
          ·
           rw [if_neg c22] at H
           exact absurd H (by simp)
         ·
          rw [if_neg c21] at H
          have c21b0 : decide (x6_3 < (l1_28.length : Int)) = false := decide_eq_false c21
          clear c21
          have H' := Aside0.mk H
          clear H; have hcz50_2 := cel2 BK202 2 rfl; have hcz50_3 := cel2 BK202 3 rfl; have hcz50_4 := cel2 BK202 4 rfl; have hcz50_5 := cel2 BK202 5 rfl; have hcz50_27 := cel2 BK202 27 rfl; have hcz50_28 := cel2 BK202 28 rfl; have hfz50_2 := blk_frozen BK202.out 2; have hfz50_3 := blk_frozen BK202.out 3; have hfz50_4 := blk_frozen BK202.out 4; have hfz50_5 := blk_frozen BK202.out 5; have hfz50_27 := blk_frozen BK202.out 27; have hfz50_28 := blk_frozen BK202.out 28
          go_wp2
          go_loopg [9] k3 (fun kq v9 w' => ∃ (x9_4 : Int), v9 = .int .i64 x9_4 ∧ Aside0 (pentaglotlaw33_few.l3 kq x9_4 a1_0 a1_1 l1_2 l1_3 l1_4 l1_5 l1_6 a1_7 a1_8 l1_9 a1_10 l1_11 l1_12 a1_13 a1_14 a1_15 a1_16 a1_17 a1_18 a1_19 l1_20 l1_21 l1_22 l1_23 l1_24 a1_25 l1_26 l1_27 l1_28 a1_29 = some r) ∧ Aside0 (kq ≤ k3) ∧ Aside0 (w'.heap[gb202]? = some (.cells #[.string a1_0, .bool a1_1, (.slice A1_2 l1_2.length c1_2), (.slice A1_3 l1_3.length c1_3), (.slice A1_4 l1_4.length c1_4), (.slice A1_5 l1_5.length c1_5), (.slice A1_6 l1_6.length c1_6), .int .i64 a1_7, .int .i64 a1_8, (.slice A1_9 l1_9.length c1_9), .int .i64 a1_10, (.slice A1_11 l1_11.length c1_11), (.slice A1_12 l1_12.length c1_12), .bool a1_13, .string a1_14, .int .i64 a1_15, .string a1_16, .bool a1_17, .int .i64 a1_18, .int .i64 a1_19, (.slice A1_20 l1_20.length c1_20), (.slice A1_21 l1_21.length c1_21), (.slice A1_22 l1_22.length c1_22), (.slice A1_23 l1_23.length c1_23), (.slice A1_24 l1_24.length c1_24), .bool a1_25, (.slice A1_26 l1_26.length c1_26), (.slice A1_27 l1_27.length c1_27), (.slice A1_28 l1_28.length c1_28), .string a1_29] 60 (0, 0))) ∧ Aside0 (Below w.heap.size w w'))
          case atStart => exact ⟨(0), tV1, H', ⟨Nat.le_refl _⟩, ⟨tK BK202⟩, ⟨tB HB⟩⟩
          case round =>
           clear H'; (try clear c21); (try clear c21b0); (try clear hcz50_2); (try clear hcz50_27); (try clear hcz50_28); (try clear hcz50_3); (try clear hcz50_4); (try clear hcz50_5); (try clear hfz50_2); (try clear hfz50_27); (try clear hfz50_28); (try clear hfz50_3); (try clear hfz50_4); (try clear hfz50_5)
           obtain ⟨x9_4, rfl, HA, HK4, BK202, HB⟩ := hrel
           cases gk with
           | zero => exact absurd HA.out (by simp [pentaglotlaw33_few.l3])
           | succ k4 =>
            have H := HA.out
            clear HA
            simp only [pentaglotlaw33_few.l3] at H
            by_cases c51 : x9_4 < (l1_27.length : Int)
            ·
             rw [if_pos c51] at H
             have c51b0 : decide (x9_4 < (l1_27.length : Int)) = true := decide_eq_true c51
             clear c51
             have H' := Aside0.mk H
             clear H; have hcz52_2 := cel2 BK202 2 rfl; have hcz52_3 := cel2 BK202 3 rfl; have hcz52_4 := cel2 BK202 4 rfl; have hcz52_5 := cel2 BK202 5 rfl; have hcz52_27 := cel2 BK202 27 rfl; have hcz52_28 := cel2 BK202 28 rfl; have hfz52_2 := blk_frozen BK202.out 2; have hfz52_3 := blk_frozen BK202.out 3; have hfz52_4 := blk_frozen BK202.out 4; have hfz52_5 := blk_frozen BK202.out 5; have hfz52_27 := blk_frozen BK202.out 27; have hfz52_28 := blk_frozen BK202.out 28
             go_wp2
             go_loopg [10, 11] k4 (fun kq v10 v11 w' => ∃ (x10_5 : Int) (x11_5 : Int), v10 = .int .i64 x10_5 ∧ v11 = .int .i64 x11_5 ∧ Aside0 (pentaglotlaw33_few.l4 kq x9_4 x10_5 x11_5 a1_0 a1_1 l1_2 l1_3 l1_4 l1_5 l1_6 a1_7 a1_8 l1_9 a1_10 l1_11 l1_12 a1_13 a1_14 a1_15 a1_16 a1_17 a1_18 a1_19 l1_20 l1_21 l1_22 l1_23 l1_24 a1_25 l1_26 l1_27 l1_28 a1_29 = some r) ∧ Aside0 (kq ≤ k4) ∧ Aside0 (w'.heap[gb202]? = some (.cells #[.string a1_0, .bool a1_1, (.slice A1_2 l1_2.length c1_2), (.slice A1_3 l1_3.length c1_3), (.slice A1_4 l1_4.length c1_4), (.slice A1_5 l1_5.length c1_5), (.slice A1_6 l1_6.length c1_6), .int .i64 a1_7, .int .i64 a1_8, (.slice A1_9 l1_9.length c1_9), .int .i64 a1_10, (.slice A1_11 l1_11.length c1_11), (.slice A1_12 l1_12.length c1_12), .bool a1_13, .string a1_14, .int .i64 a1_15, .string a1_16, .bool a1_17, .int .i64 a1_18, .int .i64 a1_19, (.slice A1_20 l1_20.length c1_20), (.slice A1_21 l1_21.length c1_21), (.slice A1_22 l1_22.length c1_22), (.slice A1_23 l1_23.length c1_23), (.slice A1_24 l1_24.length c1_24), .bool a1_25, (.slice A1_26 l1_26.length c1_26), (.slice A1_27 l1_27.length c1_27), (.slice A1_28 l1_28.length c1_28), .string a1_29] 60 (0, 0))) ∧ Aside0 (Below w.heap.size w w'))
             case atStart => exact ⟨(1), (0), tV1, tV1, H', ⟨Nat.le_refl _⟩, ⟨tK BK202⟩, ⟨tB HB⟩⟩
             case round =>
              clear H'; (try clear c51); (try clear c51b0); (try clear hcz50_2); (try clear hcz50_27); (try clear hcz50_28); (try clear hcz50_3); (try clear hcz50_4); (try clear hcz50_5); (try clear hcz52_2); (try clear hcz52_27); (try clear hcz52_28); (try clear hcz52_3); (try clear hcz52_4); (try clear hcz52_5); (try clear hfz50_2); (try clear hfz50_27); (try clear hfz50_28); (try clear hfz50_3); (try clear hfz50_4); (try clear hfz50_5); (try clear hfz52_2); (try clear hfz52_27); (try clear hfz52_28); (try clear hfz52_3); (try clear hfz52_4); (try clear hfz52_5)
              obtain ⟨x10_5, x11_5, rfl, rfl, HA, HK5, BK202, HB⟩ := hrel
              cases gk with
              | zero => exact absurd HA.out (by simp [pentaglotlaw33_few.l4])
              | succ k5 =>
               have H := HA.out
               clear HA
               simp only [pentaglotlaw33_few.l4] at H
               by_cases c53 : 0 ≤ x9_4
               ·
                rw [if_pos c53] at H
                have c53b0 : decide (0 ≤ x9_4) = true := decide_eq_true c53
                clear c53
                by_cases c54 : x9_4 < (l1_27.length : Int)
                ·
                 rw [if_pos c54] at H
                 have c54b0 : decide (x9_4 < (l1_27.length : Int)) = true := decide_eq_true c54
                 clear c54
                 by_cases c55 : x11_5 < (((rd_T68 l1_27 x9_4).f1).length : Int)
                 ·
                  rw [if_pos c55] at H
                  have c55b0 : decide (x11_5 < (((rd_T68 l1_27 x9_4).f1).length : Int)) = true := decide_eq_true c55
                  clear c55
                  by_cases c56 : x11_5 < 5
                  ·
                   rw [if_pos c56] at H
                   have c56b0 : decide (x11_5 < 5) = true := decide_eq_true c56
                   clear c56
                   by_cases c57 : 0 ≤ x11_5
                   ·
                    rw [if_pos c57] at H
                    have c57b0 : decide (0 ≤ x11_5) = true := decide_eq_true c57
                    clear c57
                    obtain ⟨ji58, hji58⟩ : ∃ j_ : Int, (mn (((rd_T90 ((rd_T68 l1_27 x9_4).f1) x11_5).f1).length : Int) 100) = j_ := ⟨_, rfl⟩
                    replace H : (pentaglotlaw33_few.l4 k5 x9_4 (wrap64 (x10_5 * (ji58))) (wrap64 (x11_5 + 1)) a1_0 a1_1 l1_2 l1_3 l1_4 l1_5 l1_6 a1_7 a1_8 l1_9 a1_10 l1_11 l1_12 a1_13 a1_14 a1_15 a1_16 a1_17 a1_18 a1_19 l1_20 l1_21 l1_22 l1_23 l1_24 a1_25 l1_26 l1_27 l1_28 a1_29) = some r := by first | (rw [hji58] at H; exact H) | (simp only [hji58] at H ⊢; exact H)
                    have hji58_ : (if 100 < (((rd_T90 ((rd_T68 l1_27 x9_4).f1) x11_5).f1).length : Int) then 100 else (((rd_T90 ((rd_T68 l1_27 x9_4).f1) x11_5).f1).length : Int)) = ji58 := hji58
                    have H' := Aside0.mk H
                    clear H; have hcz59_2 := cel2 BK202 2 rfl; have hcz59_3 := cel2 BK202 3 rfl; have hcz59_4 := cel2 BK202 4 rfl; have hcz59_5 := cel2 BK202 5 rfl; have hcz59_27 := cel2 BK202 27 rfl; have hcz59_28 := cel2 BK202 28 rfl; have hfz59_2 := blk_frozen BK202.out 2; have hfz59_3 := blk_frozen BK202.out 3; have hfz59_4 := blk_frozen BK202.out 4; have hfz59_5 := blk_frozen BK202.out 5; have hfz59_27 := blk_frozen BK202.out 27; have hfz59_28 := blk_frozen BK202.out 28
                    have p208 : 0 ≤ (x9_4 : Int) := oD
                    have q208 : x9_4 < (l1_27.length : Int) := oD
                    obtain ⟨ad208, A208_1, c208_1, A208_2, c208_2, e208, hx208_0, hx208_1, hx208_2, hl208_1, hi208_1, hl208_2, hi208_2⟩ := at_T68 HR1_27.out x9_4 p208 q208
                    cases e208
                    replace hx208_0 := celB HB hx208_0
                    replace hx208_1 := celB HB hx208_1
                    replace hx208_2 := celB HB hx208_2
                    have HR208_1 := Aside0.mk hi208_1
                    have HC208_1 := Aside0.mk hl208_1
                    clear hi208_1 hl208_1
                    have HR208_2 := Aside0.mk hi208_2
                    have HC208_2 := Aside0.mk hl208_2
                    clear hi208_2 hl208_2
                    replace p208 := eq_true p208
                    replace q208 := eq_true q208
                    have p209 : 0 ≤ (x9_4 : Int) := oD
                    have q209 : x9_4 < (l1_27.length : Int) := oD
                    obtain ⟨ad209, A209_1, c209_1, A209_2, c209_2, e209, hx209_0, hx209_1, hx209_2, hl209_1, hi209_1, hl209_2, hi209_2⟩ := at_T68 HR1_27.out x9_4 p209 q209
                    obtain rfl : ad208 = ad209 := (by injection e209)
                    replace hx209_0 := celB HB hx209_0
                    replace hx209_1 := celB HB hx209_1
                    replace hx209_2 := celB HB hx209_2
                    have HR209_1 := Aside0.mk hi209_1
                    have HC209_1 := Aside0.mk hl209_1
                    clear hi209_1 hl209_1
                    have HR209_2 := Aside0.mk hi209_2
                    have HC209_2 := Aside0.mk hl209_2
                    clear hi209_2 hl209_2
                    replace p209 := eq_true p209
                    replace q209 := eq_true q209
                    have ea_ := Option.some.inj (hx208_1.symm.trans hx209_1)
                    injection ea_ with ea_ en_ ec_
                    subst ea_
                    subst ec_
                    clear en_
                    have ea_ := Option.some.inj (hx208_2.symm.trans hx209_2)
                    injection ea_ with ea_ en_ ec_
                    subst ea_
                    subst ec_
                    clear en_
                    have p210 : 0 ≤ (x11_5 : Int) := oD
                    have q210 : x11_5 < (((rd_T68 l1_27 x9_4).f1).length : Int) := oD
                    obtain ⟨ad210, A210_1, c210_1, e210, hx210_0, hx210_1, hl210_1, hi210_1⟩ := at_T90 HR209_1.out x11_5 p210 q210
                    cases e210
                    replace hx210_0 := celB HB hx210_0
                    replace hx210_1 := celB HB hx210_1
                    have HR210_1 := Aside0.mk hi210_1
                    have HC210_1 := Aside0.mk hl210_1
                    clear hi210_1 hl210_1
                    replace p210 := eq_true p210
                    replace q210 := eq_true q210
                    go_wp2
                    go_roundg k5
                    case measure => have := HJ2.out; have := HK2.out; have := HK3.out; have := HK4.out; have := HK5.out; omega
                    case rel => exact ⟨(wrap64 (x10_5 * (ji58))), (wrap64 (x11_5 + 1)), (by first | rfl | (simp; done) | (simp only [← hji58] <;> (first | rfl | simp)) | (simp [*]; done)), tV1, H', ⟨by have := HJ2.out; have := HK2.out; have := HK3.out; have := HK4.out; have := HK5.out; omega⟩, ⟨tK BK202⟩, ⟨tB HB⟩⟩
                   ·
                    rw [if_neg c57] at H
                    exact absurd H (by simp)
                  ·
                   rw [if_neg c56] at H
                   have c56b0 : decide (x11_5 < 5) = false := decide_eq_false c56
                   clear c56
                   by_cases c60 : x10_5 > 100
                   ·
                    rw [if_pos c60] at H
                    have c60b0 : decide (100 < x10_5) = true := decide_eq_true c60
                    clear c60
                    obtain rfl := Option.some.inj H
                    have hcz61_2 := cel2 BK202 2 rfl; have hcz61_3 := cel2 BK202 3 rfl; have hcz61_4 := cel2 BK202 4 rfl; have hcz61_5 := cel2 BK202 5 rfl; have hcz61_27 := cel2 BK202 27 rfl; have hcz61_28 := cel2 BK202 28 rfl; have hfz61_2 := blk_frozen BK202.out 2; have hfz61_3 := blk_frozen BK202.out 3; have hfz61_4 := blk_frozen BK202.out 4; have hfz61_5 := blk_frozen BK202.out 5; have hfz61_27 := blk_frozen BK202.out 27; have hfz61_28 := blk_frozen BK202.out 28
                    have p208 : 0 ≤ (x9_4 : Int) := oD
                    have q208 : x9_4 < (l1_27.length : Int) := oD
                    obtain ⟨ad208, A208_1, c208_1, A208_2, c208_2, e208, hx208_0, hx208_1, hx208_2, hl208_1, hi208_1, hl208_2, hi208_2⟩ := at_T68 HR1_27.out x9_4 p208 q208
                    cases e208
                    replace hx208_0 := celB HB hx208_0
                    replace hx208_1 := celB HB hx208_1
                    replace hx208_2 := celB HB hx208_2
                    have HR208_1 := Aside0.mk hi208_1
                    have HC208_1 := Aside0.mk hl208_1
                    clear hi208_1 hl208_1
                    have HR208_2 := Aside0.mk hi208_2
                    have HC208_2 := Aside0.mk hl208_2
                    clear hi208_2 hl208_2
                    replace p208 := eq_true p208
                    replace q208 := eq_true q208
                    go_wp2
                    go_ret
                    exact ⟨tE, by repeat (first | (with_reducible first | exact HB.out | apply below_alloc | apply pw_below_drewN | apply below_drew1 | refine below_set ?_ GE202.out) | exact HB.out)⟩
                   ·
                    rw [if_neg c60] at H
                    have c60b0 : decide (100 < x10_5) = false := decide_eq_false c60
                    clear c60
                    by_cases c62 : (((rd_T68 l1_27 x9_4).f2).length : Int) > 20
                    ·
                     rw [if_pos c62] at H
                     have c62b0 : decide (20 < (((rd_T68 l1_27 x9_4).f2).length : Int)) = true := decide_eq_true c62
                     have c62b1 : decide (20 < ((rd_T68 l1_27 x9_4).f2).length) = true := decide_eq_true (by omega)
                     clear c62
                     obtain rfl := Option.some.inj H
                     have hcz63_2 := cel2 BK202 2 rfl; have hcz63_3 := cel2 BK202 3 rfl; have hcz63_4 := cel2 BK202 4 rfl; have hcz63_5 := cel2 BK202 5 rfl; have hcz63_27 := cel2 BK202 27 rfl; have hcz63_28 := cel2 BK202 28 rfl; have hfz63_2 := blk_frozen BK202.out 2; have hfz63_3 := blk_frozen BK202.out 3; have hfz63_4 := blk_frozen BK202.out 4; have hfz63_5 := blk_frozen BK202.out 5; have hfz63_27 := blk_frozen BK202.out 27; have hfz63_28 := blk_frozen BK202.out 28
                     have p208 : 0 ≤ (x9_4 : Int) := oD
                     have q208 : x9_4 < (l1_27.length : Int) := oD
                     obtain ⟨ad208, A208_1, c208_1, A208_2, c208_2, e208, hx208_0, hx208_1, hx208_2, hl208_1, hi208_1, hl208_2, hi208_2⟩ := at_T68 HR1_27.out x9_4 p208 q208
                     cases e208
                     replace hx208_0 := celB HB hx208_0
                     replace hx208_1 := celB HB hx208_1
                     replace hx208_2 := celB HB hx208_2
                     have HR208_1 := Aside0.mk hi208_1
                     have HC208_1 := Aside0.mk hl208_1
                     clear hi208_1 hl208_1
                     have HR208_2 := Aside0.mk hi208_2
                     have HC208_2 := Aside0.mk hl208_2
                     clear hi208_2 hl208_2
                     replace p208 := eq_true p208
                     replace q208 := eq_true q208
                     have p211 : 0 ≤ (x9_4 : Int) := oD
                     have q211 : x9_4 < (l1_27.length : Int) := oD
                     obtain ⟨ad211, A211_1, c211_1, A211_2, c211_2, e211, hx211_0, hx211_1, hx211_2, hl211_1, hi211_1, hl211_2, hi211_2⟩ := at_T68 HR1_27.out x9_4 p211 q211
                     obtain rfl : ad208 = ad211 := (by injection e211)
                     replace hx211_0 := celB HB hx211_0
                     replace hx211_1 := celB HB hx211_1
                     replace hx211_2 := celB HB hx211_2
                     have HR211_1 := Aside0.mk hi211_1
                     have HC211_1 := Aside0.mk hl211_1
                     clear hi211_1 hl211_1
                     have HR211_2 := Aside0.mk hi211_2
                     have HC211_2 := Aside0.mk hl211_2
                     clear hi211_2 hl211_2
                     replace p211 := eq_true p211
                     replace q211 := eq_true q211
                     have ea_ := Option.some.inj (hx208_1.symm.trans hx211_1)
                     injection ea_ with ea_ en_ ec_
                     subst ea_
                     subst ec_
                     clear en_
                     have ea_ := Option.some.inj (hx208_2.symm.trans hx211_2)
                     injection ea_ with ea_ en_ ec_
                     subst ea_
                     subst ec_
                     clear en_
                     go_wp2
                     go_ret
                     exact ⟨tE, by repeat (first | (with_reducible first | exact HB.out | apply below_alloc | apply pw_below_drewN | apply below_drew1 | refine below_set ?_ GE202.out) | exact HB.out)⟩
                    ·
                     rw [if_neg c62] at H
                     have c62b0 : decide (20 < (((rd_T68 l1_27 x9_4).f2).length : Int)) = false := decide_eq_false c62
                     have c62b1 : decide (20 < ((rd_T68 l1_27 x9_4).f2).length) = false := decide_eq_false (by omega)
                     clear c62
                     by_cases c64 : (((rd_T68 l1_27 x9_4).f1).length : Int) > 5
                     ·
                      rw [if_pos c64] at H
                      have c64b0 : decide (5 < (((rd_T68 l1_27 x9_4).f1).length : Int)) = true := decide_eq_true c64
                      have c64b1 : decide (5 < ((rd_T68 l1_27 x9_4).f1).length) = true := decide_eq_true (by omega)
                      clear c64
                      obtain rfl := Option.some.inj H
                      have hcz65_2 := cel2 BK202 2 rfl; have hcz65_3 := cel2 BK202 3 rfl; have hcz65_4 := cel2 BK202 4 rfl; have hcz65_5 := cel2 BK202 5 rfl; have hcz65_27 := cel2 BK202 27 rfl; have hcz65_28 := cel2 BK202 28 rfl; have hfz65_2 := blk_frozen BK202.out 2; have hfz65_3 := blk_frozen BK202.out 3; have hfz65_4 := blk_frozen BK202.out 4; have hfz65_5 := blk_frozen BK202.out 5; have hfz65_27 := blk_frozen BK202.out 27; have hfz65_28 := blk_frozen BK202.out 28
                      have p208 : 0 ≤ (x9_4 : Int) := oD
                      have q208 : x9_4 < (l1_27.length : Int) := oD
                      obtain ⟨ad208, A208_1, c208_1, A208_2, c208_2, e208, hx208_0, hx208_1, hx208_2, hl208_1, hi208_1, hl208_2, hi208_2⟩ := at_T68 HR1_27.out x9_4 p208 q208
                      cases e208
                      replace hx208_0 := celB HB hx208_0
                      replace hx208_1 := celB HB hx208_1
                      replace hx208_2 := celB HB hx208_2
                      have HR208_1 := Aside0.mk hi208_1
                      have HC208_1 := Aside0.mk hl208_1
                      clear hi208_1 hl208_1
                      have HR208_2 := Aside0.mk hi208_2
                      have HC208_2 := Aside0.mk hl208_2
                      clear hi208_2 hl208_2
                      replace p208 := eq_true p208
                      replace q208 := eq_true q208
                      have p211 : 0 ≤ (x9_4 : Int) := oD
                      have q211 : x9_4 < (l1_27.length : Int) := oD
                      obtain ⟨ad211, A211_1, c211_1, A211_2, c211_2, e211, hx211_0, hx211_1, hx211_2, hl211_1, hi211_1, hl211_2, hi211_2⟩ := at_T68 HR1_27.out x9_4 p211 q211
                      obtain rfl : ad208 = ad211 := (by injection e211)
                      replace hx211_0 := celB HB hx211_0
                      replace hx211_1 := celB HB hx211_1
                      replace hx211_2 := celB HB hx211_2
                      have HR211_1 := Aside0.mk hi211_1
                      have HC211_1 := Aside0.mk hl211_1
                      clear hi211_1 hl211_1
                      have HR211_2 := Aside0.mk hi211_2
                      have HC211_2 := Aside0.mk hl211_2
                      clear hi211_2 hl211_2
                      replace p211 := eq_true p211
                      replace q211 := eq_true q211
                      have ea_ := Option.some.inj (hx208_1.symm.trans hx211_1)
                      injection ea_ with ea_ en_ ec_
                      subst ea_
                      subst ec_
                      clear en_
                      have ea_ := Option.some.inj (hx208_2.symm.trans hx211_2)
                      injection ea_ with ea_ en_ ec_
                      subst ea_
                      subst ec_
                      clear en_
                      have p212 : 0 ≤ (x9_4 : Int) := oD
                      have q212 : x9_4 < (l1_27.length : Int) := oD
                      obtain ⟨ad212, A212_1, c212_1, A212_2, c212_2, e212, hx212_0, hx212_1, hx212_2, hl212_1, hi212_1, hl212_2, hi212_2⟩ := at_T68 HR1_27.out x9_4 p212 q212
                      obtain rfl : ad208 = ad212 := (by injection e212)
                      replace hx212_0 := celB HB hx212_0
                      replace hx212_1 := celB HB hx212_1
                      replace hx212_2 := celB HB hx212_2
                      have HR212_1 := Aside0.mk hi212_1
                      have HC212_1 := Aside0.mk hl212_1
                      clear hi212_1 hl212_1
                      have HR212_2 := Aside0.mk hi212_2
                      have HC212_2 := Aside0.mk hl212_2
                      clear hi212_2 hl212_2
                      replace p212 := eq_true p212
                      replace q212 := eq_true q212
                      have ea_ := Option.some.inj (hx208_1.symm.trans hx212_1)
                      injection ea_ with ea_ en_ ec_
                      subst ea_
                      subst ec_
                      clear en_
                      have ea_ := Option.some.inj (hx208_2.symm.trans hx212_2)
                      injection ea_ with ea_ en_ ec_
                      subst ea_
                      subst ec_
                      clear en_
                      go_wp2
                      go_ret
                      exact ⟨tE, by repeat (first | (with_reducible first | exact HB.out | apply below_alloc | apply pw_below_drewN | apply below_drew1 | refine below_set ?_ GE202.out) | exact HB.out)⟩
                     ·
                      rw [if_neg c64] at H
                      have c64b0 : decide (5 < (((rd_T68 l1_27 x9_4).f1).length : Int)) = false := decide_eq_false c64
                      have c64b1 : decide (5 < ((rd_T68 l1_27 x9_4).f1).length) = false := decide_eq_false (by omega)
                      clear c64
                      have H' := Aside0.mk H
                      clear H; have hcz66_2 := cel2 BK202 2 rfl; have hcz66_3 := cel2 BK202 3 rfl; have hcz66_4 := cel2 BK202 4 rfl; have hcz66_5 := cel2 BK202 5 rfl; have hcz66_27 := cel2 BK202 27 rfl; have hcz66_28 := cel2 BK202 28 rfl; have hfz66_2 := blk_frozen BK202.out 2; have hfz66_3 := blk_frozen BK202.out 3; have hfz66_4 := blk_frozen BK202.out 4; have hfz66_5 := blk_frozen BK202.out 5; have hfz66_27 := blk_frozen BK202.out 27; have hfz66_28 := blk_frozen BK202.out 28
                      have p208 : 0 ≤ (x9_4 : Int) := oD
                      have q208 : x9_4 < (l1_27.length : Int) := oD
                      obtain ⟨ad208, A208_1, c208_1, A208_2, c208_2, e208, hx208_0, hx208_1, hx208_2, hl208_1, hi208_1, hl208_2, hi208_2⟩ := at_T68 HR1_27.out x9_4 p208 q208
                      cases e208
                      replace hx208_0 := celB HB hx208_0
                      replace hx208_1 := celB HB hx208_1
                      replace hx208_2 := celB HB hx208_2
                      have HR208_1 := Aside0.mk hi208_1
                      have HC208_1 := Aside0.mk hl208_1
                      clear hi208_1 hl208_1
                      have HR208_2 := Aside0.mk hi208_2
                      have HC208_2 := Aside0.mk hl208_2
                      clear hi208_2 hl208_2
                      replace p208 := eq_true p208
                      replace q208 := eq_true q208
                      have p211 : 0 ≤ (x9_4 : Int) := oD
                      have q211 : x9_4 < (l1_27.length : Int) := oD
                      obtain ⟨ad211, A211_1, c211_1, A211_2, c211_2, e211, hx211_0, hx211_1, hx211_2, hl211_1, hi211_1, hl211_2, hi211_2⟩ := at_T68 HR1_27.out x9_4 p211 q211
                      obtain rfl : ad208 = ad211 := (by injection e211)
                      replace hx211_0 := celB HB hx211_0
                      replace hx211_1 := celB HB hx211_1
                      replace hx211_2 := celB HB hx211_2
                      have HR211_1 := Aside0.mk hi211_1
                      have HC211_1 := Aside0.mk hl211_1
                      clear hi211_1 hl211_1
                      have HR211_2 := Aside0.mk hi211_2
                      have HC211_2 := Aside0.mk hl211_2
                      clear hi211_2 hl211_2
                      replace p211 := eq_true p211
                      replace q211 := eq_true q211
                      have ea_ := Option.some.inj (hx208_1.symm.trans hx211_1)
                      injection ea_ with ea_ en_ ec_
                      subst ea_
                      subst ec_
                      clear en_
                      have ea_ := Option.some.inj (hx208_2.symm.trans hx211_2)
                      injection ea_ with ea_ en_ ec_
                      subst ea_
                      subst ec_
                      clear en_
                      have p212 : 0 ≤ (x9_4 : Int) := oD
                      have q212 : x9_4 < (l1_27.length : Int) := oD
                      obtain ⟨ad212, A212_1, c212_1, A212_2, c212_2, e212, hx212_0, hx212_1, hx212_2, hl212_1, hi212_1, hl212_2, hi212_2⟩ := at_T68 HR1_27.out x9_4 p212 q212
                      obtain rfl : ad208 = ad212 := (by injection e212)
                      replace hx212_0 := celB HB hx212_0
                      replace hx212_1 := celB HB hx212_1
                      replace hx212_2 := celB HB hx212_2
                      have HR212_1 := Aside0.mk hi212_1
                      have HC212_1 := Aside0.mk hl212_1
                      clear hi212_1 hl212_1
                      have HR212_2 := Aside0.mk hi212_2
                      have HC212_2 := Aside0.mk hl212_2
                      clear hi212_2 hl212_2
                      replace p212 := eq_true p212
                      replace q212 := eq_true q212
                      have ea_ := Option.some.inj (hx208_1.symm.trans hx212_1)
                      injection ea_ with ea_ en_ ec_
                      subst ea_
                      subst ec_
                      clear en_
                      have ea_ := Option.some.inj (hx208_2.symm.trans hx212_2)
                      injection ea_ with ea_ en_ ec_
                      subst ea_
                      subst ec_
                      clear en_
                      go_wp2
                      go_roundg k5
                      case measure => have := HJ2.out; have := HK2.out; have := HK3.out; have := HK4.out; have := HK5.out; omega
                      case rel => exact ⟨(wrap64 (x9_4 + 1)), tV1, H', ⟨by have := HJ2.out; have := HK2.out; have := HK3.out; have := HK4.out; have := HK5.out; omega⟩, ⟨tK BK202⟩, ⟨tB HB⟩⟩
                 ·
                  rw [if_neg c55] at H
                  have c55b0 : decide (x11_5 < (((rd_T68 l1_27 x9_4).f1).length : Int)) = false := decide_eq_false c55
                  clear c55
                  by_cases c67 : x10_5 > 100
                  ·
                   rw [if_pos c67] at H
                   have c67b0 : decide (100 < x10_5) = true := decide_eq_true c67
                   clear c67
                   obtain rfl := Option.some.inj H
                   have hcz68_2 := cel2 BK202 2 rfl; have hcz68_3 := cel2 BK202 3 rfl; have hcz68_4 := cel2 BK202 4 rfl; have hcz68_5 := cel2 BK202 5 rfl; have hcz68_27 := cel2 BK202 27 rfl; have hcz68_28 := cel2 BK202 28 rfl; have hfz68_2 := blk_frozen BK202.out 2; have hfz68_3 := blk_frozen BK202.out 3; have hfz68_4 := blk_frozen BK202.out 4; have hfz68_5 := blk_frozen BK202.out 5; have hfz68_27 := blk_frozen BK202.out 27; have hfz68_28 := blk_frozen BK202.out 28
                   have p208 : 0 ≤ (x9_4 : Int) := oD
                   have q208 : x9_4 < (l1_27.length : Int) := oD
                   obtain ⟨ad208, A208_1, c208_1, A208_2, c208_2, e208, hx208_0, hx208_1, hx208_2, hl208_1, hi208_1, hl208_2, hi208_2⟩ := at_T68 HR1_27.out x9_4 p208 q208
                   cases e208
                   replace hx208_0 := celB HB hx208_0
                   replace hx208_1 := celB HB hx208_1
                   replace hx208_2 := celB HB hx208_2
                   have HR208_1 := Aside0.mk hi208_1
                   have HC208_1 := Aside0.mk hl208_1
                   clear hi208_1 hl208_1
                   have HR208_2 := Aside0.mk hi208_2
                   have HC208_2 := Aside0.mk hl208_2
                   clear hi208_2 hl208_2
                   replace p208 := eq_true p208
                   replace q208 := eq_true q208
                   go_wp2
                   go_ret
                   exact ⟨tE, by repeat (first | (with_reducible first | exact HB.out | apply below_alloc | apply pw_below_drewN | apply below_drew1 | refine below_set ?_ GE202.out) | exact HB.out)⟩
                  ·
                   rw [if_neg c67] at H
                   have c67b0 : decide (100 < x10_5) = false := decide_eq_false c67
                   clear c67
                   by_cases c69 : (((rd_T68 l1_27 x9_4).f2).length : Int) > 20
                   ·
                    rw [if_pos c69] at H
                    have c69b0 : decide (20 < (((rd_T68 l1_27 x9_4).f2).length : Int)) = true := decide_eq_true c69
                    have c69b1 : decide (20 < ((rd_T68 l1_27 x9_4).f2).length) = true := decide_eq_true (by omega)
                    clear c69
                    obtain rfl := Option.some.inj H
                    have hcz70_2 := cel2 BK202 2 rfl; have hcz70_3 := cel2 BK202 3 rfl; have hcz70_4 := cel2 BK202 4 rfl; have hcz70_5 := cel2 BK202 5 rfl; have hcz70_27 := cel2 BK202 27 rfl; have hcz70_28 := cel2 BK202 28 rfl; have hfz70_2 := blk_frozen BK202.out 2; have hfz70_3 := blk_frozen BK202.out 3; have hfz70_4 := blk_frozen BK202.out 4; have hfz70_5 := blk_frozen BK202.out 5; have hfz70_27 := blk_frozen BK202.out 27; have hfz70_28 := blk_frozen BK202.out 28
                    have p208 : 0 ≤ (x9_4 : Int) := oD
                    have q208 : x9_4 < (l1_27.length : Int) := oD
                    obtain ⟨ad208, A208_1, c208_1, A208_2, c208_2, e208, hx208_0, hx208_1, hx208_2, hl208_1, hi208_1, hl208_2, hi208_2⟩ := at_T68 HR1_27.out x9_4 p208 q208
                    cases e208
                    replace hx208_0 := celB HB hx208_0
                    replace hx208_1 := celB HB hx208_1
                    replace hx208_2 := celB HB hx208_2
                    have HR208_1 := Aside0.mk hi208_1
                    have HC208_1 := Aside0.mk hl208_1
                    clear hi208_1 hl208_1
                    have HR208_2 := Aside0.mk hi208_2
                    have HC208_2 := Aside0.mk hl208_2
                    clear hi208_2 hl208_2
                    replace p208 := eq_true p208
                    replace q208 := eq_true q208
                    have p213 : 0 ≤ (x9_4 : Int) := oD
                    have q213 : x9_4 < (l1_27.length : Int) := oD
                    obtain ⟨ad213, A213_1, c213_1, A213_2, c213_2, e213, hx213_0, hx213_1, hx213_2, hl213_1, hi213_1, hl213_2, hi213_2⟩ := at_T68 HR1_27.out x9_4 p213 q213
                    obtain rfl : ad208 = ad213 := (by injection e213)
                    replace hx213_0 := celB HB hx213_0
                    replace hx213_1 := celB HB hx213_1
                    replace hx213_2 := celB HB hx213_2
                    have HR213_1 := Aside0.mk hi213_1
                    have HC213_1 := Aside0.mk hl213_1
                    clear hi213_1 hl213_1
                    have HR213_2 := Aside0.mk hi213_2
                    have HC213_2 := Aside0.mk hl213_2
                    clear hi213_2 hl213_2
                    replace p213 := eq_true p213
                    replace q213 := eq_true q213
                    have ea_ := Option.some.inj (hx208_1.symm.trans hx213_1)
                    injection ea_ with ea_ en_ ec_
                    subst ea_
                    subst ec_
                    clear en_
                    have ea_ := Option.some.inj (hx208_2.symm.trans hx213_2)
                    injection ea_ with ea_ en_ ec_
                    subst ea_
                    subst ec_
                    clear en_
                    go_wp2
                    go_ret
                    exact ⟨tE, by repeat (first | (with_reducible first | exact HB.out | apply below_alloc | apply pw_below_drewN | apply below_drew1 | refine below_set ?_ GE202.out) | exact HB.out)⟩
                   ·
                    rw [if_neg c69] at H
                    have c69b0 : decide (20 < (((rd_T68 l1_27 x9_4).f2).length : Int)) = false := decide_eq_false c69
                    have c69b1 : decide (20 < ((rd_T68 l1_27 x9_4).f2).length) = false := decide_eq_false (by omega)
                    clear c69
                    by_cases c71 : (((rd_T68 l1_27 x9_4).f1).length : Int) > 5
                    ·
                     rw [if_pos c71] at H
                     have c71b0 : decide (5 < (((rd_T68 l1_27 x9_4).f1).length : Int)) = true := decide_eq_true c71
                     have c71b1 : decide (5 < ((rd_T68 l1_27 x9_4).f1).length) = true := decide_eq_true (by omega)
                     clear c71
                     obtain rfl := Option.some.inj H
                     have hcz72_2 := cel2 BK202 2 rfl; have hcz72_3 := cel2 BK202 3 rfl; have hcz72_4 := cel2 BK202 4 rfl; have hcz72_5 := cel2 BK202 5 rfl; have hcz72_27 := cel2 BK202 27 rfl; have hcz72_28 := cel2 BK202 28 rfl; have hfz72_2 := blk_frozen BK202.out 2; have hfz72_3 := blk_frozen BK202.out 3; have hfz72_4 := blk_frozen BK202.out 4; have hfz72_5 := blk_frozen BK202.out 5; have hfz72_27 := blk_frozen BK202.out 27; have hfz72_28 := blk_frozen BK202.out 28
                     have p208 : 0 ≤ (x9_4 : Int) := oD
                     have q208 : x9_4 < (l1_27.length : Int) := oD
                     obtain ⟨ad208, A208_1, c208_1, A208_2, c208_2, e208, hx208_0, hx208_1, hx208_2, hl208_1, hi208_1, hl208_2, hi208_2⟩ := at_T68 HR1_27.out x9_4 p208 q208
                     cases e208
                     replace hx208_0 := celB HB hx208_0
                     replace hx208_1 := celB HB hx208_1
                     replace hx208_2 := celB HB hx208_2
                     have HR208_1 := Aside0.mk hi208_1
                     have HC208_1 := Aside0.mk hl208_1
                     clear hi208_1 hl208_1
                     have HR208_2 := Aside0.mk hi208_2
                     have HC208_2 := Aside0.mk hl208_2
                     clear hi208_2 hl208_2
                     replace p208 := eq_true p208
                     replace q208 := eq_true q208
                     have p213 : 0 ≤ (x9_4 : Int) := oD
                     have q213 : x9_4 < (l1_27.length : Int) := oD
                     obtain ⟨ad213, A213_1, c213_1, A213_2, c213_2, e213, hx213_0, hx213_1, hx213_2, hl213_1, hi213_1, hl213_2, hi213_2⟩ := at_T68 HR1_27.out x9_4 p213 q213
                     obtain rfl : ad208 = ad213 := (by injection e213)
                     replace hx213_0 := celB HB hx213_0
                     replace hx213_1 := celB HB hx213_1
                     replace hx213_2 := celB HB hx213_2
                     have HR213_1 := Aside0.mk hi213_1
                     have HC213_1 := Aside0.mk hl213_1
                     clear hi213_1 hl213_1
                     have HR213_2 := Aside0.mk hi213_2
                     have HC213_2 := Aside0.mk hl213_2
                     clear hi213_2 hl213_2
                     replace p213 := eq_true p213
                     replace q213 := eq_true q213
                     have ea_ := Option.some.inj (hx208_1.symm.trans hx213_1)
                     injection ea_ with ea_ en_ ec_
                     subst ea_
                     subst ec_
                     clear en_
                     have ea_ := Option.some.inj (hx208_2.symm.trans hx213_2)
                     injection ea_ with ea_ en_ ec_
                     subst ea_
                     subst ec_
                     clear en_
                     have p214 : 0 ≤ (x9_4 : Int) := oD
                     have q214 : x9_4 < (l1_27.length : Int) := oD
                     obtain ⟨ad214, A214_1, c214_1, A214_2, c214_2, e214, hx214_0, hx214_1, hx214_2, hl214_1, hi214_1, hl214_2, hi214_2⟩ := at_T68 HR1_27.out x9_4 p214 q214
                     obtain rfl : ad208 = ad214 := (by injection e214)
                     replace hx214_0 := celB HB hx214_0
                     replace hx214_1 := celB HB hx214_1
                     replace hx214_2 := celB HB hx214_2
                     have HR214_1 := Aside0.mk hi214_1
                     have HC214_1 := Aside0.mk hl214_1
                     clear hi214_1 hl214_1
                     have HR214_2 := Aside0.mk hi214_2
                     have HC214_2 := Aside0.mk hl214_2
                     clear hi214_2 hl214_2
                     replace p214 := eq_true p214
                     replace q214 := eq_true q214
                     have ea_ := Option.some.inj (hx208_1.symm.trans hx214_1)
                     injection ea_ with ea_ en_ ec_
                     subst ea_
                     subst ec_
                     clear en_
                     have ea_ := Option.some.inj (hx208_2.symm.trans hx214_2)
                     injection ea_ with ea_ en_ ec_
                     subst ea_
                     subst ec_
                     clear en_
                     go_wp2
                     go_ret
                     exact ⟨tE, by repeat (first | (with_reducible first | exact HB.out | apply below_alloc | apply pw_below_drewN | apply below_drew1 | refine below_set ?_ GE202.out) | exact HB.out)⟩
                    ·
                     rw [if_neg c71] at H
                     have c71b0 : decide (5 < (((rd_T68 l1_27 x9_4).f1).length : Int)) = false := decide_eq_false c71
                     have c71b1 : decide (5 < ((rd_T68 l1_27 x9_4).f1).length) = false := decide_eq_false (by omega)
                     clear c71
                     have H' := Aside0.mk H
                     clear H; have hcz73_2 := cel2 BK202 2 rfl; have hcz73_3 := cel2 BK202 3 rfl; have hcz73_4 := cel2 BK202 4 rfl; have hcz73_5 := cel2 BK202 5 rfl; have hcz73_27 := cel2 BK202 27 rfl; have hcz73_28 := cel2 BK202 28 rfl; have hfz73_2 := blk_frozen BK202.out 2; have hfz73_3 := blk_frozen BK202.out 3; have hfz73_4 := blk_frozen BK202.out 4; have hfz73_5 := blk_frozen BK202.out 5; have hfz73_27 := blk_frozen BK202.out 27; have hfz73_28 := blk_frozen BK202.out 28
                     have p208 : 0 ≤ (x9_4 : Int) := oD
                     have q208 : x9_4 < (l1_27.length : Int) := oD
                     obtain ⟨ad208, A208_1, c208_1, A208_2, c208_2, e208, hx208_0, hx208_1, hx208_2, hl208_1, hi208_1, hl208_2, hi208_2⟩ := at_T68 HR1_27.out x9_4 p208 q208
                     cases e208
                     replace hx208_0 := celB HB hx208_0
                     replace hx208_1 := celB HB hx208_1
                     replace hx208_2 := celB HB hx208_2
                     have HR208_1 := Aside0.mk hi208_1
                     have HC208_1 := Aside0.mk hl208_1
                     clear hi208_1 hl208_1
                     have HR208_2 := Aside0.mk hi208_2
                     have HC208_2 := Aside0.mk hl208_2
                     clear hi208_2 hl208_2
                     replace p208 := eq_true p208
                     replace q208 := eq_true q208
                     have p213 : 0 ≤ (x9_4 : Int) := oD
                     have q213 : x9_4 < (l1_27.length : Int) := oD
                     obtain ⟨ad213, A213_1, c213_1, A213_2, c213_2, e213, hx213_0, hx213_1, hx213_2, hl213_1, hi213_1, hl213_2, hi213_2⟩ := at_T68 HR1_27.out x9_4 p213 q213
                     obtain rfl : ad208 = ad213 := (by injection e213)
                     replace hx213_0 := celB HB hx213_0
                     replace hx213_1 := celB HB hx213_1
                     replace hx213_2 := celB HB hx213_2
                     have HR213_1 := Aside0.mk hi213_1
                     have HC213_1 := Aside0.mk hl213_1
                     clear hi213_1 hl213_1
                     have HR213_2 := Aside0.mk hi213_2
                     have HC213_2 := Aside0.mk hl213_2
                     clear hi213_2 hl213_2
                     replace p213 := eq_true p213
                     replace q213 := eq_true q213
                     have ea_ := Option.some.inj (hx208_1.symm.trans hx213_1)
                     injection ea_ with ea_ en_ ec_
                     subst ea_
                     subst ec_
                     clear en_
                     have ea_ := Option.some.inj (hx208_2.symm.trans hx213_2)
                     injection ea_ with ea_ en_ ec_
                     subst ea_
                     subst ec_
                     clear en_
                     have p214 : 0 ≤ (x9_4 : Int) := oD
                     have q214 : x9_4 < (l1_27.length : Int) := oD
                     obtain ⟨ad214, A214_1, c214_1, A214_2, c214_2, e214, hx214_0, hx214_1, hx214_2, hl214_1, hi214_1, hl214_2, hi214_2⟩ := at_T68 HR1_27.out x9_4 p214 q214
                     obtain rfl : ad208 = ad214 := (by injection e214)
                     replace hx214_0 := celB HB hx214_0
                     replace hx214_1 := celB HB hx214_1
                     replace hx214_2 := celB HB hx214_2
                     have HR214_1 := Aside0.mk hi214_1
                     have HC214_1 := Aside0.mk hl214_1
                     clear hi214_1 hl214_1
                     have HR214_2 := Aside0.mk hi214_2
                     have HC214_2 := Aside0.mk hl214_2
                     clear hi214_2 hl214_2
                     replace p214 := eq_true p214
                     replace q214 := eq_true q214
                     have ea_ := Option.some.inj (hx208_1.symm.trans hx214_1)
                     injection ea_ with ea_ en_ ec_
                     subst ea_
                     subst ec_
                     clear en_
                     have ea_ := Option.some.inj (hx208_2.symm.trans hx214_2)
                     injection ea_ with ea_ en_ ec_
                     subst ea_
                     subst ec_
                     clear en_
                     go_wp2
                     go_roundg k5
                     case measure => have := HJ2.out; have := HK2.out; have := HK3.out; have := HK4.out; have := HK5.out; omega
                     case rel => exact ⟨(wrap64 (x9_4 + 1)), tV1, H', ⟨by have := HJ2.out; have := HK2.out; have := HK3.out; have := HK4.out; have := HK5.out; omega⟩, ⟨tK BK202⟩, ⟨tB HB⟩⟩
                ·
                 rw [if_neg c54] at H
                 exact absurd H (by simp)
               ·
                rw [if_neg c53] at H
                exact absurd H (by simp)
            ·
             rw [if_neg c51] at H
             have c51b0 : decide (x9_4 < (l1_27.length : Int)) = false := decide_eq_false c51
             clear c51
             obtain rfl := Option.some.inj H
             have hcz74_2 := cel2 BK202 2 rfl; have hcz74_3 := cel2 BK202 3 rfl; have hcz74_4 := cel2 BK202 4 rfl; have hcz74_5 := cel2 BK202 5 rfl; have hcz74_27 := cel2 BK202 27 rfl; have hcz74_28 := cel2 BK202 28 rfl; have hfz74_2 := blk_frozen BK202.out 2; have hfz74_3 := blk_frozen BK202.out 3; have hfz74_4 := blk_frozen BK202.out 4; have hfz74_5 := blk_frozen BK202.out 5; have hfz74_27 := blk_frozen BK202.out 27; have hfz74_28 := blk_frozen BK202.out 28
             go_wp2
             go_ret
             exact ⟨tE, by repeat (first | (with_reducible first | exact HB.out | apply below_alloc | apply pw_below_drewN | apply below_drew1 | refine below_set ?_ GE202.out) | exact HB.out)⟩

end Go.Proofs.Ytfbfopfhfeijdaa.Pr
