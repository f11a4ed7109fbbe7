/- Several texts in one: PrF18, PrF84, PrF74, PrF57, PrF59, PrF76, PrF77, PrF60, PrF41, PrF86. -/
import Derived.Test.YtfbhdjflkaldgaaDoorMg1
import Derived.Test.YtfbhdjflkaldgaaDoorCt
import Derived.Test.YtfbhdjflkaldgaaDoorMg2
import Derived.Test.YtfbhdjflkaldgaaDoorMg3
import Derived.Test.YtfbhdjflkaldgaaDoorMg13
import Derived.Test.YtfbhdjflkaldgaaDoorMg4
import Derived.Test.YtfbhdjflkaldgaaDoorMg10
import Derived.Test.YtfbhdjflkaldgaaDoorMg9
import Derived.Test.YtfbhdjflkaldgaaDoorRewR
import Derived.Test.YtfbhdjflkaldgaaDoorRewS

namespace Go.Proofs.YtfbhdjflkaldgaaDoor.Pr
open Go.Proofs.YtfbhdjflkaldgaaDoor.Ct Go.RowKit Go.Proofs.YtfbhdjflkaldgaaDoorW.PrintWords Go.Proofs.YtfbhdjflkaldgaaDoorW.PrintLast Go.Proofs.YtfbhdjflkaldgaaDoorW.PrintMore
attribute [local go_sem] max2_int min2_int max_two min_two max_three min_three max_four min_four
set_option linter.unusedVariables false
set_option linter.unusedSimpArgs false
def orthography_valid.f (k : Nat) (a_0 : ByteArray) (a_1 : Bool) (l_2 : List (S80)) (l_3 : List (S85)) (l_4 : List (S180)) (l_5 : List (S183)) (l_6 : List (List Int)) (a_7 : Int) (a_8 : Int) (l_9 : List (S85)) (a_a : Int) (l_b : List ByteArray) (l_c : List ByteArray) (a_d : Bool) (a_e : ByteArray) (a_f : Int) (a_g : ByteArray) (a_h : Bool) (a_i : Int) (a_j : Int) (l_k : List (S186)) (l_l : List (S186)) (l_m : List ByteArray) (l_n : List ByteArray) (l_o : List ByteArray) (a_p : Bool) (l_q : List (S188)) (l_r : List (S190)) (l_s : List (S194)) (a_t : ByteArray) : Option (Bool) := (utf8_DecodeRuneInString.f a_t).bind fun bt127 => ((clitic_Valid.f k l_2 l_9).bind fun t129 => (if t129 = true then (if bt127.2 > 0 then (if bt127.2 = (a_t.size : Int) then (if bt127.1 = 65533 then (if bt127.2 = 3 then (if bt127.1 > 32 then (if bt127.1 = 45 then (some false) else (if bt127.1 = 61 then (some false) else ((alphabet_Index.f l_2 bt127.1).bind fun t130 => (some (decide (t130 < 0)))))) else (some false)) else (some false)) else (if bt127.1 > 32 then (if bt127.1 = 45 then (some false) else (if bt127.1 = 61 then (some false) else ((alphabet_Index.f l_2 bt127.1).bind fun t131 => (some (decide (t131 < 0)))))) else (some false))) else (some false)) else (some false)) else (some false)))
set_option maxRecDepth 1000000 in
theorem LPrF18a1 {p : Prop} (h : p := by
  go_enter Tryd.func18, Tryd.ntmps18
  go_wp2_with (first | ((with_reducible refine gate_load (t := 41) (p := 1) rfl ?_); (try (refine gate_guard (by rfl) ?_; dsimp only)); refine wpList_load_row rfl 41 (.tmp 1) rfl gb126 rfl 41 _ (0, 0) _ (tK BK126) Tryd.underlying41 rfl (by kernel_rfl) ?_) | ((with_reducible refine gate_dst (N := 1) rfl ?_); (try (refine gate_guard (by rfl) ?_; dsimp only)); refine box_event ?hg (N := 1) ?hd (cs := ?cs) (t := 41) ?hr ?_; (case hd => rfl); (case hg => rfl); (case hr => exact Gc6); intro gb126 hg z2_ hbox hb; have n0_ := Aside0.mk (below_step (tB HB) hb); have n1_ := Aside0.mk (hbox); have z5_ := tZ hg (tS HB); have z6_ := tZ hg (tS HB); revert n0_ n1_ z5_ z6_; clear HB; intro HB BK126 z8_ GE126; clear hb hbox hg; have z10_ := cel2 BK126 2 rfl; have z11_ := cel2 BK126 9 rfl; have z12_ := cel2 BK126 29 rfl; have z13_ := blk_frozen BK126.out 2; have z14_ := blk_frozen BK126.out 9; have z15_ := blk_frozen BK126.out 29) | ((with_reducible refine gate_callee (f := 33) rfl ?_); refine goesL_ (some 8) rfl rfl Tryd.func33 (by kernel_rfl) rfl #[.string a_t] rfl Gc2 ?_; (with_reducible refine (utf8_DecodeRuneInString.calls a_t t127 t128 _ ?sT A2.out).mono ?_); (case sT => exact Gc1); rintro e z1_ ⟨rfl, hb⟩; refine ⟨_, rfl, ?_⟩; have n0_ := Aside0.mk (blk_below (tK BK126) hb); have n1_ := Aside0.mk (below_step (tB HB) hb); revert n0_ n1_; clear BK126 HB; intro BK126 HB; (try clear hb); (try clear hb2); (try clear hk); (try clear hi); have z4_ := cel2 BK126 2 rfl; have z5_ := cel2 BK126 9 rfl; have z6_ := cel2 BK126 29 rfl; have z7_ := blk_frozen BK126.out 2; have z8_ := blk_frozen BK126.out 9; have z9_ := blk_frozen BK126.out 29) | (have ma_ := ma1_; ((with_reducible refine gate_callee (f := 29) rfl ?_); refine goesL_ (some 16) rfl rfl Tryd.func29 (by kernel_rfl) rfl #[.slice A_2 l_2.length c_2, .slice A_9 l_9.length c_9] rfl Gc2 ?_; (with_reducible refine (clitic_Valid.calls k _ _ l_2 _ _ l_9 false _ ?sT (tC HR_2 HB) HC_2.out (tC HR_9 HB) HC_9.out A3.out).mono ?_); (case sT => exact Gc1); rintro e z1_ ⟨rfl, hb⟩; refine ⟨_, rfl, ?_⟩; have n0_ := Aside0.mk (blk_below (tK BK126) hb); have n1_ := Aside0.mk (below_step (tB HB) hb); revert n0_ n1_; clear BK126 HB; intro BK126 HB; (try clear hb); (try clear hb2); (try clear hk); (try clear hi))) | (have ma_ := ma2_; ((with_reducible refine gate_callee (f := 29) rfl ?_); refine goesL_ (some 16) rfl rfl Tryd.func29 (by kernel_rfl) rfl #[.slice A_2 l_2.length c_2, .slice A_9 l_9.length c_9] rfl Gc2 ?_; (with_reducible refine (clitic_Valid.calls k _ _ l_2 _ _ l_9 true _ ?sT (tC HR_2 HB) HC_2.out (tC HR_9 HB) HC_9.out A3.out).mono ?_); (case sT => exact Gc1); rintro e z1_ ⟨rfl, hb⟩; refine ⟨_, rfl, ?_⟩; have n0_ := Aside0.mk (blk_below (tK BK126) hb); have n1_ := Aside0.mk (below_step (tB HB) hb); revert n0_ n1_; clear BK126 HB; intro BK126 HB; (try clear hb); (try clear hb2); (try clear hk); (try clear hi))) | (have ma_ := ma3_; ((with_reducible refine gate_callee (f := 29) rfl ?_); refine goesL_ (some 16) rfl rfl Tryd.func29 (by kernel_rfl) rfl #[.slice A_2 l_2.length c_2, .slice A_9 l_9.length c_9] rfl Gc2 ?_; (with_reducible refine (clitic_Valid.calls k _ _ l_2 _ _ l_9 true _ ?sT (tC HR_2 HB) HC_2.out (tC HR_9 HB) HC_9.out A3.out).mono ?_); (case sT => exact Gc1); rintro e z1_ ⟨rfl, hb⟩; refine ⟨_, rfl, ?_⟩; have n0_ := Aside0.mk (blk_below (tK BK126) hb); have n1_ := Aside0.mk (below_step (tB HB) hb); revert n0_ n1_; clear BK126 HB; intro BK126 HB; (try clear hb); (try clear hb2); (try clear hk); (try clear hi); have z4_ := cel2 BK126 2 rfl; have z5_ := cel2 BK126 9 rfl; have z6_ := cel2 BK126 29 rfl; have z7_ := blk_frozen BK126.out 2; have z8_ := blk_frozen BK126.out 9; have z9_ := blk_frozen BK126.out 29)) | (have ma_ := ma4_; (go_at_call 34; (with_reducible refine (alphabet_Index.calls _ _ l_2 t127 t131 _ (tC HR_2 HB) HC_2.out A59.out).mono ?_); rintro e z1_ ⟨rfl, hb⟩; have n0_ := Aside0.mk (blk_below (tK BK126) hb); have n1_ := Aside0.mk (below_step (tB HB) hb); revert n0_ n1_; clear BK126 HB; intro BK126 HB; (try clear hb); (try clear hb2); (try clear hk); (try clear hi))) | (have ma_ := ma5_; (go_at_call 34; (with_reducible refine (alphabet_Index.calls _ _ l_2 t127 t130 _ (tC HR_2 HB) HC_2.out A24.out).mono ?_); rintro e z1_ ⟨rfl, hb⟩; have n0_ := Aside0.mk (blk_below (tK BK126) hb); have n1_ := Aside0.mk (below_step (tB HB) hb); revert n0_ n1_; clear BK126 HB; intro BK126 HB; (try clear hb); (try clear hb2); (try clear hk); (try clear hi))))
  go_ret
  exact ⟨tE, by repeat (first | (with_reducible first | exact HB.out | apply below_alloc | apply pw_below_drewN | apply below_drew1 | refine below_set ?_ GE126.out) | exact HB.out)⟩) : p := h
set_option maxHeartbeats 8000000 in
set_option maxRecDepth 100000 in
theorem orthography_valid.calls (k : Nat) (a_0 : ByteArray) (a_1 : Bool) (A_2 : Option Addr) (c_2 : Nat) (l_2 : List (S80)) (A_3 : Option Addr) (c_3 : Nat) (l_3 : List (S85)) (A_4 : Option Addr) (c_4 : Nat) (l_4 : List (S180)) (A_5 : Option Addr) (c_5 : Nat) (l_5 : List (S183)) (A_6 : Option Addr) (c_6 : Nat) (l_6 : List (List Int)) (a_7 : Int) (a_8 : Int) (A_9 : Option Addr) (c_9 : Nat) (l_9 : List (S85)) (a_a : Int) (A_b : Option Addr) (c_b : Nat) (l_b : List ByteArray) (A_c : Option Addr) (c_c : Nat) (l_c : List ByteArray) (a_d : Bool) (a_e : ByteArray) (a_f : Int) (a_g : ByteArray) (a_h : Bool) (a_i : Int) (a_j : Int) (A_k : Option Addr) (c_k : Nat) (l_k : List (S186)) (A_l : Option Addr) (c_l : Nat) (l_l : List (S186)) (A_m : Option Addr) (c_m : Nat) (l_m : List ByteArray) (A_n : Option Addr) (c_n : Nat) (l_n : List ByteArray) (A_o : Option Addr) (c_o : Nat) (l_o : List ByteArray) (a_p : Bool) (A_q : Option Addr) (c_q : Nat) (l_q : List (S188)) (A_r : Option Addr) (c_r : Nat) (l_r : List (S190)) (A_s : Option Addr) (c_s : Nat) (l_s : List (S194)) (a_t : ByteArray) (r : Bool) (w : World) (hT : Tabs w) (hr_2 : Kd.C k80 w A_2 l_2.length l_2) (hc_2 : l_2.length ≤ c_2) (hr_3 : Kd.C k85 w A_3 l_3.length l_3) (hc_3 : l_3.length ≤ c_3) (hr_4 : Kd.C k180 w A_4 l_4.length l_4) (hc_4 : l_4.length ≤ c_4) (hr_5 : Kd.C k183 w A_5 l_5.length l_5) (hc_5 : l_5.length ≤ c_5) (hr_6 : Kd.C (Kd.slice 78 (Kd.int .u32)) w A_6 l_6.length l_6) (hc_6 : l_6.length ≤ c_6) (hr_9 : Kd.C k85 w A_9 l_9.length l_9) (hc_9 : l_9.length ≤ c_9) (hr_b : Kd.C Kd.string w A_b l_b.length l_b) (hc_b : l_b.length ≤ c_b) (hr_c : Kd.C Kd.string w A_c l_c.length l_c) (hc_c : l_c.length ≤ c_c) (hr_k : Kd.C k186 w A_k l_k.length l_k) (hc_k : l_k.length ≤ c_k) (hr_l : Kd.C k186 w A_l l_l.length l_l) (hc_l : l_l.length ≤ c_l) (hr_m : Kd.C Kd.string w A_m l_m.length l_m) (hc_m : l_m.length ≤ c_m) (hr_n : Kd.C Kd.string w A_n l_n.length l_n) (hc_n : l_n.length ≤ c_n) (hr_o : Kd.C Kd.string w A_o l_o.length l_o) (hc_o : l_o.length ≤ c_o) (hr_q : Kd.C k188 w A_q l_q.length l_q) (hc_q : l_q.length ≤ c_q) (hr_r : Kd.C k190 w A_r l_r.length l_r) (hc_r : l_r.length ≤ c_r) (hr_s : Kd.C k194 w A_s l_s.length l_s) (hc_s : l_s.length ≤ c_s) (h : orthography_valid.f k a_0 a_1 l_2 l_3 l_4 l_5 l_6 a_7 a_8 l_9 a_a l_b l_c a_d a_e a_f a_g a_h a_i a_j l_k l_l l_m l_n l_o a_p l_q l_r l_s a_t = some r) :
 Calls Tryd.prog 18 #[.agg #[.string a_0, .bool a_1, .slice A_2 l_2.length c_2, .slice A_3 l_3.length c_3, .slice A_4 l_4.length c_4, .slice A_5 l_5.length c_5, .slice A_6 l_6.length c_6, .int .i64 a_7, .int .i64 a_8, .slice A_9 l_9.length c_9, .int .i64 a_a, .slice A_b l_b.length c_b, .slice A_c l_c.length c_c, .bool a_d, .string a_e, .int .i64 a_f, .string a_g, .bool a_h, .int .i64 a_i, .int .i64 a_j, .slice A_k l_k.length c_k, .slice A_l l_l.length c_l, .slice A_m l_m.length c_m, .slice A_n l_n.length c_n, .slice A_o l_o.length c_o, .bool a_p, .slice A_q l_q.length c_q, .slice A_r l_r.length c_r, .slice A_s l_s.length c_s, .string a_t]] w fun e w' => e = .returned (.bool r) ∧ Below w.heap.size w w' := by
 have HT := Aside0.mk hT
 clear hT
 have hu41 := Tryd.underlying41
 have HR_2 := Aside0.mk hr_2
 have HC_2 := Aside0.mk hc_2
 clear hr_2 hc_2
 have HR_3 := Aside0.mk hr_3
 have HC_3 := Aside0.mk hc_3
 clear hr_3 hc_3
 have HR_4 := Aside0.mk hr_4
 have HC_4 := Aside0.mk hc_4
 clear hr_4 hc_4
 have HR_5 := Aside0.mk hr_5
 have HC_5 := Aside0.mk hc_5
 clear hr_5 hc_5
 have HR_6 := Aside0.mk hr_6
 have HC_6 := Aside0.mk hc_6
 clear hr_6 hc_6
 have HR_9 := Aside0.mk hr_9
 have HC_9 := Aside0.mk hc_9
 clear hr_9 hc_9
 have HR_b := Aside0.mk hr_b
 have HC_b := Aside0.mk hc_b
 clear hr_b hc_b
 have HR_c := Aside0.mk hr_c
 have HC_c := Aside0.mk hc_c
 clear hr_c hc_c
 have HR_k := Aside0.mk hr_k
 have HC_k := Aside0.mk hc_k
 clear hr_k hc_k
 have HR_l := Aside0.mk hr_l
 have HC_l := Aside0.mk hc_l
 clear hr_l hc_l
 have HR_m := Aside0.mk hr_m
 have HC_m := Aside0.mk hc_m
 clear hr_m hc_m
 have HR_n := Aside0.mk hr_n
 have HC_n := Aside0.mk hc_n
 clear hr_n hc_n
 have HR_o := Aside0.mk hr_o
 have HC_o := Aside0.mk hc_o
 clear hr_o hc_o
 have HR_q := Aside0.mk hr_q
 have HC_q := Aside0.mk hc_q
 clear hr_q hc_q
 have HR_r := Aside0.mk hr_r
 have HC_r := Aside0.mk hc_r
 clear hr_r hc_r
 have HR_s := Aside0.mk hr_s
 have HC_s := Aside0.mk hc_s
 clear hr_s hc_s
 have HB := Aside0.mk (Below.refl w.heap.size w)
 have H : ((utf8_DecodeRuneInString.f a_t).bind fun bt127 => ((clitic_Valid.f k l_2 l_9).bind fun t129 => (if t129 = true then (if bt127.2 > 0 then (if bt127.2 = (a_t.size : Int) then (if bt127.1 = 65533 then (if bt127.2 = 3 then (if bt127.1 > 32 then (if bt127.1 = 45 then (some false) else (if bt127.1 = 61 then (some false) else ((alphabet_Index.f l_2 bt127.1).bind fun t130 => (some (decide (t130 < 0)))))) else (some false)) else (some false)) else (if bt127.1 > 32 then (if bt127.1 = 45 then (some false) else (if bt127.1 = 61 then (some false) else ((alphabet_Index.f l_2 bt127.1).bind fun t131 => (some (decide (t131 < 0)))))) else (some false))) else (some false)) else (some false)) else (some false)))) = some r := h
 clear h
 replace H := bI H; obtain ⟨⟨t127, t128⟩, A2, H⟩ := H; (try dsimp only at H)
 replace H := bI H; obtain ⟨t129, A3, H⟩ := H; (try dsimp only at H)
 replace H := iT H; obtain ⟨rfl, H⟩ | ⟨rfl, H⟩ := H
 ·
  replace H := iF H; obtain ⟨c5, H⟩ | ⟨c5, H⟩ := H
  ·
   have c5b0 : decide (0 < t128) = true := decide_eq_true c5
   clear c5
   replace H := iE H; obtain ⟨-, c6b0, c6b1, H⟩ | ⟨c6, c6b0, c6b1, H⟩ := H
   ·
    replace H := iE H; obtain ⟨-, c7b0, c7b1, H⟩ | ⟨c7, c7b0, c7b1, H⟩ := H
    ·
     replace H := iE H; obtain ⟨-, c8b0, c8b1, H⟩ | ⟨c8, c8b0, c8b1, H⟩ := H
     ·
      replace H := iF H; obtain ⟨c9, H⟩ | ⟨c9, H⟩ := H
      ·
       have c9b0 : decide (32 < t127) = true := decide_eq_true c9
       clear c9
       replace H := iE H; obtain ⟨-, c10b0, c10b1, H⟩ | ⟨c10, c10b0, c10b1, H⟩ := H
       ·
        obtain rfl := Option.some.inj H
        have ma3_ := trivial
        exact LPrF18a1
       ·
        replace H := iE H; obtain ⟨-, c17b0, c17b1, H⟩ | ⟨c17, c17b0, c17b1, H⟩ := H
        ·
         obtain rfl := Option.some.inj H
         have ma3_ := trivial
         exact LPrF18a1
        ·
         replace H := bI H; obtain ⟨t130, A24, H⟩ := H; (try dsimp only at H)
         obtain rfl := Option.some.inj H
         have ma3_ := trivial; have ma5_ := trivial
         exact LPrF18a1
      ·
       have c9b0 : decide (32 < t127) = false := decide_eq_false c9
       clear c9
       obtain rfl := Option.some.inj H
       have ma3_ := trivial
       exact LPrF18a1
     ·
      obtain rfl := Option.some.inj H
      have ma3_ := trivial
      exact LPrF18a1
    ·
     replace H := iF H; obtain ⟨c44, H⟩ | ⟨c44, H⟩ := H
     ·
      have c44b0 : decide (32 < t127) = true := decide_eq_true c44
      clear c44
      replace H := iE H; obtain ⟨-, c45b0, c45b1, H⟩ | ⟨c45, c45b0, c45b1, H⟩ := H
      ·
       obtain rfl := Option.some.inj H
       have ma3_ := trivial
       exact LPrF18a1
      ·
       replace H := iE H; obtain ⟨-, c52b0, c52b1, H⟩ | ⟨c52, c52b0, c52b1, H⟩ := H
       ·
        obtain rfl := Option.some.inj H
        have ma3_ := trivial
        exact LPrF18a1
       ·
        replace H := bI H; obtain ⟨t131, A59, H⟩ := H; (try dsimp only at H)
        obtain rfl := Option.some.inj H
        have ma3_ := trivial; have ma4_ := trivial
        exact LPrF18a1
     ·
      have c44b0 : decide (32 < t127) = false := decide_eq_false c44
      clear c44
      obtain rfl := Option.some.inj H
      have ma3_ := trivial
      exact LPrF18a1
   ·
    obtain rfl := Option.some.inj H
    have ma3_ := trivial
    exact LPrF18a1
  ·
   have c5b0 : decide (0 < t128) = false := decide_eq_false c5
   clear c5
   obtain rfl := Option.some.inj H
   have ma2_ := trivial
   exact LPrF18a1
 ·
  obtain rfl := Option.some.inj H
  have ma1_ := trivial
  exact LPrF18a1
def pentaglotref06_code.f (a0 : Int) : Option (Bool) := if a0 > 32 then (if a0 < 55296 then (some (decide (a0 ≤ 1114111))) else (if a0 > 57343 then (some (decide (a0 ≤ 1114111))) else (some false))) else (some false)
def pentaglotref06_Proper.l0 : Nat → List (S80) → Int → Option (Bool)
 | 0, _, _ => none
 | k + 1, x0, x3 => if x3 < (x0.length : Int) then (if 0 ≤ x3 then ((pentaglotref06_code.f ((rd_T80 x0 x3).f0)).bind fun t313 => (if t313 = true then (if x3 ≤ (x0.length : Int) then ((pentaglotref06_Index.f k (x0.take (x3 : Int).toNat) ((rd_T80 x0 x3).f0)).bind fun t319 => (if t319 ≥ 0 then (some false) else (pentaglotref06_Proper.l0 k x0 (wrap64 (x3 + 1))))) else (none)) else (some false))) else (none)) else (some true)
def pentaglotref14_Extended.f (l0 : List (S80)) : Option ((List (S80))) := (some (([] : List (S80)) : List (S80))).bind fun y322 => (if y322.length + l0.length < 17592186044416 then ((some (y322 ++ l0 : List (S80))).bind fun y325 => (if y325.length < 17592186044416 then (some (y325 ++ [(⟨61, 2147483648⟩ : S80)])) else (none))) else (none))
def pentaglotref07_Admissible.l0 : Nat → List (S80) → Int → Option (Bool)
 | 0, _, _ => none
 | k + 1, x0, x3 => if x3 < (x0.length : Int) then (if 0 ≤ x3 then (if ((rd_T80 x0 x3).f0) ≤ 32 then (some false) else ((utf8_ValidRune.f k ((rd_T80 x0 x3).f0)).bind fun t333 => (if t333 = true then ((pentaglotref07_Index.f k x0 ((rd_T80 x0 x3).f0)).bind fun t335 => (if t335 = x3 then (pentaglotref07_Admissible.l0 k x0 (wrap64 (x3 + 1))) else (some false))) else (some false)))) else (none)) else (if (x0.length : Int) ≥ 1 then (some (decide ((x0.length : Int) ≤ 65))) else (some false))
def pentaglotref07_Admissible.f (k : Nat) (l0 : List (S80)) : Option (Bool) := pentaglotref07_Admissible.l0 k l0 0
def pentaglotref07_pattern.l0 : Nat → List (S80) → List (S82) → Int → Option (Bool)
 | 0, _, _, _ => none
 | k + 1, x0, x1, x5 => if x5 < (x1.length : Int) then (if 0 ≤ x5 then ((pentaglotref07_Letters.f x0 ((rd_T82 x1 x5).f1)).bind fun bt337 => (if bt337.2 = true then (pentaglotref07_pattern.l0 k x0 x1 (wrap64 (x5 + 1))) else (some false))) else (none)) else (some (decide ((x1.length : Int) ≤ 3)))
def pentaglotref07_pattern.f (k : Nat) (l0 : List (S80)) (l1 : List (S82)) : Option (Bool) := pentaglotref07_pattern.l0 k l0 l1 0
def pentaglotref07_Valid.f (k : Nat) (l0 : List (S80)) (a1_0 : Int) (a1_1 : ByteArray) (l1_2 : List (S82)) (l1_3 : List (S82)) (a1_4 : Bool) (a1_5 : Bool) : Option (Bool) := (pentaglotref07_Letters.f l0 a1_1).bind fun bt342 => ((pentaglotref07_Admissible.f k l0).bind fun t346 => (if t346 = true then (if a1_0 = 0 then (if bt342.2 = true then (if (bt342.1.length : Int) ≤ 4 then ((pentaglotref07_pattern.f k l0 l1_2).bind fun t347 => (if t347 = true then ((pentaglotref07_pattern.f k l0 l1_3).bind fun t348 => (some t348)) else (some false))) else (some false)) else (some false)) else ((pentaglotref07_Index.f k l0 a1_0).bind fun t349 => (if t349 ≥ 0 then (if bt342.2 = true then (if (bt342.1.length : Int) ≤ 4 then ((pentaglotref07_pattern.f k l0 l1_2).bind fun t350 => (if t350 = true then ((pentaglotref07_pattern.f k l0 l1_3).bind fun t351 => (some t351)) else (some false))) else (some false)) else (some false)) else (some false)))) else (some false)))
mutual
def pentaglotref14_Valid.j0 : Nat → List (S80) → List (S85) → Bool → Option (Bool)
 | 0, _, _, _ => none
 | k + 1, x0, x1, x21 => if x21 = true then (some false) else ((pentaglotref14_Extended.f x0).bind fun t354 => (pentaglotref14_Valid.l0 k x1 t354 0))
def pentaglotref14_Valid.l0 : Nat → List (S85) → List (S80) → Int → Option (Bool)
 | 0, _, _, _ => none
 | k + 1, x1, x5, x6 => if x6 < (x1.length : Int) then (if 0 ≤ x6 then ((pentaglotref07_Valid.f k x5 ((rd_T85 x1 x6).f0) ((rd_T85 x1 x6).f1) ((rd_T85 x1 x6).f2) ((rd_T85 x1 x6).f3) ((rd_T85 x1 x6).f4) ((rd_T85 x1 x6).f5)).bind fun t359 => (if t359 = true then (pentaglotref14_Valid.j2 k x1 x5 x6 (((rd_T85 x1 x6).f0) == 61) ((rd_T85 x1 x6).f0) ((rd_T85 x1 x6).f1) ((rd_T85 x1 x6).f2) ((rd_T85 x1 x6).f3) ((rd_T85 x1 x6).f4) ((rd_T85 x1 x6).f5)) else (pentaglotref14_Valid.j2 k x1 x5 x6 true ((rd_T85 x1 x6).f0) ((rd_T85 x1 x6).f1) ((rd_T85 x1 x6).f2) ((rd_T85 x1 x6).f3) ((rd_T85 x1 x6).f4) ((rd_T85 x1 x6).f5)))) else (none)) else (some true)
def pentaglotref14_Valid.j2 : Nat → List (S85) → List (S80) → Int → Bool → Int → ByteArray → List (S82) → List (S82) → Bool → Bool → Option (Bool)
 | 0, _, _, _, _, _, _, _, _, _, _ => none
 | k + 1, x1, x5, x6, x42, x359000, x359001, x359002, x359003, x359004, x359005 => if x42 = true then (some false) else (pentaglotref14_Valid.l1 k x1 x5 x6 0 x359000 x359001 x359002 x359003 x359004 x359005)
def pentaglotref14_Valid.l1 : Nat → List (S85) → List (S80) → Int → Int → Int → ByteArray → List (S82) → List (S82) → Bool → Bool → Option (Bool)
 | 0, _, _, _, _, _, _, _, _, _, _ => none
 | k + 1, x1, x5, x6, x8, x359000, x359001, x359002, x359003, x359004, x359005 => if x8 < (x359001.size : Int) then (if 0 ≤ x8 then (if (bt x359001 x8) = 61 then (some false) else (pentaglotref14_Valid.l1 k x1 x5 x6 (wrap64 (x8 + 1)) x359000 x359001 x359002 x359003 x359004 x359005)) else (none)) else (pentaglotref14_Valid.l0 k x1 x5 (wrap64 (x6 + 1)))
end
def rewrite_Apply.j0 : Nat → List (S80) → ByteArray → Bool → Int → ByteArray → List (S82) → List (S82) → Bool → Bool → Option (ByteArray × Int)
 | 0, _, _, _, _, _, _, _, _, _ => none
 | k + 1, x0, x2, x18, x186000, x186001, x186002, x186003, x186004, x186005 => if x18 = true then (some ((⟨#[]⟩ : ByteArray), 1)) else ((rewrite_Sites.f x0 x186000 x186001 x186002 x186003 x186004 x186005 x2).bind fun t188 => ((rewrite_result.f x186000 x186001 x186002 x186003 x186004 x186005 t188 x2).bind fun t191 => ((utf8_RuneCountInString.f t191).bind fun t192 => (if t192 > 40 then (some ((⟨#[]⟩ : ByteArray), 2)) else (some (t191, 0))))))
def rewrite_Apply.f (k : Nat) (l0 : List (S80)) (a1_0 : Int) (a1_1 : ByteArray) (l1_2 : List (S82)) (l1_3 : List (S82)) (a1_4 : Bool) (a1_5 : Bool) (a2 : ByteArray) : Option (ByteArray × Int) := (rewrite_Valid.f l0 a1_0 a1_1 l1_2 l1_3 a1_4 a1_5).bind fun t186 => (if t186 = true then ((rewrite_letters_isWord.f l0 a2).bind fun t187 => (rewrite_Apply.j0 k l0 a2 (!t187) a1_0 a1_1 l1_2 l1_3 a1_4 a1_5)) else (rewrite_Apply.j0 k l0 a2 true a1_0 a1_1 l1_2 l1_3 a1_4 a1_5))
def rewrite_Apply.T3 : Bool × List (List Nat × List Nat) := (true, [([], []), ([], []), ([], []), ([], []), ([1, 2, 3], [1, 2, 3]), ([], []), ([0, 4, 5, 4], [0, 4, 5]), ([6, 6, 0, 1, 2, 3, 4, 5, 6], [6])])
def rewrite_Apply.B3 : List Nat := [0, 0, 0, 0, 14, 0, 63, 127]
theorem rewrite_Apply.tab3 : rtab .any (opsOf Tryd.f86 3) = rewrite_Apply.T3 := by kernel_rfl
theorem rewrite_Apply.bits3 : waitsOk rewrite_Apply.T3.2 rewrite_Apply.B3 = true := by kernel_rfl
set_option maxRecDepth 1000000 in
theorem LPrF86x1 {p : Prop} (h : p := by
  clear c18
  simp only [Option.some.injEq, Prod.mk.injEq] at H
  obtain ⟨rfl, rfl⟩ := H
  try go_wp2
  have z1_ := Aside0.mk (blk_drew BK185.out)
  have z2_ := Aside0.mk (below_drew1 HB.out)
  revert z1_ z2_
  clear BK185 HB
  intro BK185 HB
  refine start_ (n := 8) (S := fun w' => w'.cell? ⟨gb185, 0, none⟩ = some (.int .i32 a1_0) ∧ w'.cell? ⟨gb185, 1, none⟩ = some (.string a1_1) ∧ w'.cell? ⟨gb185, 2, none⟩ = some (.slice A1_2 l1_2.length c1_2) ∧ w'.cell? ⟨gb185, 3, none⟩ = some (.slice A1_3 l1_3.length c1_3) ∧ w'.cell? ⟨gb185, 4, none⟩ = some (.bool a1_4) ∧ w'.cell? ⟨gb185, 5, none⟩ = some (.bool a1_5)) (ds := []) #[false, false, false, false, false, false, false, false] (by kernel_rfl) rfl rfl ⟨(blk_cell BK185.out 0).trans rfl, (blk_cell BK185.out 1).trans rfl, (blk_cell BK185.out 2).trans rfl, (blk_cell BK185.out 3).trans rfl, (blk_cell BK185.out 4).trans rfl, (blk_cell BK185.out 5).trans rfl⟩ (fun hHeld => ?_); refine with_tabW rewrite_Apply.tab3 rewrite_Apply.bits3 (fun HT_ HW_ => ?_)
  generalize wc.drew = z3_ at BK185 HB hHeld ⊢
  refine pT 1 20 ?_
  refine pT 3 22 ?_
  refine pT 5 24 ?_
  refine tTt 0 19 hHeld ?_
  refine tTt 2 21 hHeld ?_
  refine one_ (i := 4) (N := some 23) #[true, true, true, true, true, true, false, false] rfl rfl (one_of HT_.out (by kernel_rfl)) (by decide) (fun K hK => ?_)
  refine goes_ Tryd.func89 (by kernel_rfl) rfl #[.slice A0 l0.length c0, .agg #[.int .i32 a1_0, .string a1_1, .slice A1_2 l1_2.length c1_2, .slice A1_3 l1_3.length c1_3, .bool a1_4, .bool a1_5], .string a2] (by rfl) rfl rfl Gc2 ?_
  with_reducible refine (rewrite_Sites.calls _ _ l0 a1_0 a1_1 _ _ l1_2 _ _ l1_3 a1_4 a1_5 a2 t188 _ ?sT ?s1 ?s2 ?s3 ?s4 ?s5 ?s6 A15.out).mono ?_
  (case sT => exact Gc1)
  (case s1 => exact tC HR0 HB)
  (case s2 => exact HC0.out)
  (case s3 => exact tC HR1_2 HB)
  (case s4 => exact HC1_2.out)
  (case s5 => exact tC HR1_3 HB)
  (case s6 => exact HC1_3.out)
  rintro e z4_ ⟨z5_, rfl, z6_, hb⟩
  refine ⟨_, rfl, ?_⟩
  have z1_ := Aside0.mk (Kd.R_lower z6_ (tS HB))
  have z2_ := Aside0.mk (blk_below (tK BK185) hb)
  have z7_ := Aside0.mk (below_step (tB HB) hb)
  revert z1_ z2_ z7_
  clear BK185 HB
  intro z8_ BK185 HB
  (try clear hb); (try clear z6_)
  obtain ⟨z9_, z10_, z11_⟩ := Kd.R_slice z8_.out
  (first | subst z11_ | (injection z11_ with f1_ f2_ f3_; have z12_ := f1_.symm; have z13_ := f3_.symm; clear f1_ f2_ f3_; subst z12_; subst z13_))
  refine hK.out _ _ ⟨(blk_cell BK185.out 0).trans rfl, (blk_cell BK185.out 1).trans rfl, (blk_cell BK185.out 2).trans rfl, (blk_cell BK185.out 3).trans rfl, (blk_cell BK185.out 4).trans rfl, (blk_cell BK185.out 5).trans rfl⟩ (fun hHeld => ?_)
  clear hK K
  refine nR 23 ?_
  refine one_ (i := 6) (N := some 25) #[true, true, true, true, true, true, true, false] rfl rfl (one_of HT_.out (by kernel_rfl)) (by decide) (fun K hK => ?_)
  refine goes_ Tryd.func88 (by kernel_rfl) rfl #[.agg #[.int .i32 a1_0, .string a1_1, .slice A1_2 l1_2.length c1_2, .slice A1_3 l1_3.length c1_3, .bool a1_4, .bool a1_5], .slice z9_ t188.length z10_, .string a2] (by rfl) rfl rfl Gc2 ?_
  with_reducible refine (rewrite_result.calls a1_0 a1_1 _ _ l1_2 _ _ l1_3 a1_4 a1_5 _ _ t188 a2 t191 _ (tC HR1_2 HB) HC1_2.out (tC HR1_3 HB) HC1_3.out ?s5 ?s6 A16.out).mono ?_
  (case s5 => repeat (first | exact (Kd.R_reads' z8_.out).2.2 | (with_reducible refine Kd.C_alloc ?_ _) | (with_reducible refine Kd.C_drewN ?_ _) | (with_reducible refine Kd.C_drew ?_)))
  (case s6 => exact (Kd.R_reads' z8_.out).2.1)
  rintro e z14_ ⟨rfl, hb⟩
  refine ⟨_, rfl, ?_⟩
  have z1_ := Aside0.mk (Kd.R_below (dR z8_) hb)
  have z2_ := Aside0.mk (blk_below (tK BK185) hb)
  have z7_ := Aside0.mk (below_step (tB HB) hb)
  revert z1_ z2_ z7_
  clear z8_ BK185 HB
  intro z8_ BK185 HB
  (try clear hb)
  refine hK.out _ _ ⟨(blk_cell BK185.out 0).trans rfl, (blk_cell BK185.out 1).trans rfl, (blk_cell BK185.out 2).trans rfl, (blk_cell BK185.out 3).trans rfl, (blk_cell BK185.out 4).trans rfl, (blk_cell BK185.out 5).trans rfl⟩ (fun hHeld => ?_)
  clear hK K
  refine nR 25 ?_
  refine pT 7 8 ?_
  refine done_ (done_of HT_.out (by kernel_rfl)) ?_
  try go_wp2_with (first | ((with_reducible refine gate_callee (f := 69) rfl ?_); refine goesL_ (some 27) rfl rfl Tryd.func69 (by kernel_rfl) rfl #[.string t191] rfl Gc2 ?_; (with_reducible refine (utf8_RuneCountInString.calls t191 t192 _ A17.out).mono ?_); rintro e z15_ ⟨rfl, hb⟩; refine ⟨_, rfl, ?_⟩; have z1_ := Aside0.mk (Kd.R_below (dR z8_) hb); have z2_ := Aside0.mk (blk_below (tK BK185) hb); have z7_ := Aside0.mk (below_step (tB HB) hb); revert z1_ z2_ z7_; clear z8_ BK185 HB; intro z8_ BK185 HB; (try clear hb); (try clear hb2); (try clear hk); (try clear hi)))
  go_ret2
  exact ⟨tE, by repeat (first | (with_reducible first | exact HB.out | apply below_alloc | apply pw_below_drewN | apply below_drew1 | refine below_set ?_ GE185.out) | exact HB.out)⟩) : p := h
set_option maxHeartbeats 8000000 in
set_option maxRecDepth 100000 in
theorem rewrite_Apply.calls (k : Nat) (A0 : Option Addr) (c0 : Nat) (l0 : List (S80)) (a1_0 : Int) (a1_1 : ByteArray) (A1_2 : Option Addr) (c1_2 : Nat) (l1_2 : List (S82)) (A1_3 : Option Addr) (c1_3 : Nat) (l1_3 : List (S82)) (a1_4 : Bool) (a1_5 : Bool) (a2 : ByteArray) (r1 : ByteArray) (r2 : Int) (w : World) (hT : Tabs w) (hr0 : Kd.C k80 w A0 l0.length l0) (hc0 : l0.length ≤ c0) (hr1_2 : Kd.C k82 w A1_2 l1_2.length l1_2) (hc1_2 : l1_2.length ≤ c1_2) (hr1_3 : Kd.C k82 w A1_3 l1_3.length l1_3) (hc1_3 : l1_3.length ≤ c1_3) (h : rewrite_Apply.f k l0 a1_0 a1_1 l1_2 l1_3 a1_4 a1_5 a2 = some (r1, r2)) :
 Calls Tryd.prog 86 #[.slice A0 l0.length c0, .agg #[.int .i32 a1_0, .string a1_1, .slice A1_2 l1_2.length c1_2, .slice A1_3 l1_3.length c1_3, .bool a1_4, .bool a1_5], .string a2] w fun e w' => e = .returned (.tuple #[.string r1, .int .i64 r2]) ∧ Below w.heap.size w w' := by
 have HT := Aside0.mk hT
 clear hT
 have hu85 := Tryd.underlying85
 have HR0 := Aside0.mk hr0
 have HC0 := Aside0.mk hc0
 clear hr0 hc0
 have HR1_2 := Aside0.mk hr1_2
 have HC1_2 := Aside0.mk hc1_2
 clear hr1_2 hc1_2
 have HR1_3 := Aside0.mk hr1_3
 have HC1_3 := Aside0.mk hc1_3
 clear hr1_3 hc1_3
 have HB := Aside0.mk (Below.refl w.heap.size w)
 have H : ((rewrite_Valid.f l0 a1_0 a1_1 l1_2 l1_3 a1_4 a1_5).bind fun t186 => (if t186 = true then ((rewrite_letters_isWord.f l0 a2).bind fun t187 => (rewrite_Apply.j0 k l0 a2 (!t187) a1_0 a1_1 l1_2 l1_3 a1_4 a1_5)) else (rewrite_Apply.j0 k l0 a2 true a1_0 a1_1 l1_2 l1_3 a1_4 a1_5))) = some (r1, r2) := h
 clear h
 have HC4 := Aside0.mk H
 clear H
 go_enter Tryd.func86, Tryd.ntmps86
 go_upto_region 1 with (first | ((with_reducible refine gate_dst (N := 4) rfl ?_); refine box_event ?hg (N := 4) ?hd (cs := #[.int .i32 a1_0, .string a1_1, .slice A1_2 l1_2.length c1_2, .slice A1_3 l1_3.length c1_3, .bool a1_4, .bool a1_5]) (t := 85) ?hr ?_; (case hd => rfl); (case hg => rfl); (case hr => exact Gc6); intro gb185 hg w5 hbox hb; have n0_ := Aside0.mk (below_step (tB HB) hb); have n1_ := Aside0.mk (hbox); have n2_ := tZ hg (tS HB); have n3_ := tZ hg (tS HB); revert n0_ n1_ n2_ n3_; clear HB; intro HB BK185 GW185 GE185; clear hb hbox hg))
 (try simp only [Act.put, List.setIfInBounds_toArray, List.set_cons_zero, List.set_cons_succ])
 go_cut [18] (fun v18 wc => ∃ (kq : Nat) (x18_3 : Bool), v18 = .bool x18_3 ∧ Aside0 (rewrite_Apply.j0 kq l0 a2 x18_3 a1_0 a1_1 l1_2 l1_3 a1_4 a1_5 = some (r1, r2)) ∧ Aside0 (kq ≤ k) ∧ Aside0 (wc.heap[gb185]? = some (.cells #[.int .i32 a1_0, .string a1_1, (.slice A1_2 l1_2.length c1_2), (.slice A1_3 l1_3.length c1_3), .bool a1_4, .bool a1_5] 85 (0, 0))) ∧ Aside0 (Below w.heap.size w wc))
 case first =>
  have H := HC4.out
  clear HC4
  replace H := bI H; obtain ⟨t186, A6, H⟩ := H; (try dsimp only at H)
  replace H := iT H; obtain ⟨rfl, H⟩ | ⟨rfl, H⟩ := H
  ·
   replace H := bI H; obtain ⟨t187, A8, H⟩ := H; (try dsimp only at H)
   have H' := Aside0.mk H
   clear H
   obtain ⟨hcz9_0, hcz9_1, hcz9_2, hcz9_3, hcz9_4, hcz9_5, hfz9_0, hfz9_1, hfz9_2, hfz9_3, hfz9_4, hfz9_5⟩ := bx6 BK185
   go_wp2_with (first | ((with_reducible refine gate_callee (f := 48) rfl ?_); refine goesL_ (some 11) rfl rfl Tryd.func48 (by kernel_rfl) rfl #[.slice A0 l0.length c0, .agg #[.int .i32 a1_0, .string a1_1, .slice A1_2 l1_2.length c1_2, .slice A1_3 l1_3.length c1_3, .bool a1_4, .bool a1_5]] rfl Gc2 ?_; (with_reducible refine (rewrite_Valid.calls _ _ l0 a1_0 a1_1 _ _ l1_2 _ _ l1_3 a1_4 a1_5 true _ ?sT (tC HR0 HB) HC0.out (tC HR1_2 HB) HC1_2.out (tC HR1_3 HB) HC1_3.out A6.out).mono ?_); (case sT => exact Gc1); rintro e w10 ⟨rfl, hb⟩; refine ⟨_, rfl, ?_⟩; have n0_ := Aside0.mk (blk_below (tK BK185) hb); have n1_ := Aside0.mk (below_step (tB HB) hb); revert n0_ n1_; clear BK185 HB; intro BK185 HB; (try clear hb); (try clear hb2); (try clear hk); (try clear hi)) | (go_at_call 85; (with_reducible refine (rewrite_letters_isWord.calls _ _ l0 a2 t187 _ ?sT (tC HR0 HB) HC0.out A8.out).mono ?_); (case sT => exact Gc1); rintro e w11 ⟨rfl, hb⟩; have n0_ := Aside0.mk (blk_below (tK BK185) hb); have n1_ := Aside0.mk (below_step (tB HB) hb); revert n0_ n1_; clear BK185 HB; intro BK185 HB; (try clear hb); (try clear hb2); (try clear hk); (try clear hi)))
   go_meet
   case rel => exact ⟨_, (!t187), tV1, H', ⟨tU⟩, ⟨tK BK185⟩, ⟨tB HB⟩⟩
  ·
   have H' := Aside0.mk H
   clear H
   obtain ⟨hcz12_0, hcz12_1, hcz12_2, hcz12_3, hcz12_4, hcz12_5, hfz12_0, hfz12_1, hfz12_2, hfz12_3, hfz12_4, hfz12_5⟩ := bx6 BK185
   go_wp2_with (first | ((with_reducible refine gate_callee (f := 48) rfl ?_); refine goesL_ (some 11) rfl rfl Tryd.func48 (by kernel_rfl) rfl #[.slice A0 l0.length c0, .agg #[.int .i32 a1_0, .string a1_1, .slice A1_2 l1_2.length c1_2, .slice A1_3 l1_3.length c1_3, .bool a1_4, .bool a1_5]] rfl Gc2 ?_; (with_reducible refine (rewrite_Valid.calls _ _ l0 a1_0 a1_1 _ _ l1_2 _ _ l1_3 a1_4 a1_5 false _ ?sT (tC HR0 HB) HC0.out (tC HR1_2 HB) HC1_2.out (tC HR1_3 HB) HC1_3.out A6.out).mono ?_); (case sT => exact Gc1); rintro e w13 ⟨rfl, hb⟩; refine ⟨_, rfl, ?_⟩; have n0_ := Aside0.mk (blk_below (tK BK185) hb); have n1_ := Aside0.mk (below_step (tB HB) hb); revert n0_ n1_; clear BK185 HB; intro BK185 HB; (try clear hb); (try clear hb2); (try clear hk); (try clear hi)))
   go_meet
   case rel => exact ⟨_, (true), tV1, H', ⟨tU⟩, ⟨tK BK185⟩, ⟨tB HB⟩⟩
 case rest =>
  clear HC4
  obtain ⟨kq, x18_3, rfl, HA, HJ3, BK185, HB⟩ := hcut
  cases kq with
  | zero => exact absurd HA.out (by simp [rewrite_Apply.j0])
  | succ kj3 =>
   have H := HA.out
   clear HA
   simp only [rewrite_Apply.j0] at H
   replace H := iT H; obtain ⟨rfl, H⟩ | ⟨rfl, H⟩ := H
   ·
    simp only [Option.some.injEq, Prod.mk.injEq] at H
    obtain ⟨rfl, rfl⟩ := H
    go_wp2
    go_ret2
    exact ⟨tE, by repeat (first | (with_reducible first | exact HB.out | apply below_alloc | apply pw_below_drewN | apply below_drew1 | refine below_set ?_ GE185.out) | exact HB.out)⟩
   ·
    replace H := bI H; obtain ⟨t188, A15, H⟩ := H; (try dsimp only at H)
    replace H := bI H; obtain ⟨t191, A16, H⟩ := H; (try dsimp only at H)
    replace H := bI H; obtain ⟨t192, A17, H⟩ := H; (try dsimp only at H)
    replace H := iF H; obtain ⟨c18, H⟩ | ⟨c18, H⟩ := H
    ·
     have c18b0 : decide (40 < t192) = true := decide_eq_true c18
     exact LPrF86x1
    ·
     have c18b0 : decide (40 < t192) = false := decide_eq_false c18
     exact LPrF86x1
end Go.Proofs.YtfbhdjflkaldgaaDoor.Pr
