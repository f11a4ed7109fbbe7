/- Several texts in one: PrF41, PrF86. -/
import Derived.Test.YtfbhdjflkaldgaaDoorMg1
import Derived.Test.YtfbhdjflkaldgaaDoorMg2
import Derived.Test.YtfbhdjflkaldgaaDoorMg14
import Derived.Test.YtfbhdjflkaldgaaDoorMg10
import Derived.Test.YtfbhdjflkaldgaaDoorMg3
import Derived.Test.YtfbhdjflkaldgaaDoorRewR
import Derived.Test.YtfbhdjflkaldgaaDoorRewS
import Derived.Test.YtfbhdjflkaldgaaDoorMg9

namespace Go.Proofs.YtfbhdjflkaldgaaDoor.Pr
open Go.Proofs.YtfbhdjflkaldgaaDoor.Ct Go.RowKit Go.Proofs.YtfbhdjflkaldgaaDoorW.PrintWords Go.Proofs.YtfbhdjflkaldgaaDoorW.PrintLast Go.Proofs.YtfbhdjflkaldgaaDoorW.PrintMore
attribute [local go_sem] max2_int min2_int max_two min_two max_three min_three max_four min_four
set_option linter.unusedVariables false
set_option linter.unusedSimpArgs false
mutual
def pentaglotref14_Valid.j0 : Nat → List (S80) → List (S85) → Bool → Option (Bool)
 | 0, _, _, _ => none
 | k + 1, x0, x1, x21 => if x21 = true then (some false) else ((pentaglotref14_Extended.f x0).bind fun t354 => (pentaglotref14_Valid.l0 k x1 t354 0))
def pentaglotref14_Valid.l0 : Nat → List (S85) → List (S80) → Int → Option (Bool)
 | 0, _, _, _ => none
 | k + 1, x1, x5, x6 => if x6 < (x1.length : Int) then (if 0 ≤ x6 then ((pentaglotref07_Valid.f k x5 ((rd_T85 x1 x6).f0) ((rd_T85 x1 x6).f1) ((rd_T85 x1 x6).f2) ((rd_T85 x1 x6).f3) ((rd_T85 x1 x6).f4) ((rd_T85 x1 x6).f5)).bind fun t359 => (if t359 = true then (pentaglotref14_Valid.j2 k x1 x5 x6 (((rd_T85 x1 x6).f0) == 61) ((rd_T85 x1 x6).f0) ((rd_T85 x1 x6).f1) ((rd_T85 x1 x6).f2) ((rd_T85 x1 x6).f3) ((rd_T85 x1 x6).f4) ((rd_T85 x1 x6).f5)) else (pentaglotref14_Valid.j2 k x1 x5 x6 true ((rd_T85 x1 x6).f0) ((rd_T85 x1 x6).f1) ((rd_T85 x1 x6).f2) ((rd_T85 x1 x6).f3) ((rd_T85 x1 x6).f4) ((rd_T85 x1 x6).f5)))) else (none)) else (some true)
def pentaglotref14_Valid.j2 : Nat → List (S85) → List (S80) → Int → Bool → Int → ByteArray → List (S82) → List (S82) → Bool → Bool → Option (Bool)
 | 0, _, _, _, _, _, _, _, _, _, _ => none
 | k + 1, x1, x5, x6, x42, x359000, x359001, x359002, x359003, x359004, x359005 => if x42 = true then (some false) else (pentaglotref14_Valid.l1 k x1 x5 x6 0 x359000 x359001 x359002 x359003 x359004 x359005)
def pentaglotref14_Valid.l1 : Nat → List (S85) → List (S80) → Int → Int → Int → ByteArray → List (S82) → List (S82) → Bool → Bool → Option (Bool)
 | 0, _, _, _, _, _, _, _, _, _, _ => none
 | k + 1, x1, x5, x6, x8, x359000, x359001, x359002, x359003, x359004, x359005 => if x8 < (x359001.size : Int) then (if 0 ≤ x8 then (if (bt x359001 x8) = 61 then (some false) else (pentaglotref14_Valid.l1 k x1 x5 x6 (wrap64 (x8 + 1)) x359000 x359001 x359002 x359003 x359004 x359005)) else (none)) else (pentaglotref14_Valid.l0 k x1 x5 (wrap64 (x6 + 1)))
end
def pentaglotref14_Valid.f (k : Nat) (l0 : List (S80)) (l1 : List (S85)) : Option (Bool) := (pentaglotref10_Alphabet.f k l0).bind fun t352 => (if t352 = true then ((pentaglotref07_Index.f k l0 61).bind fun t353 => (if t353 ≥ 0 then (pentaglotref14_Valid.j0 k l0 l1 true) else (pentaglotref14_Valid.j0 k l0 l1 (decide ((l1.length : Int) > 64))))) else (pentaglotref14_Valid.j0 k l0 l1 true))
theorem LPrF41x1 {p : Prop} (h : p := by
  obtain rfl := Option.some.inj H
  go_wp2
  go_ret
  exact ⟨tE, by repeat (first | (with_reducible first | exact HB.out | apply below_alloc | apply pw_below_drewN | apply below_drew1) | exact HB.out)⟩) : p := h
theorem LPrF41x2 {p : Prop} (h : p := by
  go_wp2
  go_ret
  exact ⟨tE, by repeat (first | (with_reducible first | exact HB.out | apply below_alloc | apply pw_below_drewN | apply below_drew1 | refine below_set ?_ GE358.out) | exact HB.out)⟩) : p := h
theorem LPrF41xh1 {p : Prop} (h : p := by
  clear c7
  (first | rw [c7b0] | (simp only [i64_w, i32_w]; rw [c7b0]) | skip)
  have H' := Aside0.mk H
  clear H
  go_wp2_with (first | ((with_reducible refine gate_callee (f := 57) rfl ?_); refine goesL_ (some 10) rfl rfl Tryd.func57 (by kernel_rfl) rfl #[.slice A0 l0.length c0] rfl Gc2 ?_; (with_reducible refine (pentaglotref10_Alphabet.calls k _ _ l0 true _ (tC HR0 HB) HC0.out A4.out).mono ?_); rintro e w' ⟨rfl, ⟨nd, rfl⟩⟩; refine ⟨_, rfl, ?_⟩) | (go_at_call 58; (with_reducible refine (pentaglotref07_Index.calls k _ _ l0 61 t353 _ ?s1 HC0.out A6.out).mono ?_); (case s1 => exact Gc9); rintro e w' ⟨rfl, ⟨nd, rfl⟩⟩))
  go_meet
  first
  | (have mk_ := mk0_
     case rel => exact ⟨_, (decide ((l1.length : Int) > 64)), tV1, H', ⟨tU⟩, ⟨tB HB⟩⟩)
  | (have mk_ := mk1_
     case rel => exact ⟨_, (true), tV1, H', ⟨tU⟩, ⟨tB HB⟩⟩)) : p := h
theorem LPrF41xh2 {p : Prop} (h : p := by
  obtain ⟨z1_, z2_, z3_, z4_, z5_, z6_, z7_, z8_, z9_, z10_, z11_, z12_⟩ := bx6 BK358
  have z13_ : 0 ≤ (x8_4 : Int) := oD
  have z14_ : x8_4 < (((rd_T85 l1 x6_2).f1).size : Int) := oD
  have z15_ := bt_at ((rd_T85 l1 x6_2).f1) x8_4
  replace z13_ := eq_true z13_
  replace z14_ := eq_true z14_
  first
  | (have mk_ := mk0_
     go_wp2
     go_roundg k4
     case measure => have := HJ2.out; have := HK2.out; have := HJ12.out; have := HK4.out; omega
     case rel => exact ⟨(wrap64 (x8_4 + 1)), tV1, H', ⟨by have := HJ2.out; have := HK2.out; have := HJ12.out; have := HK4.out; omega⟩, ⟨dR HO_5⟩, ⟨tK BK358⟩, ⟨tB HB⟩⟩)
  | (have mk_ := mk1_
     exact LPrF41x2)) : p := h
set_option maxHeartbeats 8000000 in
set_option maxRecDepth 100000 in
theorem pentaglotref14_Valid.calls (k : Nat) (A0 : Option Addr) (c0 : Nat) (l0 : List (S80)) (A1 : Option Addr) (c1 : Nat) (l1 : List (S85)) (r : Bool) (w : World) (hT : Tabs w) (hr0 : Kd.C k80 w A0 l0.length l0) (hc0 : l0.length ≤ c0) (hr1 : Kd.C k85 w A1 l1.length l1) (hc1 : l1.length ≤ c1) (h : pentaglotref14_Valid.f k l0 l1 = some r) :
 Calls Tryd.prog 41 #[.slice A0 l0.length c0, .slice A1 l1.length c1] w fun e w' => e = .returned (.bool r) ∧ Below w.heap.size w w' := by
 have HT := Aside0.mk hT
 clear hT
 have hu85 := Tryd.underlying85
 have HR0 := Aside0.mk hr0
 have HC0 := Aside0.mk hc0
 clear hr0 hc0
 have HR1 := Aside0.mk hr1
 have HC1 := Aside0.mk hc1
 clear hr1 hc1
 have HB := Aside0.mk (Below.refl w.heap.size w)
 have H : ((pentaglotref10_Alphabet.f k l0).bind fun t352 => (if t352 = true then ((pentaglotref07_Index.f k l0 61).bind fun t353 => (if t353 ≥ 0 then (pentaglotref14_Valid.j0 k l0 l1 true) else (pentaglotref14_Valid.j0 k l0 l1 (decide ((l1.length : Int) > 64))))) else (pentaglotref14_Valid.j0 k l0 l1 true))) = some r := h
 clear h
 have HC3 := Aside0.mk H
 clear H
 go_enter Tryd.func41, Tryd.ntmps41
 go_upto_region 1 with (fail)
 go_cut [21] (fun v21 wc => ∃ (kq : Nat) (x21_2 : Bool), v21 = .bool x21_2 ∧ Aside0 (pentaglotref14_Valid.j0 kq l0 l1 x21_2 = some r) ∧ Aside0 (kq ≤ k) ∧ Aside0 (Below w.heap.size w wc))
 case first =>
  have H := HC3.out
  clear HC3
  replace H := bI H; obtain ⟨t352, A4, H⟩ := H; (try dsimp only at H)
  replace H := iT H; obtain ⟨rfl, H⟩ | ⟨rfl, H⟩ := H
  ·
   replace H := bI H; obtain ⟨t353, A6, H⟩ := H; (try dsimp only at H)
   replace H := iF H; obtain ⟨c7, H⟩ | ⟨c7, H⟩ := H
   ·
    have c7b0 : decide (0 ≤ t353) = true := decide_eq_true c7
    have mk1_ := trivial
    exact LPrF41xh1
   ·
    have c7b0 : decide (0 ≤ t353) = false := decide_eq_false c7
    have mk0_ := trivial
    exact LPrF41xh1
  ·
   have H' := Aside0.mk H
   clear H
   go_wp2_with (first | ((with_reducible refine gate_callee (f := 57) rfl ?_); refine goesL_ (some 10) rfl rfl Tryd.func57 (by kernel_rfl) rfl #[.slice A0 l0.length c0] rfl Gc2 ?_; (with_reducible refine (pentaglotref10_Alphabet.calls k _ _ l0 false _ (tC HR0 HB) HC0.out A4.out).mono ?_); rintro e w' ⟨rfl, ⟨nd, rfl⟩⟩; refine ⟨_, rfl, ?_⟩))
   go_meet
   case rel => exact ⟨_, (true), tV1, H', ⟨tU⟩, ⟨tB HB⟩⟩
 case rest =>
  clear HC3
  obtain ⟨kq, x21_2, rfl, HA, HJ2, HB⟩ := hcut
  cases kq with
  | zero => exact absurd HA.out (by simp [pentaglotref14_Valid.j0])
  | succ kj2 =>
   have H := HA.out
   clear HA
   simp only [pentaglotref14_Valid.j0] at H
   replace H := iT H; obtain ⟨rfl, H⟩ | ⟨rfl, H⟩ := H
   ·
    exact LPrF41x1
   ·
    replace H := bI H; obtain ⟨t354, A9, H⟩ := H; (try dsimp only at H)
    have H' := Aside0.mk H
    clear H
    go_wp2_with (first | ((with_reducible refine gate_callee (f := 59) rfl ?_); refine goesL_ (some 23) rfl rfl Tryd.func59 (by kernel_rfl) rfl #[.slice A0 l0.length c0] rfl Gc2 ?_; (with_reducible refine (pentaglotref14_Extended.calls _ _ l0 t354 _ (tC HR0 HB) HC0.out A9.out).mono ?_); rintro e w10 ⟨v355, rfl, ho0, hb⟩; refine ⟨_, rfl, ?_⟩; have n0_ := Aside0.mk (Kd.R_lower ho0 (tS HB)); have n1_ := Aside0.mk (below_step (tB HB) hb); revert n0_ n1_; clear HB; intro HO356 HB; (try clear hb); (try clear hb2); (try clear hk); (try clear hi); (try clear ho0)))
    go_loopg [6] kj2 (fun kq v6 w' => ∃ (x6_2 : Int), v6 = .int .i64 x6_2 ∧ Aside0 (pentaglotref14_Valid.l0 kq l1 t354 x6_2 = some r) ∧ Aside0 (kq ≤ kj2) ∧ Aside0 (Kd.R k80 80 w' w.heap.size (fun _ => True) v355 t354) ∧ Aside0 (Below w.heap.size w w'))
    case atStart => exact ⟨(0), tV1, H', ⟨Nat.le_refl _⟩, ⟨dR HO356⟩, ⟨tB HB⟩⟩
    case round =>
     clear H'; (try clear c8)
     obtain ⟨x6_2, rfl, HA, HK2, HO_5, HB⟩ := hrel
     cases gk with
     | zero => exact absurd HA.out (by simp [pentaglotref14_Valid.l0])
     | succ k2 =>
      have H := HA.out
      clear HA
      simp only [pentaglotref14_Valid.l0] at H
      replace H := iF H; obtain ⟨c11, H⟩ | ⟨c11, H⟩ := H
      ·
       have c11b0 : decide (x6_2 < (l1.length : Int)) = true := decide_eq_true c11
       clear c11
       replace H := iF H; obtain ⟨c12, H⟩ | ⟨c12, H⟩ := H
       ·
        have c12b0 : decide (0 ≤ x6_2) = true := decide_eq_true c12
        clear c12
        have HC13 := Aside0.mk H
        clear H
        have p357 : 0 ≤ (x6_2 : Int) := oD
        have q357 : x6_2 < (l1.length : Int) := oD
        obtain ⟨ad357, A357_2, c357_2, A357_3, c357_3, e357, hx357_0, hx357_1, hx357_2, hx357_3, hx357_4, hx357_5, hl357_2, hi357_2, hl357_3, hi357_3⟩ := at_T85 HR1.out x6_2 p357 q357
        cases e357
        replace hx357_0 := celB HB hx357_0
        replace hx357_1 := celB HB hx357_1
        replace hx357_2 := celB HB hx357_2
        replace hx357_3 := celB HB hx357_3
        replace hx357_4 := celB HB hx357_4
        replace hx357_5 := celB HB hx357_5
        have HR357_2 := Aside0.mk hi357_2
        have HC357_2 := Aside0.mk hl357_2
        clear hi357_2 hl357_2
        have HR357_3 := Aside0.mk hi357_3
        have HC357_3 := Aside0.mk hl357_3
        clear hi357_3 hl357_3
        replace p357 := eq_true p357
        replace q357 := eq_true q357
        go_upto_region 8 with (first | ((with_reducible refine gate_dst (N := 7) rfl ?_); (try (refine gate_guard (by rfl) ?_; dsimp only)); refine box_event ?hg (N := 7) ?hd (cs := #[.int .i32 0, .string (⟨#[]⟩ : ByteArray), .slice none 0 0, .slice none 0 0, .bool false, .bool false]) (t := 85) ?hr ?_; (case hd => rfl); (case hg => rfl); (case hr => exact Gc5); intro gb358 hg w14 hbox hb; have n0_ := Aside0.mk (Kd.R_below (dR HO_5) hb); have n1_ := Aside0.mk (below_step (tB HB) hb); have n2_ := Aside0.mk (hbox); have n3_ := tZ hg (tS HB); have n4_ := tZ hg (tS HB); revert n0_ n1_ n2_ n3_ n4_; clear HO_5 HB; intro HO_5 HB BK358 GW358 GE358; clear hb hbox hg; have hcz15_0 := cel2 BK358 0 rfl; have hcz15_1 := cel2 BK358 1 rfl; have hcz15_2 := cel2 BK358 2 rfl; have hcz15_3 := cel2 BK358 3 rfl; have hcz15_4 := cel2 BK358 4 rfl; have hcz15_5 := cel2 BK358 5 rfl; have hfz15_0 := blk_frozen BK358.out 0; have hfz15_1 := blk_frozen BK358.out 1; have hfz15_2 := blk_frozen BK358.out 2; have hfz15_3 := blk_frozen BK358.out 3; have hfz15_4 := blk_frozen BK358.out 4; have hfz15_5 := blk_frozen BK358.out 5))
        (try simp only [Act.put, List.setIfInBounds_toArray, List.set_cons_zero, List.set_cons_succ])
        go_cut [42] (fun v42 wc => ∃ (kq : Nat) (x42_12 : Bool), v42 = .bool x42_12 ∧ Aside0 (pentaglotref14_Valid.j2 kq l1 t354 x6_2 x42_12 ((rd_T85 l1 x6_2).f0) ((rd_T85 l1 x6_2).f1) ((rd_T85 l1 x6_2).f2) ((rd_T85 l1 x6_2).f3) ((rd_T85 l1 x6_2).f4) ((rd_T85 l1 x6_2).f5) = some r) ∧ Aside0 (kq ≤ k2) ∧ Aside0 (Kd.R k80 80 wc w.heap.size (fun _ => True) v355 t354) ∧ Aside0 (wc.heap[gb358]? = some (.cells #[.int .i32 ((rd_T85 l1 x6_2).f0), .string ((rd_T85 l1 x6_2).f1), (.slice A357_2 ((rd_T85 l1 x6_2).f2).length c357_2), (.slice A357_3 ((rd_T85 l1 x6_2).f3).length c357_3), .bool ((rd_T85 l1 x6_2).f4), .bool ((rd_T85 l1 x6_2).f5)] 85 (0, 0))) ∧ Aside0 (Below w.heap.size w wc))
        case first =>
         have H := HC13.out
         clear HC13
         replace H := bI H; obtain ⟨t359, A16, H⟩ := H; (try dsimp only at H)
         replace H := iT H; obtain ⟨rfl, H⟩ | ⟨rfl, H⟩ := H
         ·
          have H' := Aside0.mk H
          clear H
          obtain ⟨hcz18_0, hcz18_1, hcz18_2, hcz18_3, hcz18_4, hcz18_5, hfz18_0, hfz18_1, hfz18_2, hfz18_3, hfz18_4, hfz18_5⟩ := bx6 BK358
          obtain ⟨Ao19, co19, eo19⟩ := Kd.R_slice HO_5.out
          subst eo19
          go_wp2_with (first | ((with_reducible refine gate_callee (f := 60) rfl ?_); refine goesL_ (some 36) rfl rfl Tryd.func60 (by kernel_rfl) rfl #[.slice Ao19 t354.length co19, .agg #[.int .i32 ((rd_T85 l1 x6_2).f0), .string ((rd_T85 l1 x6_2).f1), .slice A357_2 ((rd_T85 l1 x6_2).f2).length c357_2, .slice A357_3 ((rd_T85 l1 x6_2).f3).length c357_3, .bool ((rd_T85 l1 x6_2).f4), .bool ((rd_T85 l1 x6_2).f5)]] rfl Gc2 ?_; (with_reducible refine (pentaglotref07_Valid.calls k2 _ _ t354 ((rd_T85 l1 x6_2).f0) ((rd_T85 l1 x6_2).f1) _ _ ((rd_T85 l1 x6_2).f2) _ _ ((rd_T85 l1 x6_2).f3) ((rd_T85 l1 x6_2).f4) ((rd_T85 l1 x6_2).f5) true _ ?sT ?s1 ?s2 ?s3 HC357_2.out ?s5 HC357_3.out A16.out).mono ?_); (case sT => exact Gc1); (case s1 => refine (Kd.R_reads' (e := 80) (base := w.heap.size) (ok := fun k_ => True) (n := t354.length) (c := co19) ?_).2.2; exact Gc3); (case s2 => exact (Kd.R_reads' HO_5.out).2.1); (case s3 => exact Kd.C_below HR357_2.out (tB HB)); (case s5 => exact Kd.C_below HR357_3.out (tB HB)); rintro e w20 ⟨rfl, hb⟩; refine ⟨_, rfl, ?_⟩; have n0_ := Aside0.mk (Kd.R_below Gc3 hb); have n1_ := Aside0.mk (blk_below (g := gb358) (o := .cells #[.int .i32 ((rd_T85 l1 x6_2).f0), .string ((rd_T85 l1 x6_2).f1), .slice A357_2 ((rd_T85 l1 x6_2).f2).length c357_2, .slice A357_3 ((rd_T85 l1 x6_2).f3).length c357_3, .bool ((rd_T85 l1 x6_2).f4), .bool ((rd_T85 l1 x6_2).f5)] 85 (0, 0)) (tKp BK358) hb); have n2_ := Aside0.mk (below_step (tB HB) hb); revert n0_ n1_ n2_; clear HO_5 BK358 HB; intro HO_5 BK358 HB; (try clear hb); (try clear hb2); (try clear hk); (try clear hi); have hcz21_0 := cel2 BK358 0 rfl; have hcz21_1 := cel2 BK358 1 rfl; have hcz21_2 := cel2 BK358 2 rfl; have hcz21_3 := cel2 BK358 3 rfl; have hcz21_4 := cel2 BK358 4 rfl; have hcz21_5 := cel2 BK358 5 rfl; have hfz21_0 := blk_frozen BK358.out 0; have hfz21_1 := blk_frozen BK358.out 1; have hfz21_2 := blk_frozen BK358.out 2; have hfz21_3 := blk_frozen BK358.out 3; have hfz21_4 := blk_frozen BK358.out 4; have hfz21_5 := blk_frozen BK358.out 5))
          go_meet
          case rel => exact ⟨_, ((((rd_T85 l1 x6_2).f0) == 61)), tV1, H', ⟨by have := HJ2.out; have := HK2.out; first | omega | exact Nat.le_refl _⟩, ⟨dR HO_5⟩, ⟨tK BK358⟩, ⟨tB HB⟩⟩
         ·
          have H' := Aside0.mk H
          clear H
          obtain ⟨hcz22_0, hcz22_1, hcz22_2, hcz22_3, hcz22_4, hcz22_5, hfz22_0, hfz22_1, hfz22_2, hfz22_3, hfz22_4, hfz22_5⟩ := bx6 BK358
          obtain ⟨Ao23, co23, eo23⟩ := Kd.R_slice HO_5.out
          subst eo23
          go_wp2_with (first | ((with_reducible refine gate_callee (f := 60) rfl ?_); refine goesL_ (some 36) rfl rfl Tryd.func60 (by kernel_rfl) rfl #[.slice Ao23 t354.length co23, .agg #[.int .i32 ((rd_T85 l1 x6_2).f0), .string ((rd_T85 l1 x6_2).f1), .slice A357_2 ((rd_T85 l1 x6_2).f2).length c357_2, .slice A357_3 ((rd_T85 l1 x6_2).f3).length c357_3, .bool ((rd_T85 l1 x6_2).f4), .bool ((rd_T85 l1 x6_2).f5)]] rfl Gc2 ?_; (with_reducible refine (pentaglotref07_Valid.calls k2 _ _ t354 ((rd_T85 l1 x6_2).f0) ((rd_T85 l1 x6_2).f1) _ _ ((rd_T85 l1 x6_2).f2) _ _ ((rd_T85 l1 x6_2).f3) ((rd_T85 l1 x6_2).f4) ((rd_T85 l1 x6_2).f5) false _ ?sT ?s1 ?s2 ?s3 HC357_2.out ?s5 HC357_3.out A16.out).mono ?_); (case sT => exact Gc1); (case s1 => refine (Kd.R_reads' (e := 80) (base := w.heap.size) (ok := fun k_ => True) (n := t354.length) (c := co23) ?_).2.2; exact Gc3); (case s2 => exact (Kd.R_reads' HO_5.out).2.1); (case s3 => exact Kd.C_below HR357_2.out (tB HB)); (case s5 => exact Kd.C_below HR357_3.out (tB HB)); rintro e w24 ⟨rfl, hb⟩; refine ⟨_, rfl, ?_⟩; have n0_ := Aside0.mk (Kd.R_below Gc3 hb); have n1_ := Aside0.mk (blk_below (g := gb358) (o := .cells #[.int .i32 ((rd_T85 l1 x6_2).f0), .string ((rd_T85 l1 x6_2).f1), .slice A357_2 ((rd_T85 l1 x6_2).f2).length c357_2, .slice A357_3 ((rd_T85 l1 x6_2).f3).length c357_3, .bool ((rd_T85 l1 x6_2).f4), .bool ((rd_T85 l1 x6_2).f5)] 85 (0, 0)) (tKp BK358) hb); have n2_ := Aside0.mk (below_step (tB HB) hb); revert n0_ n1_ n2_; clear HO_5 BK358 HB; intro HO_5 BK358 HB; (try clear hb); (try clear hb2); (try clear hk); (try clear hi)))
          go_meet
          case rel => exact ⟨_, (true), tV1, H', ⟨by have := HJ2.out; have := HK2.out; first | omega | exact Nat.le_refl _⟩, ⟨dR HO_5⟩, ⟨tK BK358⟩, ⟨tB HB⟩⟩
        case rest =>
         clear HC13; (try clear c8); (try clear c11); (try clear c11b0); (try clear c12); (try clear c12b0); (try clear hcz15_0); (try clear hcz15_1); (try clear hcz15_2); (try clear hcz15_3); (try clear hcz15_4); (try clear hcz15_5); (try clear hfz15_0); (try clear hfz15_1); (try clear hfz15_2); (try clear hfz15_3); (try clear hfz15_4); (try clear hfz15_5); (try clear hx357_0); (try clear hx357_1); (try clear hx357_2); (try clear hx357_3); (try clear hx357_4); (try clear hx357_5); (try clear p357); (try clear q357)
         obtain ⟨kq, x42_12, rfl, HA, HJ12, HO_5, BK358, HB⟩ := hcut
         cases kq with
         | zero => exact absurd HA.out (by simp [pentaglotref14_Valid.j2])
         | succ kj12 =>
          have H := HA.out
          clear HA
          simp only [pentaglotref14_Valid.j2] at H
          replace H := iT H; obtain ⟨rfl, H⟩ | ⟨rfl, H⟩ := H
          ·
           obtain rfl := Option.some.inj H
           exact LPrF41x2
          ·
           have H' := Aside0.mk H
           clear H
           go_wp2
           go_loopg [8] kj12 (fun kq v8 w' => ∃ (x8_4 : Int), v8 = .int .i64 x8_4 ∧ Aside0 (pentaglotref14_Valid.l1 kq l1 t354 x6_2 x8_4 ((rd_T85 l1 x6_2).f0) ((rd_T85 l1 x6_2).f1) ((rd_T85 l1 x6_2).f2) ((rd_T85 l1 x6_2).f3) ((rd_T85 l1 x6_2).f4) ((rd_T85 l1 x6_2).f5) = some r) ∧ Aside0 (kq ≤ kj12) ∧ Aside0 (Kd.R k80 80 w' w.heap.size (fun _ => True) v355 t354) ∧ Aside0 (w'.heap[gb358]? = some (.cells #[.int .i32 ((rd_T85 l1 x6_2).f0), .string ((rd_T85 l1 x6_2).f1), (.slice A357_2 ((rd_T85 l1 x6_2).f2).length c357_2), (.slice A357_3 ((rd_T85 l1 x6_2).f3).length c357_3), .bool ((rd_T85 l1 x6_2).f4), .bool ((rd_T85 l1 x6_2).f5)] 85 (0, 0))) ∧ Aside0 (Below w.heap.size w w'))
           case atStart => exact ⟨(0), tV1, H', ⟨Nat.le_refl _⟩, ⟨dR HO_5⟩, ⟨tK BK358⟩, ⟨tB HB⟩⟩
           case round =>
            clear H'; (try clear c8); (try clear c11); (try clear c11b0); (try clear c12); (try clear c12b0); (try clear c25); (try clear hcz15_0); (try clear hcz15_1); (try clear hcz15_2); (try clear hcz15_3); (try clear hcz15_4); (try clear hcz15_5); (try clear hfz15_0); (try clear hfz15_1); (try clear hfz15_2); (try clear hfz15_3); (try clear hfz15_4); (try clear hfz15_5); (try clear hx357_0); (try clear hx357_1); (try clear hx357_2); (try clear hx357_3); (try clear hx357_4); (try clear hx357_5); (try clear p357); (try clear q357)
            obtain ⟨x8_4, rfl, HA, HK4, HO_5, BK358, HB⟩ := hrel
            cases gk with
            | zero => exact absurd HA.out (by simp [pentaglotref14_Valid.l1])
            | succ k4 =>
             have H := HA.out
             clear HA
             simp only [pentaglotref14_Valid.l1] at H
             replace H := iF H; obtain ⟨c26, H⟩ | ⟨c26, H⟩ := H
             ·
              have c26b0 : decide (x8_4 < (((rd_T85 l1 x6_2).f1).size : Int)) = true := decide_eq_true c26
              clear c26
              replace H := iF H; obtain ⟨c27, H⟩ | ⟨c27, H⟩ := H
              ·
               have c27b0 : decide (0 ≤ x8_4) = true := decide_eq_true c27
               clear c27
               replace H := iE H; obtain ⟨-, c29b0, c29b1, H⟩ | ⟨c29, c29b0, c29b1, H⟩ := H
               ·
                obtain rfl := Option.some.inj H
                have mk1_ := trivial
                exact LPrF41xh2
               ·
                have H' := Aside0.mk H
                clear H
                have mk0_ := trivial
                exact LPrF41xh2
              ·
               exact absurd H (by simp)
             ·
              have c26b0 : decide (x8_4 < (((rd_T85 l1 x6_2).f1).size : Int)) = false := decide_eq_false c26
              clear c26
              have H' := Aside0.mk H
              clear H
              obtain ⟨hcz32_0, hcz32_1, hcz32_2, hcz32_3, hcz32_4, hcz32_5, hfz32_0, hfz32_1, hfz32_2, hfz32_3, hfz32_4, hfz32_5⟩ := bx6 BK358
              go_wp2
              go_roundg k4
              case measure => have := HJ2.out; have := HK2.out; have := HJ12.out; have := HK4.out; omega
              case rel => exact ⟨(wrap64 (x6_2 + 1)), tV1, H', ⟨by have := HJ2.out; have := HK2.out; have := HJ12.out; have := HK4.out; omega⟩, ⟨dR HO_5⟩, ⟨tB HB⟩⟩
       ·
        exact absurd H (by simp)
      ·
       have c11b0 : decide (x6_2 < (l1.length : Int)) = false := decide_eq_false c11
       clear c11
       exact LPrF41x1
def rewrite_Apply.j0 : Nat → List (S80) → ByteArray → Bool → Int → ByteArray → List (S82) → List (S82) → Bool → Bool → Option (ByteArray × Int)
 | 0, _, _, _, _, _, _, _, _, _ => none
 | k + 1, x0, x2, x18, x186000, x186001, x186002, x186003, x186004, x186005 => if x18 = true then (some ((⟨#[]⟩ : ByteArray), 1)) else ((rewrite_Sites.f x0 x186000 x186001 x186002 x186003 x186004 x186005 x2).bind fun t188 => ((rewrite_result.f x186000 x186001 x186002 x186003 x186004 x186005 t188 x2).bind fun t191 => ((utf8_RuneCountInString.f t191).bind fun t192 => (if t192 > 40 then (some ((⟨#[]⟩ : ByteArray), 2)) else (some (t191, 0))))))
def rewrite_Apply.f (k : Nat) (l0 : List (S80)) (a1_0 : Int) (a1_1 : ByteArray) (l1_2 : List (S82)) (l1_3 : List (S82)) (a1_4 : Bool) (a1_5 : Bool) (a2 : ByteArray) : Option (ByteArray × Int) := (rewrite_Valid.f l0 a1_0 a1_1 l1_2 l1_3 a1_4 a1_5).bind fun t186 => (if t186 = true then ((rewrite_letters_isWord.f l0 a2).bind fun t187 => (rewrite_Apply.j0 k l0 a2 (!t187) a1_0 a1_1 l1_2 l1_3 a1_4 a1_5)) else (rewrite_Apply.j0 k l0 a2 true a1_0 a1_1 l1_2 l1_3 a1_4 a1_5))
def rewrite_Apply.T3 : Bool × List (List Nat × List Nat) := (true, [([], []), ([], []), ([], []), ([], []), ([1, 2, 3], [1, 2, 3]), ([], []), ([0, 4, 5, 4], [0, 4, 5]), ([6, 6, 0, 1, 2, 3, 4, 5, 6], [6])])
def rewrite_Apply.B3 : List Nat := [0, 0, 0, 0, 14, 0, 63, 127]
theorem rewrite_Apply.tab3 : rtab .any (opsOf Tryd.f86 3) = rewrite_Apply.T3 := by kernel_rfl
theorem rewrite_Apply.bits3 : waitsOk rewrite_Apply.T3.2 rewrite_Apply.B3 = true := by kernel_rfl
set_option maxRecDepth 1000000 in
theorem LPrF86x1 {p : Prop} (h : p := by
  clear c18
  simp only [Option.some.injEq, Prod.mk.injEq] at H
  obtain ⟨rfl, rfl⟩ := H
  try go_wp2
  have z1_ := Aside0.mk (blk_drew BK185.out)
  have z2_ := Aside0.mk (below_drew1 HB.out)
  revert z1_ z2_
  clear BK185 HB
  intro BK185 HB
  refine start_ (n := 8) (S := fun w' => w'.cell? ⟨gb185, 0, none⟩ = some (.int .i32 a1_0) ∧ w'.cell? ⟨gb185, 1, none⟩ = some (.string a1_1) ∧ w'.cell? ⟨gb185, 2, none⟩ = some (.slice A1_2 l1_2.length c1_2) ∧ w'.cell? ⟨gb185, 3, none⟩ = some (.slice A1_3 l1_3.length c1_3) ∧ w'.cell? ⟨gb185, 4, none⟩ = some (.bool a1_4) ∧ w'.cell? ⟨gb185, 5, none⟩ = some (.bool a1_5)) (ds := []) #[false, false, false, false, false, false, false, false] (by kernel_rfl) rfl rfl ⟨(blk_cell BK185.out 0).trans rfl, (blk_cell BK185.out 1).trans rfl, (blk_cell BK185.out 2).trans rfl, (blk_cell BK185.out 3).trans rfl, (blk_cell BK185.out 4).trans rfl, (blk_cell BK185.out 5).trans rfl⟩ (fun hHeld => ?_); refine with_tabW rewrite_Apply.tab3 rewrite_Apply.bits3 (fun HT_ HW_ => ?_)
  generalize wc.drew = z3_ at BK185 HB hHeld ⊢
  refine pT 1 20 ?_
  refine pT 3 22 ?_
  refine pT 5 24 ?_
  refine tTt 0 19 hHeld ?_
  refine tTt 2 21 hHeld ?_
  refine one_ (i := 4) (N := some 23) #[true, true, true, true, true, true, false, false] rfl rfl (one_of HT_.out (by kernel_rfl)) (by decide) (fun K hK => ?_)
  refine goes_ Tryd.func89 (by kernel_rfl) rfl #[.slice A0 l0.length c0, .agg #[.int .i32 a1_0, .string a1_1, .slice A1_2 l1_2.length c1_2, .slice A1_3 l1_3.length c1_3, .bool a1_4, .bool a1_5], .string a2] (by rfl) rfl rfl Gc2 ?_
  with_reducible refine (rewrite_Sites.calls _ _ l0 a1_0 a1_1 _ _ l1_2 _ _ l1_3 a1_4 a1_5 a2 t188 _ ?sT ?s1 ?s2 ?s3 ?s4 ?s5 ?s6 A15.out).mono ?_
  (case sT => exact Gc1)
  (case s1 => exact tC HR0 HB)
  (case s2 => exact HC0.out)
  (case s3 => exact tC HR1_2 HB)
  (case s4 => exact HC1_2.out)
  (case s5 => exact tC HR1_3 HB)
  (case s6 => exact HC1_3.out)
  rintro e z4_ ⟨z5_, rfl, z6_, hb⟩
  refine ⟨_, rfl, ?_⟩
  have z1_ := Aside0.mk (Kd.R_lower z6_ (tS HB))
  have z2_ := Aside0.mk (blk_below (tK BK185) hb)
  have z7_ := Aside0.mk (below_step (tB HB) hb)
  revert z1_ z2_ z7_
  clear BK185 HB
  intro z8_ BK185 HB
  (try clear hb); (try clear z6_)
  obtain ⟨z9_, z10_, z11_⟩ := Kd.R_slice z8_.out
  (first | subst z11_ | (injection z11_ with f1_ f2_ f3_; have z12_ := f1_.symm; have z13_ := f3_.symm; clear f1_ f2_ f3_; subst z12_; subst z13_))
  refine hK.out _ _ ⟨(blk_cell BK185.out 0).trans rfl, (blk_cell BK185.out 1).trans rfl, (blk_cell BK185.out 2).trans rfl, (blk_cell BK185.out 3).trans rfl, (blk_cell BK185.out 4).trans rfl, (blk_cell BK185.out 5).trans rfl⟩ (fun hHeld => ?_)
  clear hK K
  refine nR 23 ?_
  refine one_ (i := 6) (N := some 25) #[true, true, true, true, true, true, true, false] rfl rfl (one_of HT_.out (by kernel_rfl)) (by decide) (fun K hK => ?_)
  refine goes_ Tryd.func88 (by kernel_rfl) rfl #[.agg #[.int .i32 a1_0, .string a1_1, .slice A1_2 l1_2.length c1_2, .slice A1_3 l1_3.length c1_3, .bool a1_4, .bool a1_5], .slice z9_ t188.length z10_, .string a2] (by rfl) rfl rfl Gc2 ?_
  with_reducible refine (rewrite_result.calls a1_0 a1_1 _ _ l1_2 _ _ l1_3 a1_4 a1_5 _ _ t188 a2 t191 _ (tC HR1_2 HB) HC1_2.out (tC HR1_3 HB) HC1_3.out ?s5 ?s6 A16.out).mono ?_
  (case s5 => repeat (first | exact (Kd.R_reads' z8_.out).2.2 | (with_reducible refine Kd.C_alloc ?_ _) | (with_reducible refine Kd.C_drewN ?_ _) | (with_reducible refine Kd.C_drew ?_)))
  (case s6 => exact (Kd.R_reads' z8_.out).2.1)
  rintro e z14_ ⟨rfl, hb⟩
  refine ⟨_, rfl, ?_⟩
  have z1_ := Aside0.mk (Kd.R_below (dR z8_) hb)
  have z2_ := Aside0.mk (blk_below (tK BK185) hb)
  have z7_ := Aside0.mk (below_step (tB HB) hb)
  revert z1_ z2_ z7_
  clear z8_ BK185 HB
  intro z8_ BK185 HB
  (try clear hb)
  refine hK.out _ _ ⟨(blk_cell BK185.out 0).trans rfl, (blk_cell BK185.out 1).trans rfl, (blk_cell BK185.out 2).trans rfl, (blk_cell BK185.out 3).trans rfl, (blk_cell BK185.out 4).trans rfl, (blk_cell BK185.out 5).trans rfl⟩ (fun hHeld => ?_)
  clear hK K
  refine nR 25 ?_
  refine pT 7 8 ?_
  refine done_ (done_of HT_.out (by kernel_rfl)) ?_
  try go_wp2_with (first | ((with_reducible refine gate_callee (f := 69) rfl ?_); refine goesL_ (some 27) rfl rfl Tryd.func69 (by kernel_rfl) rfl #[.string t191] rfl Gc2 ?_; (with_reducible refine (utf8_RuneCountInString.calls t191 t192 _ A17.out).mono ?_); rintro e z15_ ⟨rfl, hb⟩; refine ⟨_, rfl, ?_⟩; have z1_ := Aside0.mk (Kd.R_below (dR z8_) hb); have z2_ := Aside0.mk (blk_below (tK BK185) hb); have z7_ := Aside0.mk (below_step (tB HB) hb); revert z1_ z2_ z7_; clear z8_ BK185 HB; intro z8_ BK185 HB; (try clear hb); (try clear hb2); (try clear hk); (try clear hi)))
  go_ret2
  exact ⟨tE, by repeat (first | (with_reducible first | exact HB.out | apply below_alloc | apply pw_below_drewN | apply below_drew1 | refine below_set ?_ GE185.out) | exact HB.out)⟩) : p := h
set_option maxHeartbeats 8000000 in
set_option maxRecDepth 100000 in
theorem rewrite_Apply.calls (k : Nat) (A0 : Option Addr) (c0 : Nat) (l0 : List (S80)) (a1_0 : Int) (a1_1 : ByteArray) (A1_2 : Option Addr) (c1_2 : Nat) (l1_2 : List (S82)) (A1_3 : Option Addr) (c1_3 : Nat) (l1_3 : List (S82)) (a1_4 : Bool) (a1_5 : Bool) (a2 : ByteArray) (r1 : ByteArray) (r2 : Int) (w : World) (hT : Tabs w) (hr0 : Kd.C k80 w A0 l0.length l0) (hc0 : l0.length ≤ c0) (hr1_2 : Kd.C k82 w A1_2 l1_2.length l1_2) (hc1_2 : l1_2.length ≤ c1_2) (hr1_3 : Kd.C k82 w A1_3 l1_3.length l1_3) (hc1_3 : l1_3.length ≤ c1_3) (h : rewrite_Apply.f k l0 a1_0 a1_1 l1_2 l1_3 a1_4 a1_5 a2 = some (r1, r2)) :
 Calls Tryd.prog 86 #[.slice A0 l0.length c0, .agg #[.int .i32 a1_0, .string a1_1, .slice A1_2 l1_2.length c1_2, .slice A1_3 l1_3.length c1_3, .bool a1_4, .bool a1_5], .string a2] w fun e w' => e = .returned (.tuple #[.string r1, .int .i64 r2]) ∧ Below w.heap.size w w' := by
 have HT := Aside0.mk hT
 clear hT
 have hu85 := Tryd.underlying85
 have HR0 := Aside0.mk hr0
 have HC0 := Aside0.mk hc0
 clear hr0 hc0
 have HR1_2 := Aside0.mk hr1_2
 have HC1_2 := Aside0.mk hc1_2
 clear hr1_2 hc1_2
 have HR1_3 := Aside0.mk hr1_3
 have HC1_3 := Aside0.mk hc1_3
 clear hr1_3 hc1_3
 have HB := Aside0.mk (Below.refl w.heap.size w)
 have H : ((rewrite_Valid.f l0 a1_0 a1_1 l1_2 l1_3 a1_4 a1_5).bind fun t186 => (if t186 = true then ((rewrite_letters_isWord.f l0 a2).bind fun t187 => (rewrite_Apply.j0 k l0 a2 (!t187) a1_0 a1_1 l1_2 l1_3 a1_4 a1_5)) else (rewrite_Apply.j0 k l0 a2 true a1_0 a1_1 l1_2 l1_3 a1_4 a1_5))) = some (r1, r2) := h
 clear h
 have HC4 := Aside0.mk H
 clear H
 go_enter Tryd.func86, Tryd.ntmps86
 go_upto_region 1 with (first | ((with_reducible refine gate_dst (N := 4) rfl ?_); refine box_event ?hg (N := 4) ?hd (cs := #[.int .i32 a1_0, .string a1_1, .slice A1_2 l1_2.length c1_2, .slice A1_3 l1_3.length c1_3, .bool a1_4, .bool a1_5]) (t := 85) ?hr ?_; (case hd => rfl); (case hg => rfl); (case hr => exact Gc5); intro gb185 hg w5 hbox hb; have n0_ := Aside0.mk (below_step (tB HB) hb); have n1_ := Aside0.mk (hbox); have n2_ := tZ hg (tS HB); have n3_ := tZ hg (tS HB); revert n0_ n1_ n2_ n3_; clear HB; intro HB BK185 GW185 GE185; clear hb hbox hg))
 (try simp only [Act.put, List.setIfInBounds_toArray, List.set_cons_zero, List.set_cons_succ])
 go_cut [18] (fun v18 wc => ∃ (kq : Nat) (x18_3 : Bool), v18 = .bool x18_3 ∧ Aside0 (rewrite_Apply.j0 kq l0 a2 x18_3 a1_0 a1_1 l1_2 l1_3 a1_4 a1_5 = some (r1, r2)) ∧ Aside0 (kq ≤ k) ∧ Aside0 (wc.heap[gb185]? = some (.cells #[.int .i32 a1_0, .string a1_1, (.slice A1_2 l1_2.length c1_2), (.slice A1_3 l1_3.length c1_3), .bool a1_4, .bool a1_5] 85 (0, 0))) ∧ Aside0 (Below w.heap.size w wc))
 case first =>
  have H := HC4.out
  clear HC4
  replace H := bI H; obtain ⟨t186, A6, H⟩ := H; (try dsimp only at H)
  replace H := iT H; obtain ⟨rfl, H⟩ | ⟨rfl, H⟩ := H
  ·
   replace H := bI H; obtain ⟨t187, A8, H⟩ := H; (try dsimp only at H)
   have H' := Aside0.mk H
   clear H
   obtain ⟨hcz9_0, hcz9_1, hcz9_2, hcz9_3, hcz9_4, hcz9_5, hfz9_0, hfz9_1, hfz9_2, hfz9_3, hfz9_4, hfz9_5⟩ := bx6 BK185
   go_wp2_with (first | ((with_reducible refine gate_callee (f := 48) rfl ?_); refine goesL_ (some 11) rfl rfl Tryd.func48 (by kernel_rfl) rfl #[.slice A0 l0.length c0, .agg #[.int .i32 a1_0, .string a1_1, .slice A1_2 l1_2.length c1_2, .slice A1_3 l1_3.length c1_3, .bool a1_4, .bool a1_5]] rfl Gc2 ?_; (with_reducible refine (rewrite_Valid.calls _ _ l0 a1_0 a1_1 _ _ l1_2 _ _ l1_3 a1_4 a1_5 true _ ?sT (tC HR0 HB) HC0.out (tC HR1_2 HB) HC1_2.out (tC HR1_3 HB) HC1_3.out A6.out).mono ?_); (case sT => exact Gc1); rintro e w10 ⟨rfl, hb⟩; refine ⟨_, rfl, ?_⟩; have n0_ := Aside0.mk (blk_below (tK BK185) hb); have n1_ := Aside0.mk (below_step (tB HB) hb); revert n0_ n1_; clear BK185 HB; intro BK185 HB; (try clear hb); (try clear hb2); (try clear hk); (try clear hi)) | (go_at_call 85; (with_reducible refine (rewrite_letters_isWord.calls _ _ l0 a2 t187 _ ?sT (tC HR0 HB) HC0.out A8.out).mono ?_); (case sT => exact Gc1); rintro e w11 ⟨rfl, hb⟩; have n0_ := Aside0.mk (blk_below (tK BK185) hb); have n1_ := Aside0.mk (below_step (tB HB) hb); revert n0_ n1_; clear BK185 HB; intro BK185 HB; (try clear hb); (try clear hb2); (try clear hk); (try clear hi)))
   go_meet
   case rel => exact ⟨_, (!t187), tV1, H', ⟨tU⟩, ⟨tK BK185⟩, ⟨tB HB⟩⟩
  ·
   have H' := Aside0.mk H
   clear H
   obtain ⟨hcz12_0, hcz12_1, hcz12_2, hcz12_3, hcz12_4, hcz12_5, hfz12_0, hfz12_1, hfz12_2, hfz12_3, hfz12_4, hfz12_5⟩ := bx6 BK185
   go_wp2_with (first | ((with_reducible refine gate_callee (f := 48) rfl ?_); refine goesL_ (some 11) rfl rfl Tryd.func48 (by kernel_rfl) rfl #[.slice A0 l0.length c0, .agg #[.int .i32 a1_0, .string a1_1, .slice A1_2 l1_2.length c1_2, .slice A1_3 l1_3.length c1_3, .bool a1_4, .bool a1_5]] rfl Gc2 ?_; (with_reducible refine (rewrite_Valid.calls _ _ l0 a1_0 a1_1 _ _ l1_2 _ _ l1_3 a1_4 a1_5 false _ ?sT (tC HR0 HB) HC0.out (tC HR1_2 HB) HC1_2.out (tC HR1_3 HB) HC1_3.out A6.out).mono ?_); (case sT => exact Gc1); rintro e w13 ⟨rfl, hb⟩; refine ⟨_, rfl, ?_⟩; have n0_ := Aside0.mk (blk_below (tK BK185) hb); have n1_ := Aside0.mk (below_step (tB HB) hb); revert n0_ n1_; clear BK185 HB; intro BK185 HB; (try clear hb); (try clear hb2); (try clear hk); (try clear hi)))
   go_meet
   case rel => exact ⟨_, (true), tV1, H', ⟨tU⟩, ⟨tK BK185⟩, ⟨tB HB⟩⟩
 case rest =>
  clear HC4
  obtain ⟨kq, x18_3, rfl, HA, HJ3, BK185, HB⟩ := hcut
  cases kq with
  | zero => exact absurd HA.out (by simp [rewrite_Apply.j0])
  | succ kj3 =>
   have H := HA.out
   clear HA
   simp only [rewrite_Apply.j0] at H
   replace H := iT H; obtain ⟨rfl, H⟩ | ⟨rfl, H⟩ := H
   ·
    simp only [Option.some.injEq, Prod.mk.injEq] at H
    obtain ⟨rfl, rfl⟩ := H
    go_wp2
    go_ret2
    exact ⟨tE, by repeat (first | (with_reducible first | exact HB.out | apply below_alloc | apply pw_below_drewN | apply below_drew1 | refine below_set ?_ GE185.out) | exact HB.out)⟩
   ·
    replace H := bI H; obtain ⟨t188, A15, H⟩ := H; (try dsimp only at H)
    replace H := bI H; obtain ⟨t191, A16, H⟩ := H; (try dsimp only at H)
    replace H := bI H; obtain ⟨t192, A17, H⟩ := H; (try dsimp only at H)
    replace H := iF H; obtain ⟨c18, H⟩ | ⟨c18, H⟩ := H
    ·
     have c18b0 : decide (40 < t192) = true := decide_eq_true c18
     exact LPrF86x1
    ·
     have c18b0 : decide (40 < t192) = false := decide_eq_false c18
     exact LPrF86x1
end Go.Proofs.YtfbhdjflkaldgaaDoor.Pr
