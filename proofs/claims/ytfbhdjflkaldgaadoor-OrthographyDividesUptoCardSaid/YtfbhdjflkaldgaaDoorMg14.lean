/- Several texts in one: PrF57, PrF59, PrF76, PrF77, PrF60. -/
import Derived.Test.YtfbhdjflkaldgaaDoorMg1
import Derived.Test.YtfbhdjflkaldgaaDoorMg2
import Derived.Test.YtfbhdjflkaldgaaDoorMg13
import Derived.Test.YtfbhdjflkaldgaaDoorMg10
import Derived.Test.YtfbhdjflkaldgaaDoorMg9
import Derived.Test.YtfbhdjflkaldgaaDoorMg3

namespace Go.Proofs.YtfbhdjflkaldgaaDoor.Pr
open Go.Proofs.YtfbhdjflkaldgaaDoor.Ct Go.RowKit Go.Proofs.YtfbhdjflkaldgaaDoorW.PrintWords Go.Proofs.YtfbhdjflkaldgaaDoorW.PrintLast Go.Proofs.YtfbhdjflkaldgaaDoorW.PrintMore
attribute [local go_sem] max2_int min2_int max_two min_two max_three min_three max_four min_four
set_option linter.unusedVariables false
set_option linter.unusedSimpArgs false
def pentaglotref10_Alphabet.f (k : Nat) (l0 : List (S80)) : Option (Bool) := if (l0.length : Int) ≥ 1 then (if (l0.length : Int) ≤ 64 then ((pentaglotref06_Proper.f k l0).bind fun t320 => (some t320)) else (some false)) else (some false)
theorem LPrF57x1 {p : Prop} (h : p := by
  obtain rfl := Option.some.inj H
  go_enter Tryd.func57, Tryd.ntmps57
  go_wp2
  go_ret
  exact ⟨by first | rfl | (simp; done) | (simp [*]; done), by repeat (first | exact Drawn0.refl _ | apply Drawn0.step)⟩) : p := h
set_option maxHeartbeats 8000000 in
set_option maxRecDepth 100000 in
theorem pentaglotref10_Alphabet.calls (k : Nat) (A0 : Option Addr) (c0 : Nat) (l0 : List (S80)) (r : Bool) (w : World) (hr0 : Kd.C k80 w A0 l0.length l0) (hc0 : l0.length ≤ c0) (h : pentaglotref10_Alphabet.f k l0 = some r) :
 Calls Tryd.prog 57 #[.slice A0 l0.length c0] w fun e w' => e = .returned (.bool r) ∧ Drawn0 w w' := by
 have HR0 := Aside0.mk hr0
 have HC0 := Aside0.mk hc0
 clear hr0 hc0
 have H : (if (l0.length : Int) ≥ 1 then (if (l0.length : Int) ≤ 64 then ((pentaglotref06_Proper.f k l0).bind fun t320 => (some t320)) else (some false)) else (some false)) = some r := h
 clear h
 replace H := iF H; obtain ⟨c2, H⟩ | ⟨c2, H⟩ := H
 ·
  have c2b0 : decide (1 ≤ (l0.length : Int)) = true := decide_eq_true c2
  have c2b1 : decide (1 ≤ l0.length) = true := decide_eq_true (by omega)
  clear c2
  replace H := iF H; obtain ⟨c3, H⟩ | ⟨c3, H⟩ := H
  ·
   have c3b0 : decide ((l0.length : Int) ≤ 64) = true := decide_eq_true c3
   have c3b1 : decide (l0.length ≤ 64) = true := decide_eq_true (by omega)
   clear c3
   replace H := bI H; obtain ⟨t320, A4, H⟩ := H; (try dsimp only at H)
   obtain rfl := Option.some.inj H
   go_enter Tryd.func57, Tryd.ntmps57
   go_wp2_with (first | (go_at_call 74; (with_reducible refine (pentaglotref06_Proper.calls k _ _ l0 t320 _ ?s1 HC0.out A4.out).mono ?_); (case s1 => exact Gc6); rintro e w' ⟨rfl, ⟨nd, rfl⟩⟩))
   go_ret
   exact ⟨by first | rfl | (simp; done) | (simp [*]; done), by repeat (first | exact Drawn0.refl _ | apply Drawn0.step)⟩
  ·
   have c3b0 : decide ((l0.length : Int) ≤ 64) = false := decide_eq_false c3
   have c3b1 : decide (l0.length ≤ 64) = false := decide_eq_false (by omega)
   clear c3
   exact LPrF57x1
 ·
  have c2b0 : decide (1 ≤ (l0.length : Int)) = false := decide_eq_false c2
  have c2b1 : decide (1 ≤ l0.length) = false := decide_eq_false (by omega)
  clear c2
  exact LPrF57x1
def pentaglotref14_Extended.f (l0 : List (S80)) : Option ((List (S80))) := (some (([] : List (S80)) : List (S80))).bind fun y322 => (if y322.length + l0.length < 17592186044416 then ((some (y322 ++ l0 : List (S80))).bind fun y325 => (if y325.length < 17592186044416 then (some (y325 ++ [(⟨61, 2147483648⟩ : S80)])) else (none))) else (none))
set_option maxHeartbeats 8000000 in
set_option maxRecDepth 100000 in
theorem pentaglotref14_Extended.calls (A0 : Option Addr) (c0 : Nat) (l0 : List (S80)) (r : List (S80)) (w : World) (hr0 : Kd.C k80 w A0 l0.length l0) (hc0 : l0.length ≤ c0) (h : pentaglotref14_Extended.f l0 = some r) :
 Calls Tryd.prog 59 #[.slice A0 l0.length c0] w fun e w' => ∃ v0_ : Value, e = .returned (v0_) ∧ Kd.R k80 80 w' w.heap.size (fun _ => True) v0_ r ∧ Below w.heap.size w w' := by
 have hu80 := Tryd.underlying80
 have HR0 := Aside0.mk hr0
 have HC0 := Aside0.mk hc0
 clear hr0 hc0
 have HB := Aside0.mk (Below.refl w.heap.size w)
 have H : ((some (([] : List (S80)) : List (S80))).bind fun y322 => (if y322.length + l0.length < 17592186044416 then ((some (y322 ++ l0 : List (S80))).bind fun y325 => (if y325.length < 17592186044416 then (some (y325 ++ [(⟨61, 2147483648⟩ : S80)])) else (none))) else (none))) = some r := h
 clear h
 obtain ⟨y322, hy322⟩ : ∃ y_ : List (S80), y_ = (([] : List (S80))) := ⟨_, rfl⟩
 replace H : (if y322.length + l0.length < 17592186044416 then ((some (y322 ++ l0 : List (S80))).bind fun y325 => (if y325.length < 17592186044416 then (some (y325 ++ [(⟨61, 2147483648⟩ : S80)])) else (none))) else (none)) = some r := by first | (rw [hy322]; with_reducible exact H) | (have H2_ := (Option.bind_some _ _).symm.trans H; rw [hy322]; with_reducible exact H2_) | (have H2_ := (Option.bind_some _ _).symm.trans H; with_reducible exact H2_) | with_reducible exact H | (rw [hy322]; exact H) | exact H
 have Ny322 := Aside0.mk hy322
 clear hy322
 replace H := iF H; obtain ⟨c2, H⟩ | ⟨c2, H⟩ := H
 ·
  have LMc2 := Aside0.mk c2
  clear c2
  obtain ⟨y325, hy325⟩ : ∃ y_ : List (S80), y_ = (y322 ++ l0) := ⟨_, rfl⟩
  replace H : (if y325.length < 17592186044416 then (some (y325 ++ [(⟨61, 2147483648⟩ : S80)])) else (none)) = some r := by first | (rw [hy325]; with_reducible exact H) | (have H2_ := (Option.bind_some _ _).symm.trans H; rw [hy325]; with_reducible exact H2_) | (have H2_ := (Option.bind_some _ _).symm.trans H; with_reducible exact H2_) | with_reducible exact H | (rw [hy325]; exact H) | exact H
  have Ny325 := Aside0.mk hy325
  clear hy325
  replace H := iF H; obtain ⟨c3, H⟩ | ⟨c3, H⟩ := H
  ·
   have LMc3 := Aside0.mk c3
   clear c3
   obtain ⟨y328, hy328⟩ : ∃ y_ : List (S80), y_ = (y325 ++ [(⟨61, 2147483648⟩ : S80)]) := ⟨_, rfl⟩
   replace H : (some y328) = some r := by first | (rw [hy328]; with_reducible exact H) | (have H2_ := (Option.bind_some _ _).symm.trans H; rw [hy328]; with_reducible exact H2_) | (have H2_ := (Option.bind_some _ _).symm.trans H; with_reducible exact H2_) | with_reducible exact H | (rw [hy328]; exact H) | exact H
   have Ny328 := Aside0.mk hy328
   clear hy328
   obtain rfl := Option.some.inj H
   go_enter Tryd.func59, Tryd.ntmps59
   go_wp2_with (first | ((with_reducible refine gate_dst (N := 3) rfl ?_); refine Kd.R_lit k80 _ 80 ?hg (N := 3) ?hd (xs := ([] : List (S80))) (inner := []) (ok := fun _ => True) (okp := fun _ => True) ?hr ?hp (fun _ hk => hk) trivial (Below.refl _ _) (Nat.le_refl _) (by simp) ?_; (case hd => rfl); (case hg => rfl); (case hr => exact Gc5); (case hp => exact (Reps.none _ _)); intro v323 w4 ho5 hb hg_ hnew_; clear hg_ hnew_; (first | rw [← Ny322.out] at ho5 | (simp only [Int.reduceToNat] at ho5; rw [← Ny322.out] at ho5)); have n0_ := Aside0.mk (Kd.R_lower ho5 (tS HB)); have n1_ := Aside0.mk (below_step (tB HB) hb); revert n0_ n1_; clear HB; intro HO324 HB; clear hb ho5) | ((with_reducible refine gate_builtin (b := .append) (xs := #[.tmp 3, .tmp 4]) rfl ?_); at_builtin; refine Kd.R_append_rows k80 (w0 := w) w.heap.size rfl (.tmp 3) (.tmp 4) 22 80 (.agg #[(.int .i32 0), (.int .u32 0)]) 8 rfl Tryd.underlying22 info80 rfl (by decide) (by omega) v323 y322 l0 _ _ _ (fun _ => True) (fun _ => False) rfl rfl ?aO ?aR (fun _ _ h => h) (fun _ h => h.elim) ?aF ?aB ?aS ?aL ?_; (case aR => exact tC HR0 HB); (case aB => exact (tB HB)); (case aF => exact Gc22); (case aO => exact (dR HO324)); (case aS => exact (tS HB)); (case aL => have := LMc2.out; omega); intro v326 w6 ho hb hg hat; rw [← Ny325.out] at ho; have n0_ := Aside0.mk (hb); have n1_ := Aside0.mk (ho); revert n0_ n1_; clear HB HO324; intro HB HO327; clear ho hb hg hat) | ((with_reducible refine gate_builtin (b := .append) (xs := #[.tmp 5, .tmp 7]) rfl ?_); at_builtin; refine Kd.R_append k80 (w0 := w) w.heap.size rfl (.tmp 5) (.tmp 7) 22 80 (.agg #[(.int .i32 0), (.int .u32 0)]) 8 rfl Tryd.underlying22 info80 rfl (by decide) (by omega) v326 y325 (⟨61, 2147483648⟩ : S80) [.int .i32 61, .int .u32 2147483648] (fun _ => True) (fun _ => False) rfl rfl ?aP (fun _ hk => hk.elim) ?aF ?aO ?aB ?aS ?aL ?_; (case aP => exact k80_mkM _ _ _ (⟨61, 2147483648⟩ : S80)); (case aB => exact (tB HB)); (case aF => exact Gc22); (case aO => exact (dR HO327)); (case aS => exact (tS HB)); (case aL => have := LMc3.out; omega); intro v329 w7 ho hb hg hat; rw [← Ny328.out] at ho; have n0_ := Aside0.mk (hb); have n1_ := Aside0.mk (ho); revert n0_ n1_; clear HB HO327; intro HB HO330; clear ho hb hg hat))
   go_ret
   exact ⟨_, tE, by (with_reducible repeat (first | apply Kd.R_alloc | apply Kd.R_drewN | apply Kd.R_drew)); exact HO330.out, by repeat (first | (with_reducible first | exact HB.out | apply below_alloc | apply pw_below_drewN | apply below_drew1) | exact HB.out)⟩
  ·
   exact absurd H (by simp)
 ·
  exact absurd H (by simp)
def pentaglotref07_Admissible.l0 : Nat → List (S80) → Int → Option (Bool)
 | 0, _, _ => none
 | k + 1, x0, x3 => if x3 < (x0.length : Int) then (if 0 ≤ x3 then (if ((rd_T80 x0 x3).f0) ≤ 32 then (some false) else ((utf8_ValidRune.f k ((rd_T80 x0 x3).f0)).bind fun t333 => (if t333 = true then ((pentaglotref07_Index.f k x0 ((rd_T80 x0 x3).f0)).bind fun t335 => (if t335 = x3 then (pentaglotref07_Admissible.l0 k x0 (wrap64 (x3 + 1))) else (some false))) else (some false)))) else (none)) else (if (x0.length : Int) ≥ 1 then (some (decide ((x0.length : Int) ≤ 65))) else (some false))
def pentaglotref07_Admissible.f (k : Nat) (l0 : List (S80)) : Option (Bool) := pentaglotref07_Admissible.l0 k l0 0
theorem LPrF76x1 {p : Prop} (h : p := by
  clear c9
  obtain rfl := Option.some.inj H
  go_wp2
  go_ret
  exact ⟨by first | rfl | (simp; done) | (simp [*]; done), by repeat (first | exact Drawn0.refl _ | apply Drawn0.step)⟩) : p := h
theorem LPrF76xh1 {p : Prop} (h : p := by
  have z1_ : 0 ≤ (x3_1 : Int) := oD
  have z2_ : x3_1 < (l0.length : Int) := oD
  obtain ⟨z3_, z4_, z5_, z6_⟩ := at_T80 HR0.out x3_1 z1_ z2_
  cases z4_
  replace z1_ := eq_true z1_
  replace z2_ := eq_true z2_
  have z7_ : 0 ≤ (x3_1 : Int) := oD
  have z8_ : x3_1 < (l0.length : Int) := oD
  obtain ⟨z9_, z10_, z11_, z12_⟩ := at_T80 HR0.out x3_1 z7_ z8_
  obtain rfl : z3_ = z9_ := (by injection z10_)
  replace z7_ := eq_true z7_
  replace z8_ := eq_true z8_
  go_wp2_with (first | (go_at_call 63; (with_reducible refine (utf8_ValidRune.calls k1 ((rd_T80 l0 x3_1).f0) true _ A5.out).mono ?_); rintro e w' ⟨rfl, ⟨nd, rfl⟩⟩; have z13_ : 0 ≤ (x3_1 : Int) := oD; have z14_ : x3_1 < (l0.length : Int) := oD; obtain ⟨z15_, z16_, z17_, z18_⟩ := at_T80 HR0.out x3_1 z13_ z14_; obtain rfl : z3_ = z15_ := (by injection z16_); replace z13_ := eq_true z13_; replace z14_ := eq_true z14_) | (go_at_call 58; (with_reducible refine (pentaglotref07_Index.calls k1 _ _ l0 ((rd_T80 l0 x3_1).f0) t335 _ ?s1 HC0.out A7.out).mono ?_); (case s1 => exact Gc6); rintro e w' ⟨rfl, ⟨nd, rfl⟩⟩))
  first
  | (have mk_ := mk0_
     go_roundg k1
     case measure => have := HK1.out; omega
     case rel => exact ⟨(wrap64 (x3_1 + 1)), tV1, H', ⟨by have := HK1.out; omega⟩, by repeat (first | exact Drawn0.refl _ | apply Drawn0.step)⟩)
  | (have mk_ := mk1_
     go_ret
     exact ⟨by first | rfl | (simp; done) | (simp [*]; done), by repeat (first | exact Drawn0.refl _ | apply Drawn0.step)⟩)) : p := h
set_option maxHeartbeats 8000000 in
set_option maxRecDepth 100000 in
theorem pentaglotref07_Admissible.calls (k : Nat) (A0 : Option Addr) (c0 : Nat) (l0 : List (S80)) (r : Bool) (w : World) (hr0 : Kd.C k80 w A0 l0.length l0) (hc0 : l0.length ≤ c0) (h : pentaglotref07_Admissible.f k l0 = some r) :
 Calls Tryd.prog 76 #[.slice A0 l0.length c0] w fun e w' => e = .returned (.bool r) ∧ Drawn0 w w' := by
 have HR0 := Aside0.mk hr0
 have HC0 := Aside0.mk hc0
 clear hr0 hc0
 have H : (pentaglotref07_Admissible.l0 k l0 0) = some r := h
 clear h
 have H' := Aside0.mk H
 clear H
 go_enter Tryd.func76, Tryd.ntmps76
 go_wp2
 go_loopg [3] k (fun kq v3 w' => ∃ (x3_1 : Int), v3 = .int .i64 x3_1 ∧ Aside0 (pentaglotref07_Admissible.l0 kq l0 x3_1 = some r) ∧ Aside0 (kq ≤ k) ∧ Drawn0 w w')
 case atStart => exact ⟨(0), tV1, H', ⟨Nat.le_refl _⟩, by repeat (first | exact Drawn0.refl _ | apply Drawn0.step)⟩
 case round =>
  clear H'
  obtain ⟨x3_1, rfl, HA, HK1, ⟨m1, rfl⟩⟩ := hrel
  cases gk with
  | zero => exact absurd HA.out (by simp [pentaglotref07_Admissible.l0])
  | succ k1 =>
   have H := HA.out
   clear HA
   simp only [pentaglotref07_Admissible.l0] at H
   replace H := iF H; obtain ⟨c2, H⟩ | ⟨c2, H⟩ := H
   ·
    have c2b0 : decide (x3_1 < (l0.length : Int)) = true := decide_eq_true c2
    clear c2
    replace H := iF H; obtain ⟨c3, H⟩ | ⟨c3, H⟩ := H
    ·
     have c3b0 : decide (0 ≤ x3_1) = true := decide_eq_true c3
     clear c3
     replace H := iF H; obtain ⟨c4, H⟩ | ⟨c4, H⟩ := H
     ·
      have c4b0 : decide (((rd_T80 l0 x3_1).f0) ≤ 32) = true := decide_eq_true c4
      clear c4
      obtain rfl := Option.some.inj H
      have p331 : 0 ≤ (x3_1 : Int) := oD
      have q331 : x3_1 < (l0.length : Int) := oD
      obtain ⟨ad331, e331, hx331_0, hx331_1⟩ := at_T80 HR0.out x3_1 p331 q331
      cases e331
      replace p331 := eq_true p331
      replace q331 := eq_true q331
      go_wp2
      go_ret
      exact ⟨by first | rfl | (simp; done) | (simp [*]; done), by repeat (first | exact Drawn0.refl _ | apply Drawn0.step)⟩
     ·
      have c4b0 : decide (((rd_T80 l0 x3_1).f0) ≤ 32) = false := decide_eq_false c4
      clear c4
      replace H := bI H; obtain ⟨t333, A5, H⟩ := H; (try dsimp only at H)
      replace H := iT H; obtain ⟨rfl, H⟩ | ⟨rfl, H⟩ := H
      ·
       replace H := bI H; obtain ⟨t335, A7, H⟩ := H; (try dsimp only at H)
       replace H := iE H; obtain ⟨-, c8b0, c8b1, H⟩ | ⟨c8, c8b0, c8b1, H⟩ := H
       ·
        have H' := Aside0.mk H
        clear H
        have mk0_ := trivial
        exact LPrF76xh1
       ·
        obtain rfl := Option.some.inj H
        have mk1_ := trivial
        exact LPrF76xh1
      ·
       obtain rfl := Option.some.inj H
       have p331 : 0 ≤ (x3_1 : Int) := oD
       have q331 : x3_1 < (l0.length : Int) := oD
       obtain ⟨ad331, e331, hx331_0, hx331_1⟩ := at_T80 HR0.out x3_1 p331 q331
       cases e331
       replace p331 := eq_true p331
       replace q331 := eq_true q331
       have p332 : 0 ≤ (x3_1 : Int) := oD
       have q332 : x3_1 < (l0.length : Int) := oD
       obtain ⟨ad332, e332, hx332_0, hx332_1⟩ := at_T80 HR0.out x3_1 p332 q332
       obtain rfl : ad331 = ad332 := (by injection e332)
       replace p332 := eq_true p332
       replace q332 := eq_true q332
       go_wp2_with (first | (go_at_call 63; (with_reducible refine (utf8_ValidRune.calls k1 ((rd_T80 l0 x3_1).f0) false _ A5.out).mono ?_); rintro e w' ⟨rfl, ⟨nd, rfl⟩⟩))
       go_ret
       exact ⟨by first | rfl | (simp; done) | (simp [*]; done), by repeat (first | exact Drawn0.refl _ | apply Drawn0.step)⟩
    ·
     exact absurd H (by simp)
   ·
    have c2b0 : decide (x3_1 < (l0.length : Int)) = false := decide_eq_false c2
    clear c2
    replace H := iF H; obtain ⟨c9, H⟩ | ⟨c9, H⟩ := H
    ·
     have c9b0 : decide (1 ≤ (l0.length : Int)) = true := decide_eq_true c9
     have c9b1 : decide (1 ≤ l0.length) = true := decide_eq_true (by omega)
     exact LPrF76x1
    ·
     have c9b0 : decide (1 ≤ (l0.length : Int)) = false := decide_eq_false c9
     have c9b1 : decide (1 ≤ l0.length) = false := decide_eq_false (by omega)
     exact LPrF76x1
def pentaglotref07_pattern.l0 : Nat → List (S80) → List (S82) → Int → Option (Bool)
 | 0, _, _, _ => none
 | k + 1, x0, x1, x5 => if x5 < (x1.length : Int) then (if 0 ≤ x5 then ((pentaglotref07_Letters.f x0 ((rd_T82 x1 x5).f1)).bind fun bt337 => (if bt337.2 = true then (pentaglotref07_pattern.l0 k x0 x1 (wrap64 (x5 + 1))) else (some false))) else (none)) else (some (decide ((x1.length : Int) ≤ 3)))
def pentaglotref07_pattern.f (k : Nat) (l0 : List (S80)) (l1 : List (S82)) : Option (Bool) := pentaglotref07_pattern.l0 k l0 l1 0
theorem LPrF77xh1 {p : Prop} (h : p := by
  have z1_ : 0 ≤ (x5_1 : Int) := oD
  have z2_ : x5_1 < (l1.length : Int) := oD
  obtain ⟨z3_, z4_, z5_, z6_, z7_, z8_⟩ := at_T82 HR1.out x5_1 z1_ z2_
  cases z4_
  replace z5_ := celB HB z5_
  replace z6_ := celB HB z6_
  replace z7_ := celB HB z7_
  replace z8_ := celB HB z8_
  replace z1_ := eq_true z1_
  replace z2_ := eq_true z2_
  first
  | (have mk_ := mk0_
     go_wp2_with (first | ((with_reducible refine gate_callee (f := 75) rfl ?_); refine goesL_ (some 21) rfl rfl Tryd.func75 (by kernel_rfl) rfl #[.slice A0 l0.length c0, .string ((rd_T82 l1 x5_1).f1)] rfl Gc2 ?_; (with_reducible refine (pentaglotref07_Letters.calls _ _ l0 ((rd_T82 l1 x5_1).f1) t337 false _ ?sT (tC HR0 HB) HC0.out A5.out).mono ?_); (case sT => exact Gc1); rintro e z9_ ⟨z10_, rfl, z11_, hb⟩; refine ⟨_, rfl, ?_⟩; have z12_ := Aside0.mk (Kd.R_lower z11_ (tS HB)); have z13_ := Aside0.mk (below_step (tB HB) hb); revert z12_ z13_; clear HB; intro z14_ HB; (try clear hb); (try clear hb2); (try clear hk); (try clear hi); (try clear z11_)))
     go_ret
     exact ⟨tE, by repeat (first | (with_reducible first | exact HB.out | apply below_alloc | apply pw_below_drewN | apply below_drew1) | exact HB.out)⟩)
  | (have mk_ := mk1_
     go_wp2_with (first | ((with_reducible refine gate_callee (f := 75) rfl ?_); refine goesL_ (some 21) rfl rfl Tryd.func75 (by kernel_rfl) rfl #[.slice A0 l0.length c0, .string ((rd_T82 l1 x5_1).f1)] rfl Gc2 ?_; (with_reducible refine (pentaglotref07_Letters.calls _ _ l0 ((rd_T82 l1 x5_1).f1) t337 true _ ?sT (tC HR0 HB) HC0.out A5.out).mono ?_); (case sT => exact Gc1); rintro e z9_ ⟨z10_, rfl, z11_, hb⟩; refine ⟨_, rfl, ?_⟩; have z12_ := Aside0.mk (Kd.R_lower z11_ (tS HB)); have z13_ := Aside0.mk (below_step (tB HB) hb); revert z12_ z13_; clear HB; intro z14_ HB; (try clear hb); (try clear hb2); (try clear hk); (try clear hi); (try clear z11_)))
     go_roundg k1
     case measure => have := HK1.out; omega
     case rel => exact ⟨(wrap64 (x5_1 + 1)), tV1, H', ⟨by have := HK1.out; omega⟩, ⟨tB HB⟩⟩)) : p := h
set_option maxHeartbeats 8000000 in
set_option maxRecDepth 100000 in
theorem pentaglotref07_pattern.calls (k : Nat) (A0 : Option Addr) (c0 : Nat) (l0 : List (S80)) (A1 : Option Addr) (c1 : Nat) (l1 : List (S82)) (r : Bool) (w : World) (hT : Tabs w) (hr0 : Kd.C k80 w A0 l0.length l0) (hc0 : l0.length ≤ c0) (hr1 : Kd.C k82 w A1 l1.length l1) (hc1 : l1.length ≤ c1) (h : pentaglotref07_pattern.f k l0 l1 = some r) :
 Calls Tryd.prog 77 #[.slice A0 l0.length c0, .slice A1 l1.length c1] w fun e w' => e = .returned (.bool r) ∧ Below w.heap.size w w' := by
 have HT := Aside0.mk hT
 clear hT
 have HR0 := Aside0.mk hr0
 have HC0 := Aside0.mk hc0
 clear hr0 hc0
 have HR1 := Aside0.mk hr1
 have HC1 := Aside0.mk hc1
 clear hr1 hc1
 have HB := Aside0.mk (Below.refl w.heap.size w)
 have H : (pentaglotref07_pattern.l0 k l0 l1 0) = some r := h
 clear h
 have H' := Aside0.mk H
 clear H
 go_enter Tryd.func77, Tryd.ntmps77
 go_wp2
 go_loopg [5] k (fun kq v5 w' => ∃ (x5_1 : Int), v5 = .int .i64 x5_1 ∧ Aside0 (pentaglotref07_pattern.l0 kq l0 l1 x5_1 = some r) ∧ Aside0 (kq ≤ k) ∧ Aside0 (Below w.heap.size w w'))
 case atStart => exact ⟨(0), tV1, H', ⟨Nat.le_refl _⟩, ⟨tB HB⟩⟩
 case round =>
  clear H'
  obtain ⟨x5_1, rfl, HA, HK1, HB⟩ := hrel
  cases gk with
  | zero => exact absurd HA.out (by simp [pentaglotref07_pattern.l0])
  | succ k1 =>
   have H := HA.out
   clear HA
   simp only [pentaglotref07_pattern.l0] at H
   replace H := iF H; obtain ⟨c3, H⟩ | ⟨c3, H⟩ := H
   ·
    have c3b0 : decide (x5_1 < (l1.length : Int)) = true := decide_eq_true c3
    clear c3
    replace H := iF H; obtain ⟨c4, H⟩ | ⟨c4, H⟩ := H
    ·
     have c4b0 : decide (0 ≤ x5_1) = true := decide_eq_true c4
     clear c4
     replace H := bI H; obtain ⟨⟨t337, t338⟩, A5, H⟩ := H; (try dsimp only at H)
     replace H := iT H; obtain ⟨rfl, H⟩ | ⟨rfl, H⟩ := H
     ·
      have H' := Aside0.mk H
      clear H
      have mk1_ := trivial
      exact LPrF77xh1
     ·
      obtain rfl := Option.some.inj H
      have mk0_ := trivial
      exact LPrF77xh1
    ·
     exact absurd H (by simp)
   ·
    have c3b0 : decide (x5_1 < (l1.length : Int)) = false := decide_eq_false c3
    clear c3
    obtain rfl := Option.some.inj H
    go_wp2
    go_ret
    exact ⟨tE, by repeat (first | (with_reducible first | exact HB.out | apply below_alloc | apply pw_below_drewN | apply below_drew1) | exact HB.out)⟩
def pentaglotref07_Valid.f (k : Nat) (l0 : List (S80)) (a1_0 : Int) (a1_1 : ByteArray) (l1_2 : List (S82)) (l1_3 : List (S82)) (a1_4 : Bool) (a1_5 : Bool) : Option (Bool) := (pentaglotref07_Letters.f l0 a1_1).bind fun bt342 => ((pentaglotref07_Admissible.f k l0).bind fun t346 => (if t346 = true then (if a1_0 = 0 then (if bt342.2 = true then (if (bt342.1.length : Int) ≤ 4 then ((pentaglotref07_pattern.f k l0 l1_2).bind fun t347 => (if t347 = true then ((pentaglotref07_pattern.f k l0 l1_3).bind fun t348 => (some t348)) else (some false))) else (some false)) else (some false)) else ((pentaglotref07_Index.f k l0 a1_0).bind fun t349 => (if t349 ≥ 0 then (if bt342.2 = true then (if (bt342.1.length : Int) ≤ 4 then ((pentaglotref07_pattern.f k l0 l1_2).bind fun t350 => (if t350 = true then ((pentaglotref07_pattern.f k l0 l1_3).bind fun t351 => (some t351)) else (some false))) else (some false)) else (some false)) else (some false)))) else (some false)))
set_option maxRecDepth 1000000 in
theorem LPrF60a1 {p : Prop} (h : p := by
  go_enter Tryd.func60, Tryd.ntmps60
  go_wp2_with (first | ((with_reducible refine gate_dst (N := 3) rfl ?_); (try (refine gate_guard (by rfl) ?_; dsimp only)); refine box_event ?hg (N := 3) ?hd (cs := #[.int .i32 a1_0, .string a1_1, .slice A1_2 l1_2.length c1_2, .slice A1_3 l1_3.length c1_3, .bool a1_4, .bool a1_5]) (t := 85) ?hr ?_; (case hd => rfl); (case hg => rfl); (case hr => exact Gc5); intro z1_ hg z2_ hbox hb; have n0_ := Aside0.mk (below_step (tB HB) hb); have n1_ := Aside0.mk (hbox); have n2_ := tZ hg (tS HB); have z6_ := tZ hg (tS HB); revert n0_ n1_ n2_ z6_; clear HB; intro HB BK341 z8_ GE341; clear hb hbox hg; have z10_ := cel2 BK341 0 rfl; have z11_ := cel2 BK341 1 rfl; have z12_ := cel2 BK341 2 rfl; have z13_ := cel2 BK341 3 rfl; have z14_ := cel2 BK341 4 rfl; have z15_ := cel2 BK341 5 rfl; have z16_ := blk_frozen BK341.out 0; have z17_ := blk_frozen BK341.out 1; have z18_ := blk_frozen BK341.out 2; have z19_ := blk_frozen BK341.out 3; have z20_ := blk_frozen BK341.out 4; have z21_ := blk_frozen BK341.out 5) | (have ma_ := ma1_; ((with_reducible refine gate_callee (f := 75) rfl ?_); refine goesL_ (some 11) rfl rfl Tryd.func75 (by kernel_rfl) rfl #[.slice A0 l0.length c0, .string a1_1] rfl Gc2 ?_; (with_reducible refine (pentaglotref07_Letters.calls _ _ l0 a1_1 t342 t343 _ ?sT (tC HR0 HB) HC0.out A3.out).mono ?_); (case sT => exact Gc1); rintro e z1_ ⟨z2_, rfl, z3_, hb⟩; refine ⟨_, rfl, ?_⟩; have n0_ := Aside0.mk (Kd.R_lower z3_ (tS HB)); have n1_ := Aside0.mk (blk_below (tK BK341) hb); have n2_ := Aside0.mk (below_step (tB HB) hb); revert n0_ n1_ n2_; clear BK341 HB; intro z7_ BK341 HB; (try clear hb); (try clear hb2); (try clear hk); (try clear hi); (try clear z3_))) | (have ma_ := ma2_; ((with_reducible refine gate_callee (f := 76) rfl ?_); refine goesL_ (some 15) rfl rfl Tryd.func76 (by kernel_rfl) rfl #[.slice A0 l0.length c0] rfl Gc2 ?_; (with_reducible refine (pentaglotref07_Admissible.calls k _ _ l0 false _ (tC HR0 HB) HC0.out A4.out).mono ?_); rintro e w' ⟨rfl, ⟨nd, rfl⟩⟩; refine ⟨_, rfl, ?_⟩)) | (have ma_ := ma3_; ((with_reducible refine gate_callee (f := 75) rfl ?_); refine goesL_ (some 11) rfl rfl Tryd.func75 (by kernel_rfl) rfl #[.slice A0 l0.length c0, .string a1_1] rfl Gc2 ?_; (with_reducible refine (pentaglotref07_Letters.calls _ _ l0 a1_1 t342 false _ ?sT (tC HR0 HB) HC0.out A3.out).mono ?_); (case sT => exact Gc1); rintro e z1_ ⟨z2_, rfl, z3_, hb⟩; refine ⟨_, rfl, ?_⟩; have n0_ := Aside0.mk (Kd.R_lower z3_ (tS HB)); have n1_ := Aside0.mk (blk_below (tK BK341) hb); have n2_ := Aside0.mk (below_step (tB HB) hb); revert n0_ n1_ n2_; clear BK341 HB; intro z7_ BK341 HB; (try clear hb); (try clear hb2); (try clear hk); (try clear hi); (try clear z3_))) | (have ma_ := ma4_; ((with_reducible refine gate_callee (f := 76) rfl ?_); refine goesL_ (some 15) rfl rfl Tryd.func76 (by kernel_rfl) rfl #[.slice A0 l0.length c0] rfl Gc2 ?_; (with_reducible refine (pentaglotref07_Admissible.calls k _ _ l0 true _ (tC HR0 HB) HC0.out A4.out).mono ?_); rintro e w' ⟨rfl, ⟨nd, rfl⟩⟩; refine ⟨_, rfl, ?_⟩; have z1_ := cel2 BK341 0 rfl; have z2_ := cel2 BK341 1 rfl; have z3_ := cel2 BK341 2 rfl; have z4_ := cel2 BK341 3 rfl; have z5_ := cel2 BK341 4 rfl; have z6_ := cel2 BK341 5 rfl; have z7_ := blk_frozen BK341.out 0; have z8_ := blk_frozen BK341.out 1; have z9_ := blk_frozen BK341.out 2; have z10_ := blk_frozen BK341.out 3; have z11_ := blk_frozen BK341.out 4; have z12_ := blk_frozen BK341.out 5)) | (have ma_ := ma5_; (go_at_call 58; (with_reducible refine (pentaglotref07_Index.calls k _ _ l0 a1_0 t349 _ ?s1 HC0.out A35.out).mono ?_); (case s1 => exact Gc9); rintro e w' ⟨rfl, ⟨nd, rfl⟩⟩)) | (have ma_ := ma6_; (go_at_call 58; (with_reducible refine (pentaglotref07_Index.calls k _ _ l0 a1_0 t349 _ ?s1 HC0.out A35.out).mono ?_); (case s1 => exact Gc9); rintro e w' ⟨rfl, ⟨nd, rfl⟩⟩; obtain ⟨z1_, z2_, z3_⟩ := Kd.R_slice HO345.out; subst z3_)) | (have ma_ := ma7_; (go_at_call 77; (with_reducible refine (pentaglotref07_pattern.calls k _ _ l0 _ _ l1_2 false _ ?sT ?s1 HC0.out ?s3 HC1_2.out A39.out).mono ?_); (case sT => exact Gc1); (case s1 => exact Gc9); (case s3 => exact Gc10); rintro e z1_ ⟨rfl, hb⟩; have n0_ := Aside0.mk (Kd.R_below (dR HO345) hb); have n1_ := Aside0.mk (blk_below (tK BK341) hb); have n2_ := Aside0.mk (below_step (tB HB) hb); revert n0_ n1_ n2_; clear HO345 BK341 HB; intro HO345 BK341 HB; (try clear hb); (try clear hb2); (try clear hk); (try clear hi))) | (have ma_ := ma8_; (go_at_call 77; (with_reducible refine (pentaglotref07_pattern.calls k _ _ l0 _ _ l1_2 true _ ?sT ?s1 HC0.out ?s3 HC1_2.out A39.out).mono ?_); (case sT => exact Gc1); (case s1 => exact Gc9); (case s3 => exact Gc10); rintro e z1_ ⟨rfl, hb⟩; have n0_ := Aside0.mk (Kd.R_below (dR HO345) hb); have n1_ := Aside0.mk (blk_below (tK BK341) hb); have n2_ := Aside0.mk (below_step (tB HB) hb); revert n0_ n1_ n2_; clear HO345 BK341 HB; intro HO345 BK341 HB; (try clear hb); (try clear hb2); (try clear hk); (try clear hi); have z5_ := cel2 BK341 0 rfl; have z6_ := cel2 BK341 1 rfl; have z7_ := cel2 BK341 2 rfl; have z8_ := cel2 BK341 3 rfl; have z9_ := cel2 BK341 4 rfl; have z10_ := cel2 BK341 5 rfl; have z11_ := blk_frozen BK341.out 0; have z12_ := blk_frozen BK341.out 1; have z13_ := blk_frozen BK341.out 2; have z14_ := blk_frozen BK341.out 3; have z15_ := blk_frozen BK341.out 4; have z16_ := blk_frozen BK341.out 5)) | (have ma_ := ma9_; (go_at_call 77; (with_reducible refine (pentaglotref07_pattern.calls k _ _ l0 _ _ l1_3 t351 _ ?sT (tC HR0 HB) HC0.out (tC HR1_3 HB) HC1_3.out A41.out).mono ?_); (case sT => exact Gc1); rintro e z1_ ⟨rfl, hb⟩; have n0_ := Aside0.mk (Kd.R_below (dR HO345) hb); have n1_ := Aside0.mk (blk_below (tK BK341) hb); have n2_ := Aside0.mk (below_step (tB HB) hb); revert n0_ n1_ n2_; clear HO345 BK341 HB; intro HO345 BK341 HB; (try clear hb); (try clear hb2); (try clear hk); (try clear hi))) | (have ma_ := ma10_; ((with_reducible refine gate_callee (f := 75) rfl ?_); refine goesL_ (some 11) rfl rfl Tryd.func75 (by kernel_rfl) rfl #[.slice A0 l0.length c0, .string a1_1] rfl Gc2 ?_; (with_reducible refine (pentaglotref07_Letters.calls _ _ l0 a1_1 t342 true _ ?sT (tC HR0 HB) HC0.out A3.out).mono ?_); (case sT => exact Gc1); rintro e z1_ ⟨z2_, rfl, z3_, hb⟩; refine ⟨_, rfl, ?_⟩; have n0_ := Aside0.mk (Kd.R_lower z3_ (tS HB)); have n1_ := Aside0.mk (blk_below (tK BK341) hb); have n2_ := Aside0.mk (below_step (tB HB) hb); revert n0_ n1_ n2_; clear BK341 HB; intro HO345 BK341 HB; (try clear hb); (try clear hb2); (try clear hk); (try clear hi); (try clear z3_))) | (have ma_ := ma11_; ((with_reducible refine gate_callee (f := 76) rfl ?_); refine goesL_ (some 15) rfl rfl Tryd.func76 (by kernel_rfl) rfl #[.slice A0 l0.length c0] rfl Gc2 ?_; (with_reducible refine (pentaglotref07_Admissible.calls k _ _ l0 true _ (tC HR0 HB) HC0.out A4.out).mono ?_); rintro e w' ⟨rfl, ⟨nd, rfl⟩⟩; refine ⟨_, rfl, ?_⟩; have z1_ := cel2 BK341 0 rfl; have z2_ := cel2 BK341 1 rfl; have z3_ := cel2 BK341 2 rfl; have z4_ := cel2 BK341 3 rfl; have z5_ := cel2 BK341 4 rfl; have z6_ := cel2 BK341 5 rfl; have z7_ := blk_frozen BK341.out 0; have z8_ := blk_frozen BK341.out 1; have z9_ := blk_frozen BK341.out 2; have z10_ := blk_frozen BK341.out 3; have z11_ := blk_frozen BK341.out 4; have z12_ := blk_frozen BK341.out 5; obtain ⟨z13_, z14_, z15_⟩ := Kd.R_slice HO345.out; subst z15_)) | (have ma_ := ma12_; (go_at_call 77; (with_reducible refine (pentaglotref07_pattern.calls k _ _ l0 _ _ l1_2 false _ ?sT ?s1 HC0.out ?s3 HC1_2.out A9.out).mono ?_); (case sT => exact Gc1); (case s1 => exact Gc9); (case s3 => exact Gc10); rintro e z1_ ⟨rfl, hb⟩; have n0_ := Aside0.mk (Kd.R_below (dR HO345) hb); have n1_ := Aside0.mk (blk_below (tK BK341) hb); have n2_ := Aside0.mk (below_step (tB HB) hb); revert n0_ n1_ n2_; clear HO345 BK341 HB; intro HO345 BK341 HB; (try clear hb); (try clear hb2); (try clear hk); (try clear hi))) | (have ma_ := ma13_; (go_at_call 77; (with_reducible refine (pentaglotref07_pattern.calls k _ _ l0 _ _ l1_2 true _ ?sT ?s1 HC0.out ?s3 HC1_2.out A9.out).mono ?_); (case sT => exact Gc1); (case s1 => exact Gc9); (case s3 => exact Gc10); rintro e z1_ ⟨rfl, hb⟩; have n0_ := Aside0.mk (Kd.R_below (dR HO345) hb); have n1_ := Aside0.mk (blk_below (tK BK341) hb); have n2_ := Aside0.mk (below_step (tB HB) hb); revert n0_ n1_ n2_; clear HO345 BK341 HB; intro HO345 BK341 HB; (try clear hb); (try clear hb2); (try clear hk); (try clear hi); have z5_ := cel2 BK341 0 rfl; have z6_ := cel2 BK341 1 rfl; have z7_ := cel2 BK341 2 rfl; have z8_ := cel2 BK341 3 rfl; have z9_ := cel2 BK341 4 rfl; have z10_ := cel2 BK341 5 rfl; have z11_ := blk_frozen BK341.out 0; have z12_ := blk_frozen BK341.out 1; have z13_ := blk_frozen BK341.out 2; have z14_ := blk_frozen BK341.out 3; have z15_ := blk_frozen BK341.out 4; have z16_ := blk_frozen BK341.out 5)) | (have ma_ := ma14_; (go_at_call 77; (with_reducible refine (pentaglotref07_pattern.calls k _ _ l0 _ _ l1_3 t348 _ ?sT (tC HR0 HB) HC0.out (tC HR1_3 HB) HC1_3.out A11.out).mono ?_); (case sT => exact Gc1); rintro e z1_ ⟨rfl, hb⟩; have n0_ := Aside0.mk (Kd.R_below (dR HO345) hb); have n1_ := Aside0.mk (blk_below (tK BK341) hb); have n2_ := Aside0.mk (below_step (tB HB) hb); revert n0_ n1_ n2_; clear HO345 BK341 HB; intro HO345 BK341 HB; (try clear hb); (try clear hb2); (try clear hk); (try clear hi))))
  go_ret
  exact ⟨tE, by repeat (first | (with_reducible first | exact HB.out | apply below_alloc | apply pw_below_drewN | apply below_drew1 | refine below_set ?_ GE341.out) | exact HB.out)⟩) : p := h
set_option maxHeartbeats 8000000 in
set_option maxRecDepth 100000 in
theorem pentaglotref07_Valid.calls (k : Nat) (A0 : Option Addr) (c0 : Nat) (l0 : List (S80)) (a1_0 : Int) (a1_1 : ByteArray) (A1_2 : Option Addr) (c1_2 : Nat) (l1_2 : List (S82)) (A1_3 : Option Addr) (c1_3 : Nat) (l1_3 : List (S82)) (a1_4 : Bool) (a1_5 : Bool) (r : Bool) (w : World) (hT : Tabs w) (hr0 : Kd.C k80 w A0 l0.length l0) (hc0 : l0.length ≤ c0) (hr1_2 : Kd.C k82 w A1_2 l1_2.length l1_2) (hc1_2 : l1_2.length ≤ c1_2) (hr1_3 : Kd.C k82 w A1_3 l1_3.length l1_3) (hc1_3 : l1_3.length ≤ c1_3) (h : pentaglotref07_Valid.f k l0 a1_0 a1_1 l1_2 l1_3 a1_4 a1_5 = some r) :
 Calls Tryd.prog 60 #[.slice A0 l0.length c0, .agg #[.int .i32 a1_0, .string a1_1, .slice A1_2 l1_2.length c1_2, .slice A1_3 l1_3.length c1_3, .bool a1_4, .bool a1_5]] w fun e w' => e = .returned (.bool r) ∧ Below w.heap.size w w' := by
 have HT := Aside0.mk hT
 clear hT
 have hu85 := Tryd.underlying85
 have HR0 := Aside0.mk hr0
 have HC0 := Aside0.mk hc0
 clear hr0 hc0
 have HR1_2 := Aside0.mk hr1_2
 have HC1_2 := Aside0.mk hc1_2
 clear hr1_2 hc1_2
 have HR1_3 := Aside0.mk hr1_3
 have HC1_3 := Aside0.mk hc1_3
 clear hr1_3 hc1_3
 have HB := Aside0.mk (Below.refl w.heap.size w)
 have H : ((pentaglotref07_Letters.f l0 a1_1).bind fun bt342 => ((pentaglotref07_Admissible.f k l0).bind fun t346 => (if t346 = true then (if a1_0 = 0 then (if bt342.2 = true then (if (bt342.1.length : Int) ≤ 4 then ((pentaglotref07_pattern.f k l0 l1_2).bind fun t347 => (if t347 = true then ((pentaglotref07_pattern.f k l0 l1_3).bind fun t348 => (some t348)) else (some false))) else (some false)) else (some false)) else ((pentaglotref07_Index.f k l0 a1_0).bind fun t349 => (if t349 ≥ 0 then (if bt342.2 = true then (if (bt342.1.length : Int) ≤ 4 then ((pentaglotref07_pattern.f k l0 l1_2).bind fun t350 => (if t350 = true then ((pentaglotref07_pattern.f k l0 l1_3).bind fun t351 => (some t351)) else (some false))) else (some false)) else (some false)) else (some false)))) else (some false)))) = some r := h
 clear h
 replace H := bI H; obtain ⟨⟨t342, t343⟩, A3, H⟩ := H; (try dsimp only at H)
 replace H := bI H; obtain ⟨t346, A4, H⟩ := H; (try dsimp only at H)
 replace H := iT H; obtain ⟨rfl, H⟩ | ⟨rfl, H⟩ := H
 ·
  replace H := iE H; obtain ⟨-, c6b0, c6b1, H⟩ | ⟨c6, c6b0, c6b1, H⟩ := H
  ·
   replace H := iT H; obtain ⟨rfl, H⟩ | ⟨rfl, H⟩ := H
   ·
    replace H := iF H; obtain ⟨c8, H⟩ | ⟨c8, H⟩ := H
    ·
     have c8b0 : decide ((t342.length : Int) ≤ 4) = true := decide_eq_true c8
     have c8b1 : decide (t342.length ≤ 4) = true := decide_eq_true (by omega)
     clear c8
     replace H := bI H; obtain ⟨t347, A9, H⟩ := H; (try dsimp only at H)
     replace H := iT H; obtain ⟨rfl, H⟩ | ⟨rfl, H⟩ := H
     ·
      replace H := bI H; obtain ⟨t348, A11, H⟩ := H; (try dsimp only at H)
      obtain rfl := Option.some.inj H
      have ma10_ := trivial; have ma11_ := trivial; have ma13_ := trivial; have ma14_ := trivial
      exact LPrF60a1
     ·
      obtain rfl := Option.some.inj H
      have ma10_ := trivial; have ma11_ := trivial; have ma12_ := trivial
      exact LPrF60a1
    ·
     have c8b0 : decide ((t342.length : Int) ≤ 4) = false := decide_eq_false c8
     have c8b1 : decide (t342.length ≤ 4) = false := decide_eq_false (by omega)
     clear c8
     obtain rfl := Option.some.inj H
     have ma10_ := trivial; have ma11_ := trivial
     exact LPrF60a1
   ·
    obtain rfl := Option.some.inj H
    have ma3_ := trivial; have ma4_ := trivial
    exact LPrF60a1
  ·
   replace H := bI H; obtain ⟨t349, A35, H⟩ := H; (try dsimp only at H)
   replace H := iF H; obtain ⟨c36, H⟩ | ⟨c36, H⟩ := H
   ·
    have c36b0 : decide (0 ≤ t349) = true := decide_eq_true c36
    clear c36
    replace H := iT H; obtain ⟨rfl, H⟩ | ⟨rfl, H⟩ := H
    ·
     replace H := iF H; obtain ⟨c38, H⟩ | ⟨c38, H⟩ := H
     ·
      have c38b0 : decide ((t342.length : Int) ≤ 4) = true := decide_eq_true c38
      have c38b1 : decide (t342.length ≤ 4) = true := decide_eq_true (by omega)
      clear c38
      replace H := bI H; obtain ⟨t350, A39, H⟩ := H; (try dsimp only at H)
      replace H := iT H; obtain ⟨rfl, H⟩ | ⟨rfl, H⟩ := H
      ·
       replace H := bI H; obtain ⟨t351, A41, H⟩ := H; (try dsimp only at H)
       obtain rfl := Option.some.inj H
       have ma10_ := trivial; have ma4_ := trivial; have ma6_ := trivial; have ma8_ := trivial; have ma9_ := trivial
       exact LPrF60a1
      ·
       obtain rfl := Option.some.inj H
       have ma10_ := trivial; have ma4_ := trivial; have ma6_ := trivial; have ma7_ := trivial
       exact LPrF60a1
     ·
      have c38b0 : decide ((t342.length : Int) ≤ 4) = false := decide_eq_false c38
      have c38b1 : decide (t342.length ≤ 4) = false := decide_eq_false (by omega)
      clear c38
      obtain rfl := Option.some.inj H
      have ma10_ := trivial; have ma4_ := trivial; have ma6_ := trivial
      exact LPrF60a1
    ·
     obtain rfl := Option.some.inj H
     have ma3_ := trivial; have ma4_ := trivial; have ma5_ := trivial
     exact LPrF60a1
   ·
    have c36b0 : decide (0 ≤ t349) = false := decide_eq_false c36
    clear c36
    obtain rfl := Option.some.inj H
    have ma1_ := trivial; have ma4_ := trivial; have ma5_ := trivial
    exact LPrF60a1
 ·
  obtain rfl := Option.some.inj H
  have ma1_ := trivial; have ma2_ := trivial
  exact LPrF60a1
end Go.Proofs.YtfbhdjflkaldgaaDoor.Pr
