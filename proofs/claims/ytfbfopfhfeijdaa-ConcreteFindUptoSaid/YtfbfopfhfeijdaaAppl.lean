/- concrete.Applies: slices.EqualFunc at concrete.contains. -/
import Derived.Test.YtfbfopfhfeijdaaMg4
import Derived.Test.YtfbfopfhfeijdaaMg2
namespace Go.Proofs.Ytfbfopfhfeijdaa.Pr
open Go.RowKit Go.Proofs.YtfbfopfhfeijdaaW.PrintWords Go.Proofs.YtfbfopfhfeijdaaW.PrintLast Go.Proofs.YtfbfopfhfeijdaaW.PrintMore
set_option linter.unusedVariables false
set_option linter.unusedSimpArgs false

def applFrom (k : Nat) (xs ys : List (List S37)) : Nat → Option Bool
  | i => if i < xs.length then (concrete_contains.f k (rd_L2 xs i) (rd_L2 ys i)).bind fun b => if b = true then applFrom k xs ys (i + 1) else some false else some true
termination_by i => xs.length - i
theorem applFrom_end {k : Nat} {xs ys : List (List S37)} {i : Nat} (h : ¬ i < xs.length) : applFrom k xs ys i = some true := by unfold applFrom; rw [if_neg h]
theorem applFrom_go {k : Nat} {xs ys : List (List S37)} {i : Nat} (h : i < xs.length) : applFrom k xs ys i = (concrete_contains.f k (rd_L2 xs i) (rd_L2 ys i)).bind fun b => if b = true then applFrom k xs ys (i + 1) else some false := by
  rw [applFrom, if_pos h]

set_option maxHeartbeats 1000000 in
set_option maxRecDepth 100000 in
theorem equalFunc_calls (k : Nat) (A0 : Option Addr) (c0 : Nat) (xs : List (List S37)) (A1 : Option Addr) (c1 : Nat) (ys : List (List S37)) (r : Bool) (w : World)
    (hr0 : Kd.C (Kd.slice 37 k37) w A0 xs.length xs) (hr1 : Kd.C (Kd.slice 37 k37) w A1 ys.length ys) (h : (if xs.length = ys.length then applFrom k xs ys 0 else some false) = some r) :
    Calls Try.prog 36 #[.slice A0 xs.length c0, .slice A1 ys.length c1, .func (.func 37) #[] #[]] w fun e w' => e = .returned (.bool r) ∧ Below w.heap.size w w' := by
  by_cases hl : xs.length = ys.length
  · rw [if_pos hl] at h
    have H := Aside0.mk h
    have HR0 := Aside0.mk hr0
    have HR1 := Aside0.mk hr1
    have HL := Aside0.mk hl
    have l0 : xs.length ≤ 9223372036854775807 := hr0.2.1
    have t0 : (xs.length != ys.length) = false := by simpa using hl
    have t1 : ((xs.length : Int) != (ys.length : Int)) = false := by rw [bne_eq_false_iff_eq]; omega
    clear h hr0 hr1 hl
    go_enter Try.func36, Try.ntmps36
    go_wp2
    go_loopg [17] (xs.length + 1) (fun n v w' => ∃ i : Nat, v = .int .i64 i ∧ Aside0 (i ≤ xs.length ∧ n = xs.length + 1 - i ∧ applFrom k xs ys i = some r) ∧ Aside0 (Below w.heap.size w w'))
    case atStart => exact ⟨0, rfl, ⟨⟨Nat.zero_le _, by omega, H.out⟩⟩, ⟨Below.refl _ _⟩⟩
    case round =>
      clear H
      obtain ⟨i, rfl, HI, HB⟩ := hrel
      by_cases hi : i < xs.length
      · have hi0 : decide (i < xs.length) = true := decide_eq_true hi
        have hq := HI.out.2.2
        rw [applFrom_go hi] at hq
        obtain ⟨b, hb1, hb2⟩ := Option.bind_eq_some_iff.1 hq
        have hlen := HL.out
        obtain ⟨ad1, B0, d0, e1, k1, m1, g1⟩ := at_L2 HR0.out (i : Int) (by omega) (by omega)
        obtain ⟨ad2, B1, d1, e2, k2, m2, g2⟩ := at_L2 HR1.out (i : Int) (by omega) (by omega)
        cases e1
        cases e2
        simp only [Int.toNat_natCast] at k1 k2
        replace k1 := cap_ k1 HB.out
        replace k2 := cap_ k2 HB.out
        have G1 := Aside0.mk (Kd.C_below g1 HB.out)
        have G2 := Aside0.mk (Kd.C_below g2 HB.out)
        have M1 := Aside0.mk m1
        have M2 := Aside0.mk m2
        have HC := Aside0.mk hb1
        have HN := Aside0.mk hb2
        have p1 := eq_true (show (i : Int) < (ys.length : Int) by omega)
        have p2 : i < ys.length := by omega
        generalize rd_L2 xs (i : Int) = X at *
        generalize rd_L2 ys (i : Int) = Y at *
        clear hb1 hb2 hq g1 g2 m1 m2 hlen
        cases b with
        | true =>
          go_wp2_with (go_at_call 37; refine (concrete_contains.calls k B0 d0 X B1 d1 Y true _ G1.out M1.out G2.out M2.out HC.out).mono ?_; rintro e w1 ⟨rfl, hb⟩; have HB1 := Aside0.mk (below_then HB.out HB.out.size hb); clear hb)
          go_roundg (xs.length - i)
          case measure => have := HI.out; omega
          case rel => exact ⟨i + 1, by go_num, ⟨⟨by omega, by omega, HN.out⟩⟩, HB1⟩
        | false =>
          have hr : false = r := by have := HN.out; simpa using this
          subst hr
          go_wp2_with (go_at_call 37; refine (concrete_contains.calls k B0 d0 X B1 d1 Y false _ G1.out M1.out G2.out M2.out HC.out).mono ?_; rintro e w1 ⟨rfl, hb⟩; have HB1 := Aside0.mk (below_then HB.out HB.out.size hb); clear hb)
          go_ret
          exact ⟨rfl, HB1.out⟩
      · have hi0 : decide (i < xs.length) = false := decide_eq_false hi
        have hq := HI.out.2.2
        rw [applFrom_end hi] at hq
        obtain rfl := Option.some.inj hq
        clear hq
        go_wp2
        go_ret
        exact ⟨rfl, HB.out⟩
  · rw [if_neg hl] at h
    obtain rfl := Option.some.inj h
    have t0 : (xs.length != ys.length) = true := by simpa using hl
    have t1 : ((xs.length : Int) != (ys.length : Int)) = true := by rw [bne_iff_ne]; omega
    clear h hl hr0 hr1
    go_enter Try.func36, Try.ntmps36
    go_wp2
    go_ret
    exact ⟨rfl, Below.refl _ _⟩

def concrete_Applies.f (k : Nat) (a0_0 : ByteArray) (l0_1 : List (List S37)) (l0_2 : List S37) (l0_3 : List S88) (l1 : List (List S37)) : Option Bool :=
  if l1.length = l0_1.length then applFrom k l1 l0_1 0 else some false
set_option maxHeartbeats 1000000 in
set_option maxRecDepth 100000 in
theorem concrete_Applies.calls (k : Nat) (a0_0 : ByteArray) (A0_1 : Option Addr) (c0_1 : Nat) (l0_1 : List (List S37)) (A0_2 : Option Addr) (c0_2 : Nat) (l0_2 : List S37) (A0_3 : Option Addr) (c0_3 : Nat) (l0_3 : List S88)
    (A1 : Option Addr) (c1 : Nat) (l1 : List (List S37)) (r : Bool) (w : World) (hr0_1 : Kd.C (Kd.slice 37 k37) w A0_1 l0_1.length l0_1) (hc0_1 : l0_1.length ≤ c0_1) (hr0_2 : Kd.C k37 w A0_2 l0_2.length l0_2) (hc0_2 : l0_2.length ≤ c0_2)
    (hr0_3 : Kd.C k88 w A0_3 l0_3.length l0_3) (hc0_3 : l0_3.length ≤ c0_3) (hr1 : Kd.C (Kd.slice 37 k37) w A1 l1.length l1) (hc1 : l1.length ≤ c1) (h : concrete_Applies.f k a0_0 l0_1 l0_2 l0_3 l1 = some r) :
    Calls Try.prog 16 #[.agg #[.string a0_0, .slice A0_1 l0_1.length c0_1, .slice A0_2 l0_2.length c0_2, .slice A0_3 l0_3.length c0_3], .slice A1 l1.length c1] w fun e w' => e = .returned (.bool r) ∧ Below w.heap.size w w' := by
  have H := Aside0.mk h
  have HR0 := Aside0.mk hr0_1
  have HR1 := Aside0.mk hr1
  clear h hr0_1 hr0_2 hr0_3 hr1 hc0_1 hc0_2 hc0_3 hc1
  go_enter Try.func16, Try.ntmps16
  go_wp2_with fail
  have HB := Aside0.mk ((Below.refl w.heap.size w).alloc (Nat.le_refl _) (.cells #[.string a0_0, .slice A0_1 l0_1.length c0_1, .slice A0_2 l0_2.length c0_2, .slice A0_3 l0_3.length c0_3] 33))
  refine (equalFunc_calls k A1 c1 l1 A0_1 c0_1 l0_1 r _ (Kd.C_below HR1.out HB.out) (Kd.C_below HR0.out HB.out) H.out).mono ?_
  rintro e w1 ⟨rfl, hb⟩
  have HB1 := Aside0.mk (below_then HB.out HB.out.size hb)
  clear hb
  go_wp2_with fail
  go_ret
  exact ⟨rfl, HB1.out⟩
end Go.Proofs.Ytfbfopfhfeijdaa.Pr
