/- Several texts in one: PrF37, Appl. -/
import Derived.Test.YtfbfopfhfeijdaaPr0
import Derived.Test.YtfbfopfhfeijdaaCt
import Derived.Test.YtfbfopfhfeijdaaMg11
import Derived.Test.YtfbfopfhfeijdaaMg3
/- concrete.Applies: slices.EqualFunc at concrete.contains. -/
namespace Go.Proofs.Ytfbfopfhfeijdaa.Pr
open Go.Proofs.Ytfbfopfhfeijdaa.Ct Go.RowKit Go.Proofs.YtfbfopfhfeijdaaW.PrintWords Go.Proofs.YtfbfopfhfeijdaaW.PrintLast Go.Proofs.YtfbfopfhfeijdaaW.PrintMore
attribute [local go_sem] max2_int min2_int max_two min_two max_three min_three max_four min_four   -- for this text's walks alone
set_option linter.unusedVariables false
set_option linter.unusedSimpArgs false

/-! ### concrete_contains: function 37 -/
def concrete_contains.l0 : Nat → List (S37) → List (S37) → Int → Int → Option (Bool)
 | 0, _, _, _, _ => none
 | k + 1, x0, x7, x8, x9 => if x9 < x8 then (if 0 ≤ x9 then (if x9 < (x7.length : Int) then ((api_Feature_53.f k x0 ((rd_T37 x7 x9).f0) ((rd_T37 x7 x9).f1)).bind fun t109 => (if t109 = true then (concrete_contains.l0 k x0 x7 x8 (wrap64 (x9 + 1))) else (some false))) else (none)) else (none)) else (some true)
def concrete_contains.f (k : Nat) (l0 : List (S37)) (l1 : List (S37)) : Option (Bool) := concrete_contains.l0 k l0 l1 (l1.length : Int) 0
set_option maxHeartbeats 8000000 in
set_option maxRecDepth 100000 in
theorem concrete_contains.calls (k : Nat) (A0 : Option Addr) (c0 : Nat) (l0 : List (S37)) (A1 : Option Addr) (c1 : Nat) (l1 : List (S37)) (r : Bool) (w : World) (hr0 : Kd.C k37 w A0 l0.length l0) (hc0 : l0.length ≤ c0) (hr1 : Kd.C k37 w A1 l1.length l1) (hc1 : l1.length ≤ c1) (h : concrete_contains.f k l0 l1 = some r) :
 Calls Try.prog 37 #[.slice A0 l0.length c0, .slice A1 l1.length c1] w fun e w' => e = .returned (.bool r) ∧ Below w.heap.size w w' := by
 have hu37 := Try.underlying37
 have HR0 := Aside0.mk hr0
 have HC0 := Aside0.mk hc0
 clear hr0 hc0
 have HR1 := Aside0.mk hr1
 have HC1 := Aside0.mk hc1
 clear hr1 hc1
 have HB := Aside0.mk (Below.refl w.heap.size w)
 have H : (concrete_contains.l0 k l0 l1 (l1.length : Int) 0) = some r := h
 clear h
 have H' := Aside0.mk H
 clear H
 go_enter Try.func37, Try.ntmps37
 go_wp2
 go_loopg [9] k (fun kq v9 w' => ∃ (x9_1 : Int), v9 = .int .i64 x9_1 ∧ Aside0 (concrete_contains.l0 kq l0 l1 (l1.length : Int) x9_1 = some r) ∧ Aside0 (kq ≤ k) ∧ Aside0 (Below w.heap.size w w'))
 case atStart => exact ⟨(0), tV1, H', ⟨Nat.le_refl _⟩, ⟨tB HB⟩⟩
 case round =>
  clear H'
  obtain ⟨x9_1, rfl, HA, HK1, HB⟩ := hrel
  cases gk with
  | zero => exact absurd HA.out (by simp [concrete_contains.l0])
  | succ k1 =>
   have H := HA.out
   clear HA
   simp only [concrete_contains.l0] at H
   by_cases c3 : x9_1 < (l1.length : Int)
   ·
    rw [if_pos c3] at H
    have c3b0 : decide (x9_1 < (l1.length : Int)) = true := decide_eq_true c3
    clear c3
    by_cases c4 : 0 ≤ x9_1
    ·
     rw [if_pos c4] at H
     have c4b0 : decide (0 ≤ x9_1) = true := decide_eq_true c4
     clear c4
     by_cases c5 : x9_1 < (l1.length : Int)
     ·
      rw [if_pos c5] at H
      have c5b0 : decide (x9_1 < (l1.length : Int)) = true := decide_eq_true c5
      clear c5
      replace H := Option.bind_eq_some_iff.mp H
      obtain ⟨t109, A60, H⟩ := H
      (try dsimp only at H)
      have A6 := Aside0.mk A60
      clear A60
      by_cases c7 : t109 = true
      ·
       subst c7
       rw [if_pos rfl] at H
       have H' := Aside0.mk H
       clear H
       have p107 : 0 ≤ (x9_1 : Int) := oD
       have q107 : x9_1 < (l1.length : Int) := oD
       obtain ⟨ad107, e107, hx107_0, hx107_1⟩ := at_T37 HR1.out x9_1 p107 q107
       cases e107
       replace hx107_0 := celB HB hx107_0
       replace hx107_1 := celB HB hx107_1
       replace p107 := eq_true p107
       replace q107 := eq_true q107
       go_wp2_with (first | ((with_reducible refine gate_dst (N := 6) rfl ?_); refine box_event ?hg (N := 6) ?hd (cs := #[.string (⟨#[]⟩ : ByteArray), .string (⟨#[]⟩ : ByteArray)]) (t := 37) ?hr ?_; (case hd => rfl); (case hg => rfl); (case hr => first | (go_simp; done) | (go_simp; rfl)); intro gb108 hg w8 hbox hb; have n0_ := Aside0.mk (below_step (tB HB) hb); have n1_ := Aside0.mk (hbox); have n2_ := tZ hg (tS HB); have n3_ := tZ hg (tS HB); revert n0_ n1_ n2_ n3_; clear HB; intro HB BK108 GW108 GE108; clear hb hbox hg; have hcz9_0 := cel2 BK108 0 rfl; have hcz9_1 := cel2 BK108 1 rfl; have hfz9_0 := blk_frozen BK108.out 0; have hfz9_1 := blk_frozen BK108.out 1) | ((with_reducible refine gate_callee (f := 53) rfl ?_); refine goesL_ (some 15) rfl rfl Try.func53 (by kernel_rfl) rfl #[.slice A0 l0.length c0, .agg #[.string ((rd_T37 l1 x9_1).f0), .string ((rd_T37 l1 x9_1).f1)]] rfl (by (try simp only [List.map_toArray, List.map_cons, List.map_nil]); first | done | rfl | (simp only [List.length_drop, List.length_take]; rfl)) ?_; (with_reducible refine (api_Feature_53.calls k1 _ _ l0 ((rd_T37 l1 x9_1).f0) ((rd_T37 l1 x9_1).f1) true _ ?s1 ?s2 A6.out).mono ?_); (case s1 => exact Kd.C_below HR0.out (tB HB)); (case s2 => exact HC0.out); rintro e w10 ⟨rfl, hb⟩; refine ⟨_, rfl, ?_⟩; have n0_ := Aside0.mk (blk_below (g := gb108) (o := .cells #[.string ((rd_T37 l1 x9_1).f0), .string ((rd_T37 l1 x9_1).f1)] 37 (0, 0)) (tKp BK108) hb); have n1_ := Aside0.mk (below_step (tB HB) hb); revert n0_ n1_; clear BK108 HB; intro BK108 HB; (try clear hb); (try clear hb2); (try clear hk); (try clear hi)))
       go_roundg k1
       case measure => have := HK1.out; omega
       case rel => exact ⟨(wrap64 (x9_1 + 1)), tV1, H', ⟨by have := HK1.out; omega⟩, ⟨tB HB⟩⟩
      ·
       replace c7 := Bool.eq_false_iff.mpr c7
       subst c7
       rw [if_neg (show ¬ (false = true) by decide)] at H
       obtain rfl := Option.some.inj H
       have p107 : 0 ≤ (x9_1 : Int) := oD
       have q107 : x9_1 < (l1.length : Int) := oD
       obtain ⟨ad107, e107, hx107_0, hx107_1⟩ := at_T37 HR1.out x9_1 p107 q107
       cases e107
       replace hx107_0 := celB HB hx107_0
       replace hx107_1 := celB HB hx107_1
       replace p107 := eq_true p107
       replace q107 := eq_true q107
       go_wp2_with (first | ((with_reducible refine gate_dst (N := 6) rfl ?_); refine box_event ?hg (N := 6) ?hd (cs := #[.string (⟨#[]⟩ : ByteArray), .string (⟨#[]⟩ : ByteArray)]) (t := 37) ?hr ?_; (case hd => rfl); (case hg => rfl); (case hr => first | (go_simp; done) | (go_simp; rfl)); intro gb108 hg w11 hbox hb; have n0_ := Aside0.mk (below_step (tB HB) hb); have n1_ := Aside0.mk (hbox); have n2_ := tZ hg (tS HB); have n3_ := tZ hg (tS HB); revert n0_ n1_ n2_ n3_; clear HB; intro HB BK108 GW108 GE108; clear hb hbox hg; have hcz12_0 := cel2 BK108 0 rfl; have hcz12_1 := cel2 BK108 1 rfl; have hfz12_0 := blk_frozen BK108.out 0; have hfz12_1 := blk_frozen BK108.out 1) | ((with_reducible refine gate_callee (f := 53) rfl ?_); refine goesL_ (some 15) rfl rfl Try.func53 (by kernel_rfl) rfl #[.slice A0 l0.length c0, .agg #[.string ((rd_T37 l1 x9_1).f0), .string ((rd_T37 l1 x9_1).f1)]] rfl (by (try simp only [List.map_toArray, List.map_cons, List.map_nil]); first | done | rfl | (simp only [List.length_drop, List.length_take]; rfl)) ?_; (with_reducible refine (api_Feature_53.calls k1 _ _ l0 ((rd_T37 l1 x9_1).f0) ((rd_T37 l1 x9_1).f1) false _ ?s1 ?s2 A6.out).mono ?_); (case s1 => exact Kd.C_below HR0.out (tB HB)); (case s2 => exact HC0.out); rintro e w13 ⟨rfl, hb⟩; refine ⟨_, rfl, ?_⟩; have n0_ := Aside0.mk (blk_below (g := gb108) (o := .cells #[.string ((rd_T37 l1 x9_1).f0), .string ((rd_T37 l1 x9_1).f1)] 37 (0, 0)) (tKp BK108) hb); have n1_ := Aside0.mk (below_step (tB HB) hb); revert n0_ n1_; clear BK108 HB; intro BK108 HB; (try clear hb); (try clear hb2); (try clear hk); (try clear hi)))
       go_ret
       exact ⟨tE, by repeat (first | (with_reducible first | exact HB.out | apply below_alloc | apply pw_below_drewN | apply below_drew1 | refine below_set ?_ GE108.out) | exact HB.out)⟩
     ·
      rw [if_neg c5] at H
      exact absurd H (by simp)
    ·
     rw [if_neg c4] at H
     exact absurd H (by simp)
   ·
    rw [if_neg c3] at H
    have c3b0 : decide (x9_1 < (l1.length : Int)) = false := decide_eq_false c3
    clear c3
    obtain rfl := Option.some.inj H
    go_wp2
    go_ret
    exact ⟨tE, by repeat (first | (with_reducible first | exact HB.out | apply below_alloc | apply pw_below_drewN | apply below_drew1) | exact HB.out)⟩

end Go.Proofs.Ytfbfopfhfeijdaa.Pr

namespace Go.Proofs.Ytfbfopfhfeijdaa.Pr
open Go.RowKit Go.Proofs.YtfbfopfhfeijdaaW.PrintWords Go.Proofs.YtfbfopfhfeijdaaW.PrintLast Go.Proofs.YtfbfopfhfeijdaaW.PrintMore
set_option linter.unusedVariables false
set_option linter.unusedSimpArgs false

def applFrom (k : Nat) (xs ys : List (List S37)) : Nat → Option Bool
  | i => if i < xs.length then (concrete_contains.f k (rd_L2 xs i) (rd_L2 ys i)).bind fun b => if b = true then applFrom k xs ys (i + 1) else some false else some true
termination_by i => xs.length - i
theorem applFrom_end {k : Nat} {xs ys : List (List S37)} {i : Nat} (h : ¬ i < xs.length) : applFrom k xs ys i = some true := by unfold applFrom; rw [if_neg h]
theorem applFrom_go {k : Nat} {xs ys : List (List S37)} {i : Nat} (h : i < xs.length) : applFrom k xs ys i = (concrete_contains.f k (rd_L2 xs i) (rd_L2 ys i)).bind fun b => if b = true then applFrom k xs ys (i + 1) else some false := by
  rw [applFrom, if_pos h]

set_option maxHeartbeats 1000000 in
set_option maxRecDepth 100000 in
theorem equalFunc_calls (k : Nat) (A0 : Option Addr) (c0 : Nat) (xs : List (List S37)) (A1 : Option Addr) (c1 : Nat) (ys : List (List S37)) (r : Bool) (w : World)
    (hr0 : Kd.C (Kd.slice 37 k37) w A0 xs.length xs) (hr1 : Kd.C (Kd.slice 37 k37) w A1 ys.length ys) (h : (if xs.length = ys.length then applFrom k xs ys 0 else some false) = some r) :
    Calls Try.prog 36 #[.slice A0 xs.length c0, .slice A1 ys.length c1, .func (.func 37) #[] #[]] w fun e w' => e = .returned (.bool r) ∧ Below w.heap.size w w' := by
  by_cases hl : xs.length = ys.length
  · rw [if_pos hl] at h
    have H := Aside0.mk h
    have HR0 := Aside0.mk hr0
    have HR1 := Aside0.mk hr1
    have HL := Aside0.mk hl
    have l0 : xs.length ≤ 9223372036854775807 := hr0.2.1
    have t0 : (xs.length != ys.length) = false := by simpa using hl
    have t1 : ((xs.length : Int) != (ys.length : Int)) = false := by rw [bne_eq_false_iff_eq]; omega
    clear h hr0 hr1 hl
    go_enter Try.func36, Try.ntmps36
    go_wp2
    go_loopg [17] (xs.length + 1) (fun n v w' => ∃ i : Nat, v = .int .i64 i ∧ Aside0 (i ≤ xs.length ∧ n = xs.length + 1 - i ∧ applFrom k xs ys i = some r) ∧ Aside0 (Below w.heap.size w w'))
    case atStart => exact ⟨0, rfl, ⟨⟨Nat.zero_le _, by omega, H.out⟩⟩, ⟨Below.refl _ _⟩⟩
    case round =>
      clear H
      obtain ⟨i, rfl, HI, HB⟩ := hrel
      by_cases hi : i < xs.length
      · have hi0 : decide (i < xs.length) = true := decide_eq_true hi
        have hq := HI.out.2.2
        rw [applFrom_go hi] at hq
        obtain ⟨b, hb1, hb2⟩ := Option.bind_eq_some_iff.1 hq
        have hlen := HL.out
        obtain ⟨ad1, B0, d0, e1, k1, m1, g1⟩ := at_L2 HR0.out (i : Int) (by omega) (by omega)
        obtain ⟨ad2, B1, d1, e2, k2, m2, g2⟩ := at_L2 HR1.out (i : Int) (by omega) (by omega)
        cases e1
        cases e2
        simp only [Int.toNat_natCast] at k1 k2
        replace k1 := cap_ k1 HB.out
        replace k2 := cap_ k2 HB.out
        have G1 := Aside0.mk (Kd.C_below g1 HB.out)
        have G2 := Aside0.mk (Kd.C_below g2 HB.out)
        have M1 := Aside0.mk m1
        have M2 := Aside0.mk m2
        have HC := Aside0.mk hb1
        have HN := Aside0.mk hb2
        have p1 := eq_true (show (i : Int) < (ys.length : Int) by omega)
        have p2 : i < ys.length := by omega
        generalize rd_L2 xs (i : Int) = X at *
        generalize rd_L2 ys (i : Int) = Y at *
        clear hb1 hb2 hq g1 g2 m1 m2 hlen
        cases b with
        | true =>
          go_wp2_with (go_at_call 37; refine (concrete_contains.calls k B0 d0 X B1 d1 Y true _ G1.out M1.out G2.out M2.out HC.out).mono ?_; rintro e w1 ⟨rfl, hb⟩; have HB1 := Aside0.mk (below_then HB.out HB.out.size hb); clear hb)
          go_roundg (xs.length - i)
          case measure => have := HI.out; omega
          case rel => exact ⟨i + 1, by go_num, ⟨⟨by omega, by omega, HN.out⟩⟩, HB1⟩
        | false =>
          have hr : false = r := by have := HN.out; simpa using this
          subst hr
          go_wp2_with (go_at_call 37; refine (concrete_contains.calls k B0 d0 X B1 d1 Y false _ G1.out M1.out G2.out M2.out HC.out).mono ?_; rintro e w1 ⟨rfl, hb⟩; have HB1 := Aside0.mk (below_then HB.out HB.out.size hb); clear hb)
          go_ret
          exact ⟨rfl, HB1.out⟩
      · have hi0 : decide (i < xs.length) = false := decide_eq_false hi
        have hq := HI.out.2.2
        rw [applFrom_end hi] at hq
        obtain rfl := Option.some.inj hq
        clear hq
        go_wp2
        go_ret
        exact ⟨rfl, HB.out⟩
  · rw [if_neg hl] at h
    obtain rfl := Option.some.inj h
    have t0 : (xs.length != ys.length) = true := by simpa using hl
    have t1 : ((xs.length : Int) != (ys.length : Int)) = true := by rw [bne_iff_ne]; omega
    clear h hl hr0 hr1
    go_enter Try.func36, Try.ntmps36
    go_wp2
    go_ret
    exact ⟨rfl, Below.refl _ _⟩

def concrete_Applies.f (k : Nat) (a0_0 : ByteArray) (l0_1 : List (List S37)) (l0_2 : List S37) (l0_3 : List S88) (l1 : List (List S37)) : Option Bool :=
  if l1.length = l0_1.length then applFrom k l1 l0_1 0 else some false
set_option maxHeartbeats 1000000 in
set_option maxRecDepth 100000 in
theorem concrete_Applies.calls (k : Nat) (a0_0 : ByteArray) (A0_1 : Option Addr) (c0_1 : Nat) (l0_1 : List (List S37)) (A0_2 : Option Addr) (c0_2 : Nat) (l0_2 : List S37) (A0_3 : Option Addr) (c0_3 : Nat) (l0_3 : List S88)
    (A1 : Option Addr) (c1 : Nat) (l1 : List (List S37)) (r : Bool) (w : World) (hr0_1 : Kd.C (Kd.slice 37 k37) w A0_1 l0_1.length l0_1) (hc0_1 : l0_1.length ≤ c0_1) (hr0_2 : Kd.C k37 w A0_2 l0_2.length l0_2) (hc0_2 : l0_2.length ≤ c0_2)
    (hr0_3 : Kd.C k88 w A0_3 l0_3.length l0_3) (hc0_3 : l0_3.length ≤ c0_3) (hr1 : Kd.C (Kd.slice 37 k37) w A1 l1.length l1) (hc1 : l1.length ≤ c1) (h : concrete_Applies.f k a0_0 l0_1 l0_2 l0_3 l1 = some r) :
    Calls Try.prog 16 #[.agg #[.string a0_0, .slice A0_1 l0_1.length c0_1, .slice A0_2 l0_2.length c0_2, .slice A0_3 l0_3.length c0_3], .slice A1 l1.length c1] w fun e w' => e = .returned (.bool r) ∧ Below w.heap.size w w' := by
  have H := Aside0.mk h
  have HR0 := Aside0.mk hr0_1
  have HR1 := Aside0.mk hr1
  clear h hr0_1 hr0_2 hr0_3 hr1 hc0_1 hc0_2 hc0_3 hc1
  go_enter Try.func16, Try.ntmps16
  go_wp2_with fail
  have HB := Aside0.mk ((Below.refl w.heap.size w).alloc (Nat.le_refl _) (.cells #[.string a0_0, .slice A0_1 l0_1.length c0_1, .slice A0_2 l0_2.length c0_2, .slice A0_3 l0_3.length c0_3] 33))
  refine (equalFunc_calls k A1 c1 l1 A0_1 c0_1 l0_1 r _ (Kd.C_below HR1.out HB.out) (Kd.C_below HR0.out HB.out) H.out).mono ?_
  rintro e w1 ⟨rfl, hb⟩
  have HB1 := Aside0.mk (below_then HB.out HB.out.size hb)
  clear hb
  go_wp2_with fail
  go_ret
  exact ⟨rfl, HB1.out⟩
end Go.Proofs.Ytfbfopfhfeijdaa.Pr
