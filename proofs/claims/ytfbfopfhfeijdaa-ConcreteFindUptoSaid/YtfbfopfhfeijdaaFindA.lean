/- slices.IndexFunc at concrete.find's closure: the place of the first category with a name. -/
import Derived.Test.YtfbfopfhfeijdaaCt
import Derived.Test.YtfbfopfhfeijdaaMg2
namespace Go.Proofs.Ytfbfopfhfeijdaa.Pr
open Go.Proofs.Ytfbfopfhfeijdaa.Ct Go.RowKit Go.Proofs.YtfbfopfhfeijdaaW.PrintWords Go.Proofs.YtfbfopfhfeijdaaW.PrintLast Go.Proofs.YtfbfopfhfeijdaaW.PrintMore
set_option linter.unusedVariables false
set_option linter.unusedSimpArgs false
/-- The place of the first category with a name from place i on, or -1. -/
def catFrom (xs : List S68) (nm : ByteArray) : Nat → Int
  | i => if h : i < xs.length then (if (xs[i].f0).toList = nm.toList then (i : Int) else catFrom xs nm (i + 1)) else -1
termination_by i => xs.length - i
theorem catFrom_end {xs : List S68} {nm : ByteArray} {i : Nat} (h : ¬ i < xs.length) : catFrom xs nm i = -1 := by unfold catFrom; rw [dif_neg h]
theorem rdc {xs : List S68} {i : Nat} (h : i < xs.length) : rd_T68 xs (i : Int) = xs[i] := by simp [rd_T68, List.getD_eq_getElem?_getD, h]
theorem catFrom_hit {xs : List S68} {nm : ByteArray} {i : Nat} (h : i < xs.length) (e : ((rd_T68 xs i).f0).toList = nm.toList) : catFrom xs nm i = (i : Int) := by
  rw [rdc h] at e
  unfold catFrom; rw [dif_pos h, if_pos e]
theorem catFrom_miss {xs : List S68} {nm : ByteArray} {i : Nat} (h : i < xs.length) (e : ¬ ((rd_T68 xs i).f0).toList = nm.toList) : catFrom xs nm i = catFrom xs nm (i + 1) := by
  rw [rdc h] at e
  rw [catFrom, dif_pos h, if_neg e]

set_option maxHeartbeats 1000000 in
set_option maxRecDepth 100000 in
theorem pred_calls (B : Nat) (x : ByteArray) (v1 v2 : Value) (nm : ByteArray) (w : World) (b : Bool) (hb : (x.toList == nm.toList) = b) (hB : w.cell? ⟨B, 0, none⟩ = some (.string nm)) (h1 : v1.oneCell' = true) (h2 : v2.oneCell' = true) :
    Calls Try.prog 57 #[.agg #[.string x, v1, v2], .pointer (some ⟨B, 0, none⟩)] w fun e w' => e = .returned (.bool b) ∧ Below w.heap.size w w' := by
  have hlt := World.block_lt_of_cell? w _ hB
  have hne : (B == w.heap.size) = false := by simpa using (Nat.ne_of_lt hlt)
  subst hb
  go_enter Try.func57, Try.ntmps57
  go_wp2
  go_ret
  exact ⟨rfl, (Below.refl _ _).alloc (Nat.le_refl _) _⟩

set_option maxHeartbeats 1000000 in
set_option maxRecDepth 100000 in
theorem indexFunc_calls (B : Nat) (A : Option Addr) (c : Nat) (xs : List S68) (nm : ByteArray) (w : World) (hr : Kd.C k68 w A xs.length xs) (hB : w.cell? ⟨B, 0, none⟩ = some (.string nm)) :
    Calls Try.prog 56 #[.slice A xs.length c, .func (.func 57) #[] #[.pointer (some ⟨B, 0, none⟩)]] w fun e w' => e = .returned (.int .i64 (catFrom xs nm 0)) ∧ Below w.heap.size w w' := by
  have HR := Aside0.mk hr
  have HN := Aside0.mk hB
  have l0 : xs.length ≤ 9223372036854775807 := hr.2.1
  clear hr hB
  go_enter Try.func56, Try.ntmps56
  go_wp2
  go_loopg [8] (xs.length + 1) (fun n v w' => ∃ i : Nat, v = .int .i64 i ∧ Aside0 (i ≤ xs.length ∧ n = xs.length + 1 - i ∧ catFrom xs nm 0 = catFrom xs nm i) ∧ Aside0 (Below w.heap.size w w'))
  case atStart => exact ⟨0, rfl, ⟨⟨Nat.zero_le _, by omega, rfl⟩⟩, ⟨Below.refl _ _⟩⟩
  case round =>
    obtain ⟨i, rfl, HI, HB⟩ := hrel
    by_cases hi : i < xs.length
    · have hi0 : decide (i < xs.length) = true := decide_eq_true hi
      obtain ⟨ad, A1, c1, A2, c2, e1, k0, k1, k2, m1, g1, m2, g2⟩ := at_T68 HR.out (i : Int) (by omega) (by omega)
      cases e1
      simp only [Int.toNat_natCast] at k0 k1 k2
      replace k0 := celB HB k0
      replace k1 := celB HB k1
      replace k2 := celB HB k2
      have HC := Aside0.mk (celB HB HN.out)
      clear m1 g1 m2 g2
      by_cases e : ((rd_T68 xs (i : Int)).f0).toList = nm.toList
      · have HV := Aside0.mk (HI.out.2.2.trans (catFrom_hit hi e))
        have HT := Aside0.mk (show ((rd_T68 xs (i : Int)).f0.toList == nm.toList) = true from beq_iff_eq.mpr e)
        clear e
        go_wp2_with (go_at_call 57; refine (pred_calls B _ _ _ nm _ true HT.out HC.out rfl rfl).mono ?_; rintro e w1 ⟨rfl, hb⟩; have HB1 := Aside0.mk (below_then HB.out HB.out.size hb); clear hb)
        go_ret
        rw [HV.out]
        exact ⟨rfl, HB1.out⟩
      · have HV := Aside0.mk (HI.out.2.2.trans (catFrom_miss hi e))
        have HT := Aside0.mk (show ((rd_T68 xs (i : Int)).f0.toList == nm.toList) = false from beq_eq_false_iff_ne.mpr e)
        clear e
        go_wp2_with (go_at_call 57; refine (pred_calls B _ _ _ nm _ false HT.out HC.out rfl rfl).mono ?_; rintro e w1 ⟨rfl, hb⟩; have HB1 := Aside0.mk (below_then HB.out HB.out.size hb); clear hb)
        go_roundg (xs.length - i)
        case measure => have := HI.out; omega
        case rel => exact ⟨i + 1, by go_num, ⟨⟨by omega, by omega, HV.out⟩⟩, HB1⟩
    · have hi0 : decide (i < xs.length) = false := decide_eq_false hi
      have HV := Aside0.mk (HI.out.2.2.trans (catFrom_end hi))
      clear HI
      go_wp2
      go_ret
      rw [HV.out]
      exact ⟨rfl, HB.out⟩
end Go.Proofs.Ytfbfopfhfeijdaa.Pr
