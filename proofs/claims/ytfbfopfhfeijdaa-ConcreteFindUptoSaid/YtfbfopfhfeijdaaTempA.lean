/- concrete.Template's closure: the value of a feature of a record. -/
import Derived.Test.YtfbfopfhfeijdaaPr0
import Derived.Lib.Hide
namespace Go.Proofs.Ytfbfopfhfeijdaa.Pr
open Go.RowKit Go.Proofs.YtfbfopfhfeijdaaW.PrintWords Go.Proofs.YtfbfopfhfeijdaaW.PrintLast Go.Proofs.YtfbfopfhfeijdaaW.PrintMore
set_option linter.unusedVariables false
set_option linter.unusedSimpArgs false

/-- The value of the first feature with a name, from place i on. -/
def valFrom (xs : List S37) (nm : ByteArray) : Nat → Option ByteArray
  | i => if h : i < xs.length then (if (xs[i].f0).toList = nm.toList then some xs[i].f1 else valFrom xs nm (i + 1)) else none
termination_by i => xs.length - i
def resolve (l : List (List S37)) (k : Int) (nm : ByteArray) : Option ByteArray :=
  if k < (l.length : Int) then valFrom (l.getD k.toNat []) nm 0 else none
def resV : Option ByteArray → ByteArray
  | none => ⟨#[]⟩
  | some v => v

theorem valFrom_end {xs : List S37} {nm : ByteArray} {i : Nat} (h : ¬ i < xs.length) : valFrom xs nm i = none := by unfold valFrom; rw [dif_neg h]
theorem valFrom_hit {xs : List S37} {nm : ByteArray} {i : Nat} (h : i < xs.length) (e : ((xs.getD i z37).f0).toList = nm.toList) : valFrom xs nm i = some (xs.getD i z37).f1 := by
  have hg : xs.getD i z37 = xs[i] := by simp [List.getD_eq_getElem?_getD, h]
  rw [hg] at e ⊢
  unfold valFrom; rw [dif_pos h, if_pos e]
theorem valFrom_miss {xs : List S37} {nm : ByteArray} {i : Nat} (h : i < xs.length) (e : ¬ ((xs.getD i z37).f0).toList = nm.toList) : valFrom xs nm i = valFrom xs nm (i + 1) := by
  have hg : xs.getD i z37 = xs[i] := by simp [List.getD_eq_getElem?_getD, h]
  rw [hg] at e
  rw [valFrom, dif_pos h, if_neg e]

set_option maxHeartbeats 1000000 in
set_option maxRecDepth 100000 in
theorem resolve_calls (B : Nat) (A : Option Addr) (c : Nat) (l : List (List S37)) (k : Int) (nm : ByteArray) (w : World) (hk : 0 ≤ k)
    (hB : w.cell? ⟨B, 0, none⟩ = some (.slice A l.length c)) (hr : Kd.C (Kd.slice 37 k37) w A l.length l) :
    Calls Try.prog 33 #[.int .i64 k, .string nm, .pointer (some ⟨B, 0, none⟩)] w fun e w' => e = .returned (.tuple #[.string (resV (resolve l k nm)), .bool (resolve l k nm).isSome]) ∧ Below w.heap.size w w' := by
  by_cases hlt : k < (l.length : Int)
  · obtain ⟨ad, A0, c0, rfl, hc, hl0, hr0⟩ := at_L2 hr k hk hlt
    have hres : resolve l k nm = valFrom (l.getD k.toNat []) nm 0 := by unfold resolve; rw [if_pos hlt]
    rw [hres]
    generalize hxs : rd_L2 l k = xs at hc hl0 hr0; have hxs2 : l.getD k.toNat [] = xs := hxs; rw [hxs2]
    have HR := Aside0.mk hr0
    have HL : xs.length ≤ 9223372036854775807 := hr0.2.1
    have h1 : decide (k < (l.length : Int)) = true := decide_eq_true hlt
    have h1' : decide ((l.length : Int) ≤ k) = false := decide_eq_false (by omega)
    have h0 : decide (0 ≤ k) = true := decide_eq_true hk
    have p1 := eq_true hk
    have q1 := eq_true hlt
    clear hk
    clear hr hres hr0 hlt hxs
    go_enter Try.func33, Try.ntmps33
    go_wp2
    go_loopg [18] (xs.length + 1) (fun n v w' => ∃ i : Nat, v = .int .i64 i ∧ Aside0 (i ≤ xs.length ∧ n = xs.length + 1 - i ∧ valFrom xs nm 0 = valFrom xs nm i) ∧ Aside0 (Below w.heap.size w w'))
    case atStart => exact ⟨0, rfl, ⟨⟨Nat.zero_le _, by omega, rfl⟩⟩, ⟨Below.refl _ _⟩⟩
    case round =>
      obtain ⟨i, rfl, HI, HB⟩ := hrel
      by_cases hi : i < xs.length
      · obtain ⟨ad2, e2, c0, c1⟩ := at_T37 HR.out (i : Int) (by omega) (by omega)
        cases e2
        simp only [Int.toNat_natCast] at c0 c1
        replace c0 := (HB.out.cell (World.block_lt_of_cell? w _ c0)).trans c0
        replace c1 := (HB.out.cell (World.block_lt_of_cell? w _ c1)).trans c1
        have hi0 : decide (i < xs.length) = true := decide_eq_true hi
        by_cases e : ((xs.getD i z37).f0).toList = nm.toList
        · have e1 : ((rd_T37 xs i).f0.toList == nm.toList) = true := beq_iff_eq.mpr e
          have HV := Aside0.mk (HI.out.2.2.trans (valFrom_hit hi e))
          clear e HI
          go_wp2
          go_ret2
          rw [HV.out]
          exact ⟨rfl, HB.out.alloc HB.out.size _⟩
        · have e1 : ((rd_T37 xs i).f0.toList == nm.toList) = false := beq_eq_false_iff_ne.mpr e
          have HV := Aside0.mk (HI.out.2.2.trans (valFrom_miss hi e))
          clear e
          go_wp2
          go_roundg (xs.length - i)
          case measure => have := HI.out; omega
          case rel => exact ⟨i + 1, by go_num, ⟨⟨by omega, by omega, HV.out⟩⟩, ⟨HB.out.alloc HB.out.size _⟩⟩
      · have hi0 : decide (i < xs.length) = false := decide_eq_false hi
        have HV := Aside0.mk (HI.out.2.2.trans (valFrom_end hi))
        clear HI
        go_wp2
        go_ret2
        rw [HV.out]
        exact ⟨rfl, HB.out⟩
  · have hres : resolve l k nm = none := by unfold resolve; rw [if_neg hlt]
    rw [hres]
    have h1' : decide ((l.length : Int) ≤ k) = true := decide_eq_true (by omega)
    go_enter Try.func33, Try.ntmps33
    go_wp2
    go_ret2
    exact ⟨rfl, Below.refl _ _⟩
end Go.Proofs.Ytfbfopfhfeijdaa.Pr
