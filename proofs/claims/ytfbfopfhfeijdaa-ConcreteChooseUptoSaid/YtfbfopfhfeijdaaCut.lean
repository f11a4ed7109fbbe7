/- strings.Cut at a separator of one byte: the world is as it was but for draws (no variable of the library's is read). -/
import Derived.Test.YtfbfopfhfeijdaaProg
import Derived.Test.YtfbfopfhfeijdaaShelf
import Derived.WalkKit
import Derived.Lib.Walk
import Derived.Lib.Strings
import Derived.Lib.Slices
import Derived.Lib.Bytealg
import Derived.BigCall
import Derived.BigGuard
import Derived.Deep.Draws
import Derived.Laws.Strings3
import Derived.Lib.CutLaws
import Derived.Lib.IndexBytes
import Derived.RegionTactic
import Derived.Lib.Hide
namespace Go.Proofs.Ytfbfopfhfeijdaa.Cut1
open Go.RowKit
set_option linter.unusedVariables false

/-- Where c is first (or the length). -/
def at1 : List UInt8 → UInt8 → Nat
  | [], _ => 0
  | b :: l, c => if b = c then 0 else at1 l c + 1
/-- Before, after, found. -/
def cut1 (l : List UInt8) (c : UInt8) : List UInt8 × List UInt8 × Bool := if at1 l c < l.length then (l.take (at1 l c), l.drop (at1 l c + 1), true) else (l, [], false)

theorem at1_le (l : List UInt8) (c : UInt8) : at1 l c ≤ l.length := by
  induction l with
  | nil => simp [at1]
  | cons b l ih => unfold at1; split <;> simp; omega
theorem index1 (l : List UInt8) (c : UInt8) : Lib.index l [c] = if at1 l c < l.length then (at1 l c : Int) else -1 := by
  rw [Lib.index_one]
  induction l with
  | nil => simp [Lib.indexByte, at1]
  | cons b l ih =>
    unfold Lib.indexByte at1
    by_cases h : b = c
    · subst h; simp
    · rw [ih]
      have h' : (b == c) = false := by simpa using h
      simp only [h', h, if_false]
      by_cases hc : at1 l c < l.length
      · have hn : ¬ ((at1 l c : Int) = -1) := by omega
        simp [hc, hn]
      · simp [hc]
theorem cut_eq (l : List UInt8) (c : UInt8) : Lib.cut l [c] = cut1 l c := by
  unfold Lib.cut cut1
  rw [index1]
  by_cases h : at1 l c < l.length
  · simp only [if_pos h, List.length_singleton, Int.toNat_natCast]
    rw [if_pos (by omega)]
  · simp only [if_neg h]
    rw [if_neg (by omega)]

set_option maxHeartbeats 2000000 in
set_option maxRecDepth 100000 in
theorem slCut (s : ByteArray) (c : UInt8) (w : World) (hs : s.size ≤ 9223372036854775806) :
    Calls Try.prog 70 #[.string s, .string ⟨#[c]⟩] w fun e w' => e = .returned (.tuple #[.string ⟨(cut1 s.data.toList c).1.toArray⟩, .string ⟨(cut1 s.data.toList c).2.1.toArray⟩, .bool (cut1 s.data.toList c).2.2]) ∧ ∃ n, w' = w.drewN n := by
  rw [← cut_eq]
  rcases Lib.indexB_cases s ⟨#[c]⟩ with hix | ⟨i, hix, hroom⟩
  · obtain ⟨e1, e2, e3⟩ := Lib.cutB_miss s ⟨#[c]⟩ hix
    have hq : Lib.indexByte s.data.toList c = -1 := by rw [← Lib.index_one]; exact hix
    rw [e1, e2, e3]
    have HQ := Lib.hid hq
    clear hq hix e1 e2 e3
    go_enter Try.func70, Try.ntmps70
    go_wp2_with (go_at_call 78; refine (Try.stringslite_Index_one s c _).mono ?_; rintro e w' ⟨rfl, rfl⟩; rw [HQ.out])
    go_ret3
    exact ⟨rfl, 0, rfl⟩
  · obtain ⟨e1, e2, e3⟩ := Lib.cutB_hit s ⟨#[c]⟩ i hix
    have hq : Lib.indexByte s.data.toList c = i := by rw [← Lib.index_one]; exact hix
    rw [e1, e2, e3]
    have h1 : (⟨#[c]⟩ : ByteArray).size = 1 := rfl
    rw [h1] at hroom ⊢
    have c1 : (0 : Int) ≤ ↑i := by omega
    have c2 : (↑i : Int) ≤ ↑s.size := by omega
    have c3 : (0 : Int) ≤ ↑i + 1 := by omega
    have c4 : (↑i + 1 : Int) ≤ ↑s.size := by omega
    have HQ := Lib.hid hq
    clear hq hix e1 e2 e3 h1
    go_enter Try.func70, Try.ntmps70
    go_wp2_with (go_at_call 78; refine (Try.stringslite_Index_one s c _).mono ?_; rintro e w' ⟨rfl, rfl⟩; rw [HQ.out])
    go_region
    all_goals (go_wp2; go_ret3; exact ⟨rfl, 1, rfl⟩)

set_option maxHeartbeats 1000000 in
/-- strings.Cut(s, "c") -/
theorem cut (s : ByteArray) (c : UInt8) (w : World) (hs : s.size ≤ 9223372036854775806) :
    Calls Try.prog 49 #[.string s, .string ⟨#[c]⟩] w fun e w' => e = .returned (.tuple #[.string ⟨(cut1 s.data.toList c).1.toArray⟩, .string ⟨(cut1 s.data.toList c).2.1.toArray⟩, .bool (cut1 s.data.toList c).2.2]) ∧ ∃ n, w' = w.drewN n := by
  go_enter Try.func49, Try.ntmps49
  go_wp2_with (go_at_call 70; refine (slCut s c _ hs).mono ?_; rintro e w' ⟨rfl, n, rfl⟩)
  go_ret3
  exact ⟨rfl, n, rfl⟩
end Go.Proofs.Ytfbfopfhfeijdaa.Cut1
