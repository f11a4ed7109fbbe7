/- Several texts in one: PrF38, PrF17, PlA. -/
import Derived.Test.YtfbfopfhfeijdaaPr0
import Derived.Test.YtfbfopfhfeijdaaCt
import Derived.Test.YtfbfopfhfeijdaaMg3
import Derived.Test.YtfbfopfhfeijdaaMg4
import Derived.Test.YtfbfopfhfeijdaaPrF13
import Derived.Test.YtfbfopfhfeijdaaAppl
/- Plain laws: what contains, Applies and their references compute, on lists. -/
namespace Go.Proofs.Ytfbfopfhfeijdaa.Pr
open Go.Proofs.Ytfbfopfhfeijdaa.Ct Go.RowKit Go.Proofs.YtfbfopfhfeijdaaW.PrintWords Go.Proofs.YtfbfopfhfeijdaaW.PrintLast Go.Proofs.YtfbfopfhfeijdaaW.PrintMore
attribute [local go_sem] max2_int min2_int max_two min_two max_three min_three max_four min_four   -- for this text's walks alone
set_option linter.unusedVariables false
set_option linter.unusedSimpArgs false

attribute [local go_sem high] eqA37
/-! ### pentaglotref09_Contains: function 38 -/
mutual
def pentaglotref09_Contains.l0 : Nat → List (S37) → List (S37) → Int → Int → Option (Bool)
 | 0, _, _, _, _ => none
 | k + 1, x0, x10, x11, x12 => if x12 < x11 then (if 0 ≤ x12 then (if x12 < (x10.length : Int) then (pentaglotref09_Contains.l1 k x0 false x10 x11 x12 x0 (x0.length : Int) 0 ((rd_T37 x10 x12).f0) ((rd_T37 x10 x12).f1)) else (none)) else (none)) else (some true)
def pentaglotref09_Contains.l1 : Nat → List (S37) → Bool → List (S37) → Int → Int → List (S37) → Int → Int → ByteArray → ByteArray → Option (Bool)
 | 0, _, _, _, _, _, _, _, _, _, _ => none
 | k + 1, x0, x7, x10, x11, x12, x16, x17, x18, x158000, x158001 => if x18 < x17 then (if 0 ≤ x18 then (if x18 < (x16.length : Int) then (if x7 = true then (pentaglotref09_Contains.l1 k x0 true x10 x11 x12 x16 x17 (wrap64 (x18 + 1)) x158000 x158001) else (pentaglotref09_Contains.l1 k x0 (x158000.toList == (((rd_T37 x16 x18).f0).toList) && (x158001.toList == (((rd_T37 x16 x18).f1).toList))) x10 x11 x12 x16 x17 (wrap64 (x18 + 1)) x158000 x158001)) else (none)) else (none)) else (if x7 = true then (pentaglotref09_Contains.l0 k x0 x10 x11 (wrap64 (x12 + 1))) else (some false))
end
def pentaglotref09_Contains.f (k : Nat) (l0 : List (S37)) (l1 : List (S37)) : Option (Bool) := pentaglotref09_Contains.l0 k l0 l1 (l1.length : Int) 0
end Go.Proofs.Ytfbfopfhfeijdaa.Pr

namespace Go.Proofs.Ytfbfopfhfeijdaa.Pr
open Go.Proofs.Ytfbfopfhfeijdaa.Ct Go.RowKit Go.Proofs.YtfbfopfhfeijdaaW.PrintWords Go.Proofs.YtfbfopfhfeijdaaW.PrintLast Go.Proofs.YtfbfopfhfeijdaaW.PrintMore
attribute [local go_sem] max2_int min2_int max_two min_two max_three min_three max_four min_four   -- for this text's walks alone
set_option linter.unusedVariables false
set_option linter.unusedSimpArgs false

/-! ### pentaglotref33_Applies: function 17 -/
def pentaglotref33_Applies.l0 : Nat → List (List (S37)) → Int → Int → ByteArray → List (List (S37)) → List (S37) → List (S88) → Option (Bool)
 | 0, _, _, _, _, _, _, _ => none
 | k + 1, x1, x13, x14, x161000, x161001, x161002, x161003 => if x14 < x13 then (if 0 ≤ x14 then (if x14 < (x1.length : Int) then (if x14 < (x161001.length : Int) then ((pentaglotref09_Contains.f k (rd_L2 x1 x14) (rd_L2 x161001 x14)).bind fun t163 => (if t163 = true then (pentaglotref33_Applies.l0 k x1 x13 (wrap64 (x14 + 1)) x161000 x161001 x161002 x161003) else (some false))) else (none)) else (none)) else (none)) else (some true)
def pentaglotref33_Applies.T6 : Bool × List (List Nat × List Nat) := (true, [([], []), ([], []), ([0, 1], [0, 1]), ([2], [2]), ([], []), ([4], [4]), ([], []), ([5, 6], [5, 6]), ([7], [7]), ([3, 8], [3, 8]), ([9], [9])])
def pentaglotref33_Applies.B6 : List Nat := [0, 0, 3, 7, 0, 16, 0, 112, 240, 511, 1023]
theorem pentaglotref33_Applies.tab6 : rtab .any (opsOf Try.f17 6) = pentaglotref33_Applies.T6 := by kernel_rfl
theorem pentaglotref33_Applies.bits6 : waitsOk pentaglotref33_Applies.T6.2 pentaglotref33_Applies.B6 = true := by kernel_rfl
end Go.Proofs.Ytfbfopfhfeijdaa.Pr

namespace Go.Proofs.Ytfbfopfhfeijdaa.Pr
open Go.RowKit Go.Proofs.YtfbfopfhfeijdaaW.PrintWords Go.Proofs.YtfbfopfhfeijdaaW.PrintLast Go.Proofs.YtfbfopfhfeijdaaW.PrintMore
set_option linter.unusedVariables false
set_option linter.unusedSimpArgs false

theorem wrap_next {i n : Nat} (h : i < n) (hn : n ≤ 9223372036854775807) : wrap64 ((i : Int) + 1) = ((i + 1 : Nat) : Int) := by
  unfold wrap64; omega
theorem rd_feat {xs : List S37} {i : Nat} (h : i < xs.length) : rd_T37 xs (i : Int) = xs[i] := by
  simp [rd_T37, List.getD_eq_getElem?_getD, h]
theorem rd_rec {xs : List (List S37)} {i : Nat} (h : i < xs.length) : rd_L2 xs (i : Int) = xs[i] := by
  simp [rd_L2, List.getD_eq_getElem?_getD, h]
theorem drop_at {α : Type} {xs : List α} {i : Nat} (h : i < xs.length) : xs.drop i = xs[i] :: xs.drop (i + 1) := List.drop_eq_getElem_cons h
theorem drop_end {α : Type} {xs : List α} {i : Nat} (h : ¬ i < xs.length) : xs.drop i = [] := List.drop_eq_nil_of_le (by omega)
def Small (xs : List (List S37)) : Prop := xs.length ≤ 9223372036854775807 ∧ ∀ x ∈ xs, x.length ≤ 9223372036854775807
/-- records ends. -/
theorem records_ev (xs : List (List S37)) (hx : Small xs) : ∃ r, Ev (fun k => pentaglotlaw33_records.f k xs) r := by
  have key : ∀ d (i : Nat), xs.length - i = d → ∃ r, Ev (fun k => pentaglotlaw33_records.l0 k xs i) r := by
    intro d
    induction d with
    | zero =>
      intro i hd
      refine ⟨decide ((xs.length : Int) ≤ 6), Ev.step (f := fun _ => some (decide ((xs.length : Int) ≤ 6))) (fun k => ?_) (Ev.now _)⟩
      simp only [pentaglotlaw33_records.l0]; rw [if_neg (by omega)]
    | succ d ih =>
      intro i hd
      have hi : i < xs.length := by omega
      have hxi := hx.2 _ (List.getElem_mem hi)
      by_cases hlen : ((xs[i]).length : Int) > 10
      · refine ⟨false, Ev.step (f := fun _ => some false) (fun k => ?_) (Ev.now _)⟩
        simp only [pentaglotlaw33_records.l0, rd_rec hi]; rw [if_pos (by omega), if_pos (by omega), if_pos hlen]
      · have k1 : ∀ e (j : Nat), xs[i].length - j = e → ∃ r, Ev (fun k => pentaglotlaw33_records.l1 k xs i j) r := by
          intro e
          induction e with
          | zero =>
            intro j he
            obtain ⟨r, hr⟩ := ih (i + 1) (by omega)
            refine ⟨r, Ev.step (fun k => ?_) hr⟩
            simp only [pentaglotlaw33_records.l1, rd_rec hi]; rw [if_pos (by omega), if_pos (by omega), if_neg (by omega), wrap_next hi hx.1]
          | succ e ihe =>
            intro j he
            have hj : j < xs[i].length := by omega
            have k2 : ∀ f (m : Nat), j - m = f → ∃ r, Ev (fun k => pentaglotlaw33_records.l2 k xs i j m) r := by
              intro f
              induction f with
              | zero =>
                intro m hm
                obtain ⟨r, hr⟩ := ihe (j + 1) (by omega)
                refine ⟨r, Ev.step (fun k => ?_) hr⟩
                simp only [pentaglotlaw33_records.l2]; rw [if_neg (by omega), wrap_next hj hxi]
              | succ f ihf =>
                intro m hm
                have hm' : m < xs[i].length := by omega
                by_cases e : (xs[i][m].f0).toList = (xs[i][j].f0).toList
                · refine ⟨false, Ev.step (f := fun _ => some false) (fun k => ?_) (Ev.now _)⟩
                  simp only [pentaglotlaw33_records.l2, rd_rec hi, rd_feat hm', rd_feat hj]
                  rw [if_pos (by omega), if_pos (by omega), if_pos (by omega), if_pos (by omega), if_pos (by omega), if_pos (by omega), if_pos (by omega), if_pos e]
                · obtain ⟨r, hr⟩ := ihf (m + 1) (by omega)
                  refine ⟨r, Ev.step (fun k => ?_) hr⟩
                  simp only [pentaglotlaw33_records.l2, rd_rec hi, rd_feat hm', rd_feat hj]
                  rw [if_pos (by omega), if_pos (by omega), if_pos (by omega), if_pos (by omega), if_pos (by omega), if_pos (by omega), if_pos (by omega), if_neg e, wrap_next hm' hxi]
            obtain ⟨r, hr⟩ := k2 _ 0 rfl
            refine ⟨r, Ev.step (fun k => ?_) hr⟩
            simp only [pentaglotlaw33_records.l1, rd_rec hi]; rw [if_pos (by omega), if_pos (by omega), if_pos (by omega)]; rfl
        obtain ⟨r, hr⟩ := k1 _ 0 rfl
        refine ⟨r, Ev.step (fun k => ?_) hr⟩
        simp only [pentaglotlaw33_records.l0, rd_rec hi]; rw [if_pos (by omega), if_pos (by omega), if_neg hlen]; rfl
  exact key _ 0 rfl
end Go.Proofs.Ytfbfopfhfeijdaa.Pr
