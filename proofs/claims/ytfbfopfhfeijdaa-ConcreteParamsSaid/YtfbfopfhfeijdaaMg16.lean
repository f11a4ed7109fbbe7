/- Several texts in one: ClipF, CloneF, PrF41, PrF42, PrF24, PlF. -/
import Derived.Test.YtfbfopfhfeijdaaPr0
import Derived.WalkKit
import Derived.Lib.Walk
import Derived.Lib.SliceRun
import Derived.Test.YtfbfopfhfeijdaaCt
import Derived.Test.YtfbfopfhfeijdaaMg7
import Derived.Test.YtfbfopfhfeijdaaPrF29
import Derived.Test.YtfbfopfhfeijdaaPlE
/- slices.Clip at features: the same row, its capacity its length. -/
/- slices.Clone at features: a new row of the same elements. -/
/- Plain laws: a copied rule is the rule, and a rule is the same as itself. -/
namespace Go.Proofs.Ytfbfopfhfeijdaa.Pr
open Go.RowKit Go.Proofs.YtfbfopfhfeijdaaW.PrintWords Go.Proofs.YtfbfopfhfeijdaaW.PrintLast Go.Proofs.YtfbfopfhfeijdaaW.PrintMore
set_option linter.unusedVariables false
def api_Feature_54.f (l0 : List S37) : Option (List S37) := some l0
end Go.Proofs.Ytfbfopfhfeijdaa.Pr

namespace Go.Proofs.Ytfbfopfhfeijdaa.Pr
open Go.RowKit Go.Proofs.YtfbfopfhfeijdaaW.PrintWords Go.Proofs.YtfbfopfhfeijdaaW.PrintLast Go.Proofs.YtfbfopfhfeijdaaW.PrintMore
set_option linter.unusedVariables false
def api_Feature_55.f (l0 : List S37) : Option (List S37) := if l0.length * 32 ≤ 140737488355328 then some l0 else none
end Go.Proofs.Ytfbfopfhfeijdaa.Pr

namespace Go.Proofs.Ytfbfopfhfeijdaa.Pr
open Go.Proofs.Ytfbfopfhfeijdaa.Ct Go.RowKit Go.Proofs.YtfbfopfhfeijdaaW.PrintWords Go.Proofs.YtfbfopfhfeijdaaW.PrintLast Go.Proofs.YtfbfopfhfeijdaaW.PrintMore
attribute [local go_sem] max2_int min2_int max_two min_two max_three min_three max_four min_four   -- for this text's walks alone
set_option linter.unusedVariables false
set_option linter.unusedSimpArgs false

/-! ### concrete_copiedRule: function 41 -/
mutual
def concrete_copiedRule.l0 : Nat → List (List (S37)) → Int → Int → ByteArray → List (List (S37)) → List (S37) → List (S88) → ByteArray → List (List (S37)) → List (S37) → Option (ByteArray × (List (List (S37))) × (List (S37)) × (List (S88)))
 | 0, _, _, _, _, _, _, _, _, _, _ => none
 | k + 1, x19, x20, x21, x216000, x216001, x216002, x216003, x224000, x224001, x224002 => if x21 < x20 then (if 0 ≤ x21 then (if x21 < (x19.length : Int) then ((api_Feature_55.f (rd_L2 x19 x21)).bind fun t225 => ((api_Feature_54.f t225).bind fun t228 => (if x224001.length < 5864062014805 then (concrete_copiedRule.l0 k x19 x20 (wrap64 (x21 + 1)) x216000 x216001 x216002 x216003 x224000 (x224001 ++ [t228]) x224002) else (none)))) else (none)) else (none)) else (concrete_copiedRule.l1 k x216003 (x216003.length : Int) 0 x224000 x224001 x224002 ([] : List (S88)))
def concrete_copiedRule.l1 : Nat → List (S88) → Int → Int → ByteArray → List (List (S37)) → List (S37) → List (S88) → Option (ByteArray × (List (List (S37))) × (List (S37)) × (List (S88)))
 | 0, _, _, _, _, _, _, _ => none
 | k + 1, x35, x36, x37, x224000, x224001, x224002, x224003 => if x37 < x36 then (if 0 ≤ x37 then (if x37 < (x35.length : Int) then (concrete_copiedRule.l2 k x35 x36 x37 ((rd_T88 x35 x37).f1) (((rd_T88 x35 x37).f1).length : Int) 0 x224000 x224001 x224002 x224003 ((rd_T88 x35 x37).f0) ([] : List (S94))) else (none)) else (none)) else (some (x224000, x224001, x224002, x224003))
def concrete_copiedRule.l2 : Nat → List (S88) → Int → Int → List (S94) → Int → Int → ByteArray → List (List (S37)) → List (S37) → List (S88) → ByteArray → List (S94) → Option (ByteArray × (List (List (S37))) × (List (S37)) × (List (S88)))
 | 0, _, _, _, _, _, _, _, _, _, _, _, _ => none
 | k + 1, x35, x36, x37, x45, x46, x47, x224000, x224001, x224002, x224003, x237000, x237001 => if x47 < x46 then (if 0 ≤ x47 then (if x47 < (x45.length : Int) then ((api_Feature_55.f ((rd_T94 x45 x47).f4)).bind fun t239 => ((api_Feature_54.f t239).bind fun t242 => (if x237001.length < 1954687338268 then (concrete_copiedRule.l2 k x35 x36 x37 x45 x46 (wrap64 (x47 + 1)) x224000 x224001 x224002 x224003 x237000 (x237001 ++ [(⟨(rd_T94 x45 x47).f0, (rd_T94 x45 x47).f1, (rd_T94 x45 x47).f2, (rd_T94 x45 x47).f3, t242⟩ : S94)])) else (none)))) else (none)) else (none)) else (if x224003.length < 3518437208883 then (concrete_copiedRule.l1 k x35 x36 (wrap64 (x37 + 1)) x224000 x224001 x224002 (x224003 ++ [(⟨x237000, x237001⟩ : S88)])) else (none))
end
def concrete_copiedRule.B1 : List Nat := [0, 1, 0, 4, 12, 28, 63, 0, 255]
def concrete_copiedRule.B5 : List Nat := [0, 1, 0, 4, 12, 28, 63, 127, 255]
end Go.Proofs.Ytfbfopfhfeijdaa.Pr

namespace Go.Proofs.Ytfbfopfhfeijdaa.Pr
open Go.Proofs.Ytfbfopfhfeijdaa.Ct Go.RowKit Go.Proofs.YtfbfopfhfeijdaaW.PrintWords Go.Proofs.YtfbfopfhfeijdaaW.PrintLast Go.Proofs.YtfbfopfhfeijdaaW.PrintMore
attribute [local go_sem] max2_int min2_int max_two min_two max_three min_three max_four min_four   -- for this text's walks alone
set_option linter.unusedVariables false
set_option linter.unusedSimpArgs false

/-! ### pentaglotref33_SamePiece: function 42 -/
def pentaglotref33_SamePiece.f (k : Nat) (a0_0 : Int) (a0_1 : ByteArray) (a0_2 : Int) (a0_3 : ByteArray) (l0_4 : List (S37)) (a1_0 : Int) (a1_1 : ByteArray) (a1_2 : Int) (a1_3 : ByteArray) (l1_4 : List (S37)) : Option (Bool) := if a0_0 = a1_0 then (if a0_1.toList = a1_1.toList then (if a0_2 = a1_2 then (if a0_3.toList = a1_3.toList then ((pentaglotref02_Same.f k l0_4 l1_4).bind fun t288 => (some t288)) else (some false)) else (some false)) else (some false)) else (some false)
end Go.Proofs.Ytfbfopfhfeijdaa.Pr

namespace Go.Proofs.Ytfbfopfhfeijdaa.Pr
open Go.Proofs.Ytfbfopfhfeijdaa.Ct Go.RowKit Go.Proofs.YtfbfopfhfeijdaaW.PrintWords Go.Proofs.YtfbfopfhfeijdaaW.PrintLast Go.Proofs.YtfbfopfhfeijdaaW.PrintMore
attribute [local go_sem] max2_int min2_int max_two min_two max_three min_three max_four min_four   -- for this text's walks alone
set_option linter.unusedVariables false
set_option linter.unusedSimpArgs false

/-! ### pentaglotref33_SameRule: function 24 -/
mutual
def pentaglotref33_SameRule.j0 : Nat → Bool → ByteArray → List (List (S37)) → List (S37) → List (S88) → ByteArray → List (List (S37)) → List (S37) → List (S88) → Option (Bool)
 | 0, _, _, _, _, _, _, _, _, _ => none
 | k + 1, x47, x290000, x290001, x290002, x290003, x291000, x291001, x291002, x291003 => if x47 = true then (some false) else (pentaglotref33_SameRule.l0 k (x290003.length : Int) 0 x290000 x290001 x290002 x290003 x291000 x291001 x291002 x291003)
def pentaglotref33_SameRule.l0 : Nat → Int → Int → ByteArray → List (List (S37)) → List (S37) → List (S88) → ByteArray → List (List (S37)) → List (S37) → List (S88) → Option (Bool)
 | 0, _, _, _, _, _, _, _, _, _, _ => none
 | k + 1, x50, x51, x290000, x290001, x290002, x290003, x291000, x291001, x291002, x291003 => if x51 < x50 then (if 0 ≤ x51 then (if x51 < (x290003.length : Int) then (if x51 < (x291003.length : Int) then (if ((rd_T88 x290003 x51).f0).toList = ((rd_T88 x291003 x51).f0).toList then (pentaglotref33_SameRule.j2 k x50 x51 ((((rd_T88 x290003 x51).f1).length : Int) != (((rd_T88 x291003 x51).f1).length : Int)) x290000 x290001 x290002 x290003 x291000 x291001 x291002 x291003 ((rd_T88 x290003 x51).f0) ((rd_T88 x290003 x51).f1) ((rd_T88 x291003 x51).f0) ((rd_T88 x291003 x51).f1)) else (pentaglotref33_SameRule.j2 k x50 x51 true x290000 x290001 x290002 x290003 x291000 x291001 x291002 x291003 ((rd_T88 x290003 x51).f0) ((rd_T88 x290003 x51).f1) ((rd_T88 x291003 x51).f0) ((rd_T88 x291003 x51).f1))) else (none)) else (none)) else (none)) else (some true)
def pentaglotref33_SameRule.j2 : Nat → Int → Int → Bool → ByteArray → List (List (S37)) → List (S37) → List (S88) → ByteArray → List (List (S37)) → List (S37) → List (S88) → ByteArray → List (S94) → ByteArray → List (S94) → Option (Bool)
 | 0, _, _, _, _, _, _, _, _, _, _, _, _, _, _, _ => none
 | k + 1, x50, x51, x77, x290000, x290001, x290002, x290003, x291000, x291001, x291002, x291003, x296000, x296001, x297000, x297001 => if x77 = true then (some false) else (pentaglotref33_SameRule.l1 k x50 x51 (x296001.length : Int) 0 x290000 x290001 x290002 x290003 x291000 x291001 x291002 x291003 x296000 x296001 x297000 x297001)
def pentaglotref33_SameRule.l1 : Nat → Int → Int → Int → Int → ByteArray → List (List (S37)) → List (S37) → List (S88) → ByteArray → List (List (S37)) → List (S37) → List (S88) → ByteArray → List (S94) → ByteArray → List (S94) → Option (Bool)
 | 0, _, _, _, _, _, _, _, _, _, _, _, _, _, _, _, _ => none
 | k + 1, x50, x51, x80, x81, x290000, x290001, x290002, x290003, x291000, x291001, x291002, x291003, x296000, x296001, x297000, x297001 => if x81 < x80 then (if 0 ≤ x81 then (if x81 < (x296001.length : Int) then (if x81 < (x297001.length : Int) then ((pentaglotref33_SamePiece.f k ((rd_T94 x296001 x81).f0) ((rd_T94 x296001 x81).f1) ((rd_T94 x296001 x81).f2) ((rd_T94 x296001 x81).f3) ((rd_T94 x296001 x81).f4) ((rd_T94 x297001 x81).f0) ((rd_T94 x297001 x81).f1) ((rd_T94 x297001 x81).f2) ((rd_T94 x297001 x81).f3) ((rd_T94 x297001 x81).f4)).bind fun t299 => (if t299 = true then (pentaglotref33_SameRule.l1 k x50 x51 x80 (wrap64 (x81 + 1)) x290000 x290001 x290002 x290003 x291000 x291001 x291002 x291003 x296000 x296001 x297000 x297001) else (some false))) else (none)) else (none)) else (none)) else (pentaglotref33_SameRule.l0 k x50 (wrap64 (x51 + 1)) x290000 x290001 x290002 x290003 x291000 x291001 x291002 x291003)
end
def pentaglotref33_SameRule.B6 : List Nat := [0, 1, 0, 7, 15, 0, 32, 0, 224, 480, 0, 0, 3103, 8191]
end Go.Proofs.Ytfbfopfhfeijdaa.Pr

namespace Go.Proofs.Ytfbfopfhfeijdaa.Pr
open Go.RowKit Go.Proofs.YtfbfopfhfeijdaaW.PrintWords Go.Proofs.YtfbfopfhfeijdaaW.PrintLast Go.Proofs.YtfbfopfhfeijdaaW.PrintMore
set_option linter.unusedVariables false
set_option linter.unusedSimpArgs false
theorem same_refl (xs : List S37) (hx : xs.length ≤ 9223372036854775807) : Ev (fun k => pentaglotref02_Same.f k xs xs) true := by
  have key : ∀ d (i : Nat), xs.length - i = d → Ev (fun k => pentaglotref02_Same.l0 k xs xs i) true := by
    intro d
    induction d with
    | zero =>
      intro i hd
      refine Ev.step (f := fun _ => some true) (fun k => ?_) (Ev.now _)
      simp only [pentaglotref02_Same.l0]; rw [if_neg (by omega)]
    | succ d ih =>
      intro i hd
      have hi : i < xs.length := by omega
      refine Ev.step (fun k => ?_) (ih (i + 1) (by omega))
      simp only [pentaglotref02_Same.l0]
      rw [if_pos (by omega), if_pos (by omega), if_pos (by omega), if_neg (by simp), wrap_next hi hx]
  unfold pentaglotref02_Same.f
  simp only [if_true]
  exact key _ 0 rfl
theorem sameAll_refl (xs : List (List S37)) (hx : Small xs) : Ev (fun k => pentaglotref02_SameAll.f k xs xs) true := by
  have key : ∀ d (i : Nat), xs.length - i = d → Ev (fun k => pentaglotref02_SameAll.l0 k xs xs i) true := by
    intro d
    induction d with
    | zero =>
      intro i hd
      refine Ev.step (f := fun _ => some true) (fun k => ?_) (Ev.now _)
      simp only [pentaglotref02_SameAll.l0]; rw [if_neg (by omega)]
    | succ d ih =>
      intro i hd
      have hi : i < xs.length := by omega
      refine Ev.step (f := fun k => (pentaglotref02_Same.f k xs[i] xs[i]).bind fun t => if t = true then pentaglotref02_SameAll.l0 k xs xs ((i + 1 : Nat) : Int) else some false) (fun k => ?_) (Ev.bind (same_refl _ (hx.2 _ (List.getElem_mem hi))) (by simp only [if_true]; exact ih (i + 1) (by omega)))
      simp only [pentaglotref02_SameAll.l0, rd_rec hi]
      rw [if_pos (by omega), if_pos (by omega), if_pos (by omega), wrap_next hi hx.1]
  unfold pentaglotref02_SameAll.f
  simp only [if_true]
  exact key _ 0 rfl
end Go.Proofs.Ytfbfopfhfeijdaa.Pr
