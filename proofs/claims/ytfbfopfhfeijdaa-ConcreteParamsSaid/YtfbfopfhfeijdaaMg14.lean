/- Several texts in one: StConcreteParams, PrF38, PrF17, PlA, ParP. -/
import Derived.Test.YtfbfopfhfeijdaaMg1
import Derived.Test.YtfbfopfhfeijdaaParL
import Derived.Test.YtfbfopfhfeijdaaPr0
import Derived.Test.YtfbfopfhfeijdaaCt
import Derived.Test.YtfbfopfhfeijdaaMg7
import Derived.Test.YtfbfopfhfeijdaaMg12
import Derived.Test.YtfbfopfhfeijdaaPrF13
import Derived.Test.YtfbfopfhfeijdaaPrF62
import Derived.Test.YtfbfopfhfeijdaaPrF47
/- Plain laws: what contains, Applies and their references compute, on lists. -/
/- Plain laws: what the dimensions' tests compute, in the implementation and in the reference. -/
namespace Go.Proofs.Ytfbfopfhfeijdaa.PuConcreteParams
open Go.RowKit Go.Proofs.Ytfbfopfhfeijdaa.Pr Go.Proofs.Ytfbfopfhfeijdaa.Opn
def Said : Prop := ∀ (a0_0 : ByteArray) (l0_1 : List (S90)) (l0_2 : List ByteArray), (Ms.pair Ms.string (Ms.pair (Ms.slice ms90) (Ms.slice Ms.string))).good (a0_0, l0_1, l0_2) → ∃ k, pentaglotlaw33_ConcreteParams.f k a0_0 l0_1 l0_2 = some true
end Go.Proofs.Ytfbfopfhfeijdaa.PuConcreteParams

namespace Go.Proofs.Ytfbfopfhfeijdaa.Pr
open Go.Proofs.Ytfbfopfhfeijdaa.Ct Go.RowKit Go.Proofs.YtfbfopfhfeijdaaW.PrintWords Go.Proofs.YtfbfopfhfeijdaaW.PrintLast Go.Proofs.YtfbfopfhfeijdaaW.PrintMore
attribute [local go_sem] max2_int min2_int max_two min_two max_three min_three max_four min_four   -- for this text's walks alone
set_option linter.unusedVariables false
set_option linter.unusedSimpArgs false

attribute [local go_sem high] eqA37
/-! ### pentaglotref09_Contains: function 38 -/
mutual
def pentaglotref09_Contains.l0 : Nat → List (S37) → List (S37) → Int → Int → Option (Bool)
 | 0, _, _, _, _ => none
 | k + 1, x0, x10, x11, x12 => if x12 < x11 then (if 0 ≤ x12 then (if x12 < (x10.length : Int) then (pentaglotref09_Contains.l1 k x0 false x10 x11 x12 x0 (x0.length : Int) 0 ((rd_T37 x10 x12).f0) ((rd_T37 x10 x12).f1)) else (none)) else (none)) else (some true)
def pentaglotref09_Contains.l1 : Nat → List (S37) → Bool → List (S37) → Int → Int → List (S37) → Int → Int → ByteArray → ByteArray → Option (Bool)
 | 0, _, _, _, _, _, _, _, _, _, _ => none
 | k + 1, x0, x7, x10, x11, x12, x16, x17, x18, x158000, x158001 => if x18 < x17 then (if 0 ≤ x18 then (if x18 < (x16.length : Int) then (if x7 = true then (pentaglotref09_Contains.l1 k x0 true x10 x11 x12 x16 x17 (wrap64 (x18 + 1)) x158000 x158001) else (pentaglotref09_Contains.l1 k x0 (x158000.toList == (((rd_T37 x16 x18).f0).toList) && (x158001.toList == (((rd_T37 x16 x18).f1).toList))) x10 x11 x12 x16 x17 (wrap64 (x18 + 1)) x158000 x158001)) else (none)) else (none)) else (if x7 = true then (pentaglotref09_Contains.l0 k x0 x10 x11 (wrap64 (x12 + 1))) else (some false))
end
def pentaglotref09_Contains.f (k : Nat) (l0 : List (S37)) (l1 : List (S37)) : Option (Bool) := pentaglotref09_Contains.l0 k l0 l1 (l1.length : Int) 0
end Go.Proofs.Ytfbfopfhfeijdaa.Pr

namespace Go.Proofs.Ytfbfopfhfeijdaa.Pr
open Go.Proofs.Ytfbfopfhfeijdaa.Ct Go.RowKit Go.Proofs.YtfbfopfhfeijdaaW.PrintWords Go.Proofs.YtfbfopfhfeijdaaW.PrintLast Go.Proofs.YtfbfopfhfeijdaaW.PrintMore
attribute [local go_sem] max2_int min2_int max_two min_two max_three min_three max_four min_four   -- for this text's walks alone
set_option linter.unusedVariables false
set_option linter.unusedSimpArgs false

/-! ### pentaglotref33_Applies: function 17 -/
def pentaglotref33_Applies.l0 : Nat → List (List (S37)) → Int → Int → ByteArray → List (List (S37)) → List (S37) → List (S88) → Option (Bool)
 | 0, _, _, _, _, _, _, _ => none
 | k + 1, x1, x13, x14, x161000, x161001, x161002, x161003 => if x14 < x13 then (if 0 ≤ x14 then (if x14 < (x1.length : Int) then (if x14 < (x161001.length : Int) then ((pentaglotref09_Contains.f k (rd_L2 x1 x14) (rd_L2 x161001 x14)).bind fun t163 => (if t163 = true then (pentaglotref33_Applies.l0 k x1 x13 (wrap64 (x14 + 1)) x161000 x161001 x161002 x161003) else (some false))) else (none)) else (none)) else (none)) else (some true)
def pentaglotref33_Applies.B6 : List Nat := [0, 0, 3, 7, 0, 16, 0, 112, 240, 511, 1023]
end Go.Proofs.Ytfbfopfhfeijdaa.Pr

namespace Go.Proofs.Ytfbfopfhfeijdaa.Pr
open Go.RowKit Go.Proofs.YtfbfopfhfeijdaaW.PrintWords Go.Proofs.YtfbfopfhfeijdaaW.PrintLast Go.Proofs.YtfbfopfhfeijdaaW.PrintMore
set_option linter.unusedVariables false
set_option linter.unusedSimpArgs false

theorem wrap_next {i n : Nat} (h : i < n) (hn : n ≤ 9223372036854775807) : wrap64 ((i : Int) + 1) = ((i + 1 : Nat) : Int) := by
  unfold wrap64; omega
theorem rd_feat {xs : List S37} {i : Nat} (h : i < xs.length) : rd_T37 xs (i : Int) = xs[i] := by
  simp [rd_T37, List.getD_eq_getElem?_getD, h]
theorem rd_rec {xs : List (List S37)} {i : Nat} (h : i < xs.length) : rd_L2 xs (i : Int) = xs[i] := by
  simp [rd_L2, List.getD_eq_getElem?_getD, h]
theorem drop_at {α : Type} {xs : List α} {i : Nat} (h : i < xs.length) : xs.drop i = xs[i] :: xs.drop (i + 1) := List.drop_eq_getElem_cons h
theorem drop_end {α : Type} {xs : List α} {i : Nat} (h : ¬ i < xs.length) : xs.drop i = [] := List.drop_eq_nil_of_le (by omega)
def Small (xs : List (List S37)) : Prop := xs.length ≤ 9223372036854775807 ∧ ∀ x ∈ xs, x.length ≤ 9223372036854775807
/-- records ends. -/
theorem records_ev (xs : List (List S37)) (hx : Small xs) : ∃ r, Ev (fun k => pentaglotlaw33_records.f k xs) r := by
  have key : ∀ d (i : Nat), xs.length - i = d → ∃ r, Ev (fun k => pentaglotlaw33_records.l0 k xs i) r := by
    intro d
    induction d with
    | zero =>
      intro i hd
      refine ⟨decide ((xs.length : Int) ≤ 6), Ev.step (f := fun _ => some (decide ((xs.length : Int) ≤ 6))) (fun k => ?_) (Ev.now _)⟩
      simp only [pentaglotlaw33_records.l0]; rw [if_neg (by omega)]
    | succ d ih =>
      intro i hd
      have hi : i < xs.length := by omega
      have hxi := hx.2 _ (List.getElem_mem hi)
      by_cases hlen : ((xs[i]).length : Int) > 10
      · refine ⟨false, Ev.step (f := fun _ => some false) (fun k => ?_) (Ev.now _)⟩
        simp only [pentaglotlaw33_records.l0, rd_rec hi]; rw [if_pos (by omega), if_pos (by omega), if_pos hlen]
      · have k1 : ∀ e (j : Nat), xs[i].length - j = e → ∃ r, Ev (fun k => pentaglotlaw33_records.l1 k xs i j) r := by
          intro e
          induction e with
          | zero =>
            intro j he
            obtain ⟨r, hr⟩ := ih (i + 1) (by omega)
            refine ⟨r, Ev.step (fun k => ?_) hr⟩
            simp only [pentaglotlaw33_records.l1, rd_rec hi]; rw [if_pos (by omega), if_pos (by omega), if_neg (by omega), wrap_next hi hx.1]
          | succ e ihe =>
            intro j he
            have hj : j < xs[i].length := by omega
            have k2 : ∀ f (m : Nat), j - m = f → ∃ r, Ev (fun k => pentaglotlaw33_records.l2 k xs i j m) r := by
              intro f
              induction f with
              | zero =>
                intro m hm
                obtain ⟨r, hr⟩ := ihe (j + 1) (by omega)
                refine ⟨r, Ev.step (fun k => ?_) hr⟩
                simp only [pentaglotlaw33_records.l2]; rw [if_neg (by omega), wrap_next hj hxi]
              | succ f ihf =>
                intro m hm
                have hm' : m < xs[i].length := by omega
                by_cases e : (xs[i][m].f0).toList = (xs[i][j].f0).toList
                · refine ⟨false, Ev.step (f := fun _ => some false) (fun k => ?_) (Ev.now _)⟩
                  simp only [pentaglotlaw33_records.l2, rd_rec hi, rd_feat hm', rd_feat hj]
                  rw [if_pos (by omega), if_pos (by omega), if_pos (by omega), if_pos (by omega), if_pos (by omega), if_pos (by omega), if_pos (by omega), if_pos e]
                · obtain ⟨r, hr⟩ := ihf (m + 1) (by omega)
                  refine ⟨r, Ev.step (fun k => ?_) hr⟩
                  simp only [pentaglotlaw33_records.l2, rd_rec hi, rd_feat hm', rd_feat hj]
                  rw [if_pos (by omega), if_pos (by omega), if_pos (by omega), if_pos (by omega), if_pos (by omega), if_pos (by omega), if_pos (by omega), if_neg e, wrap_next hm' hxi]
            obtain ⟨r, hr⟩ := k2 _ 0 rfl
            refine ⟨r, Ev.step (fun k => ?_) hr⟩
            simp only [pentaglotlaw33_records.l1, rd_rec hi]; rw [if_pos (by omega), if_pos (by omega), if_pos (by omega)]; rfl
        obtain ⟨r, hr⟩ := k1 _ 0 rfl
        refine ⟨r, Ev.step (fun k => ?_) hr⟩
        simp only [pentaglotlaw33_records.l0, rd_rec hi]; rw [if_pos (by omega), if_pos (by omega), if_neg hlen]; rfl
  exact key _ 0 rfl
end Go.Proofs.Ytfbfopfhfeijdaa.Pr

namespace Go.Proofs.Ytfbfopfhfeijdaa.Pr
open Go.RowKit Go.Proofs.YtfbfopfhfeijdaaW.PrintWords Go.Proofs.YtfbfopfhfeijdaaW.PrintLast Go.Proofs.YtfbfopfhfeijdaaW.PrintMore
set_option linter.unusedVariables false
set_option linter.unusedSimpArgs false
theorem ev_andB {c r : Bool} {G : Nat → Option Bool} (h : Ev G r) : Ev (fun k => if c = true then G k else some false) (c && r) := by
  cases c
  · exact Ev.congr (fun k => by simp) (Ev.now false)
  · exact Ev.congr (f := G) (fun k => by simp) (by simpa using h)
theorem ev_notB {c r : Bool} {G : Nat → Option Bool} (h : Ev G r) : Ev (fun k => if c = true then some false else G k) (!c && r) := by
  cases c
  · exact Ev.congr (f := G) (fun k => by simp) (by simpa using h)
  · exact Ev.congr (fun k => by simp) (Ev.now false)
/-- A loop that stops at the first index that fails. -/
theorem loop_all {n : Nat} (p : Nat → Bool) (F : Nat → Nat → Option Bool) (r : Bool) (hend : Ev (fun k => F k n) r) (hstep : ∀ i, i < n → ∀ r', Ev (fun k => F k (i + 1)) r' → Ev (fun k => F k i) (p i && r')) :
    ∀ d i, n - i = d → i ≤ n → Ev (fun k => F k i) (((List.range n).drop i).all p && r) := by
  intro d
  induction d with
  | zero =>
    intro i hd hi
    obtain rfl : i = n := by omega
    rw [List.drop_eq_nil_of_le (by simp)]
    simpa using hend
  | succ d ih =>
    intro i hd hi
    have hlt : i < n := by omega
    have h := hstep i hlt _ (ih (i + 1) (by omega) (by omega))
    rw [List.drop_eq_getElem_cons (by simpa using hlt), List.all_cons, List.getElem_range, Bool.and_assoc]
    exact h
theorem loop_from0 {n : Nat} (p : Nat → Bool) (F : Nat → Nat → Option Bool) (r : Bool) (hend : Ev (fun k => F k n) r) (hstep : ∀ i, i < n → ∀ r', Ev (fun k => F k (i + 1)) r' → Ev (fun k => F k i) (p i && r')) :
    Ev (fun k => F k 0) ((List.range n).all p && r) := by
  have h := loop_all p F r hend hstep n 0 (by omega) (by omega)
  rwa [List.drop_zero] at h
/-- A letter of a name. -/
def nameC (c : Int) : Bool := if c < 97 then (if c < 48 then decide (c = 45) else if c > 57 then decide (c = 45) else true) else if c > 122 then (if c < 48 then decide (c = 45) else if c > 57 then decide (c = 45) else true) else true
theorem nameC_if {α : Type} (c : Int) (A B : α) : (if c < 97 then (if c < 48 then (if c = 45 then A else B) else (if c > 57 then (if c = 45 then A else B) else A)) else (if c > 122 then (if c < 48 then (if c = 45 then A else B) else (if c > 57 then (if c = 45 then A else B) else A)) else A)) = if nameC c = true then A else B := by
  unfold nameC
  repeat' split
  all_goals first | rfl | (simp_all; done) | (exfalso; simp_all; omega)
def nameP (s : ByteArray) : Bool := (List.range s.size).all (fun j => nameC (bt s j)) && decide (s.size > 0)
theorem toList_ne (s : ByteArray) : (s.toList != ([] : List UInt8)) = decide (s.size > 0) := by
  have h : s.toList.length = s.size := by rw [ByteArray.toList_eq]; exact Array.length_toList
  cases e : s.toList with
  | nil => rw [e] at h; have h0 : s.size = 0 := h.symm; simp [h0]
  | cons a l => rw [e] at h; have h0 : 0 < s.size := (by rw [← h]; simp); simp [h0]
theorem name_ev (s : ByteArray) (hs : s.size ≤ 9223372036854775807) : Ev (fun k => feature_name.f k s) (nameP s) := by
  refine loop_from0 (fun j => nameC (bt s j)) (fun k i => feature_name.l0 k s (i : Int)) _ ?_ ?_
  · refine Ev.step (f := fun _ => some (decide (s.size > 0))) (fun k => ?_) (Ev.now _)
    simp only [feature_name.l0]; rw [if_neg (by omega), toList_ne]
  · intro i hi r' h
    refine Ev.step (f := fun k => if nameC (bt s i) = true then feature_name.l0 k s ((i + 1 : Nat) : Int) else some false) (fun k => ?_) (ev_andB h)
    simp only [feature_name.l0]; rw [if_pos (by omega), if_pos (by omega), wrap_next hi hs, nameC_if]
theorem refName_ev (s : ByteArray) (hs : s.size ≤ 9223372036854775807) : Ev (fun k => pentaglotref02_Name.f k s) (nameP s) := by
  refine loop_from0 (fun j => nameC (bt s j)) (fun k i => pentaglotref02_Name.l0 k s (i : Int)) _ ?_ ?_
  · refine Ev.step (f := fun _ => some (decide (s.size > 0))) (fun k => ?_) (Ev.now _)
    simp only [pentaglotref02_Name.l0]; rw [if_neg (by omega)]; congr 1; simp
  · intro i hi r' h
    refine Ev.step (f := fun k => if nameC (bt s i) = true then pentaglotref02_Name.l0 k s ((i + 1 : Nat) : Int) else some false) (fun k => ?_) (ev_andB h)
    simp only [pentaglotref02_Name.l0]; rw [if_pos (by omega), if_pos (by omega), wrap_next hi hs, nameC_if]
theorem rd_str {xs : List ByteArray} {i : Nat} (h : i < xs.length) : rdOf ByteArray.empty xs (i : Int) = xs[i] := by
  simp [rdOf, List.getD_eq_getElem?_getD, h]
theorem rd_dim {xs : List S90} {i : Nat} (h : i < xs.length) : rd_T90 xs (i : Int) = xs[i] := by
  simp [rd_T90, List.getD_eq_getElem?_getD, h]
/-- Is a string in a list? -/
def inP (l : List ByteArray) (a : ByteArray) : Bool := l.any fun x => x.toList == a.toList
theorem indexS_ev (xs : List ByteArray) (a : ByteArray) (hx : xs.length ≤ 9223372036854775807) : ∀ d (i : Nat), xs.length - i = d →
    ∃ r : Int, Ev (fun k => slices_Index_string_string.l0 k xs a (xs.length : Int) i) r ∧ decide (r ≥ 0) = inP (xs.drop i) a := by
  intro d
  induction d with
  | zero =>
    intro i hd
    refine ⟨-1, Ev.step (f := fun _ => some (-1)) (fun k => ?_) (Ev.now _), ?_⟩
    · simp only [slices_Index_string_string.l0]; rw [if_neg (by omega)]
    · rw [drop_end (by omega)]; rfl
  | succ d ih =>
    intro i hd
    have hi : i < xs.length := by omega
    rw [drop_at hi]
    by_cases e : a.toList = (xs[i]).toList
    · refine ⟨i, Ev.step (f := fun _ => some (i : Int)) (fun k => ?_) (Ev.now _), ?_⟩
      · simp only [slices_Index_string_string.l0, rd_str hi]; rw [if_pos (by omega), if_pos (by omega), if_pos (by omega), if_pos e]
      · unfold inP; rw [List.any_cons, ← e]; simp
    · obtain ⟨r, h1, h2⟩ := ih (i + 1) (by omega)
      refine ⟨r, Ev.step (fun k => ?_) h1, ?_⟩
      · simp only [slices_Index_string_string.l0, rd_str hi]; rw [if_pos (by omega), if_pos (by omega), if_pos (by omega), if_neg e, wrap_next hi hx]
      · rw [h2]; unfold inP; rw [List.any_cons, show ((xs[i]).toList == a.toList) = false from by simpa using fun h => e h.symm]; simp
theorem containsS_ev (xs : List ByteArray) (a : ByteArray) (hx : xs.length ≤ 9223372036854775807) : Ev (fun k => slices_Contains_string_string.f k xs a) (inP xs a) := by
  obtain ⟨r, h1, h2⟩ := indexS_ev xs a hx _ 0 rfl
  rw [List.drop_zero] at h2
  rw [← h2]
  exact Ev.bind h1 (Ev.now _)
theorem in_ev (xs : List ByteArray) (a : ByteArray) (hx : xs.length ≤ 9223372036854775807) : Ev (fun k => pentaglotref02_In.f k xs a) (inP xs a) := by
  have key : ∀ d (i : Nat), xs.length - i = d → Ev (fun k => pentaglotref02_In.l0 k xs a i) (inP (xs.drop i) a) := by
    intro d
    induction d with
    | zero =>
      intro i hd
      rw [drop_end (by omega)]
      refine Ev.step (f := fun _ => some false) (fun k => ?_) (Ev.now _)
      simp only [pentaglotref02_In.l0]; rw [if_neg (by omega)]
    | succ d ih =>
      intro i hd
      have hi : i < xs.length := by omega
      rw [drop_at hi]
      unfold inP
      rw [List.any_cons]
      by_cases e : (xs[i]).toList = a.toList
      · refine Ev.step (f := fun _ => some true) (fun k => ?_) (by rw [e]; simpa using Ev.now true)
        simp only [pentaglotref02_In.l0, rd_str hi]; rw [if_pos (by omega), if_pos (by omega), if_pos e]
      · rw [show ((xs[i]).toList == a.toList) = false from by simpa using e, Bool.false_or]
        refine Ev.step (fun k => ?_) (ih (i + 1) (by omega))
        simp only [pentaglotref02_In.l0, rd_str hi]; rw [if_pos (by omega), if_pos (by omega), if_neg e, wrap_next hi hx]
  exact key _ 0 rfl
/-- The value j of a dimension is a name, and none before it is the same. -/
def valP (vs : List ByteArray) (j : Nat) : Bool := nameP (vs.getD j ByteArray.empty) && !inP (vs.take j) (vs.getD j ByteArray.empty)
def earlP (l : List S90) (d : S90) (j : Nat) : Bool := !((l.getD j z90).f0.toList == d.f0.toList)
def dimP (l : List S90) (i : Nat) : Bool := nameP (l.getD i z90).f0 && (decide (1 ≤ (l.getD i z90).f1.length) && (decide ((l.getD i z90).f1.length ≤ 8) && ((List.range (l.getD i z90).f1.length).all (valP (l.getD i z90).f1) && (List.range i).all (earlP l (l.getD i z90)))))
def dimsP (l : List S90) : Bool := decide (l.length ≤ 4) && (List.range l.length).all (dimP l)
theorem getD_at {α : Type} {xs : List α} {i : Nat} {z : α} (h : i < xs.length) : xs.getD i z = xs[i] := by simp [List.getD_eq_getElem?_getD, h]
end Go.Proofs.Ytfbfopfhfeijdaa.Pr
