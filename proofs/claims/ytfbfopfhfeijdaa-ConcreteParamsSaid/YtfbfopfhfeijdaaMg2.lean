/- Several texts in one: ParA, ShelfSort, ParB, ParC. -/
import Derived.Test.YtfbfopfhfeijdaaCt
import Derived.WalkLawsBesides
import Derived.Shelf.SlLaysF0
import Derived.Ground.SlsfProg
import Derived.Test.YtfbfopfhfeijdaaProg
import Derived.Test.YtfbfopfhfeijdaaPr0
import Derived.Shelf.SlSortCmp.WholeK
import Derived.Sort.Walk0
/- cmp.Compare at strings, and feature.All's comparison of features by their names. -/
/-
  DERIVED: THE SHELF's CONTRACTS AT THIS DUMP, IN PLAIN WORDS (tools/lay-plain.mjs out of 'TryShelfSort.lean', which tools/lay-shelf.mjs wrote): THE SAME DECLARATIONS UNDER THE SAME NAMES: 'import', 'namespace', 'open', 'def', 'theorem' AND NOTHING ELSE: no command of the shelf's: FOR A HAND-IN. Each laying: the table of numbers ('.._ren') and one theorem, a field a fact of the dump's own or the kernel's comparison; each contract: ONE APPLICATION.
-/
/- slices.SortFunc at features, by feature.All's comparison: the row is a permutation of what it was, in the order of the names. -/
/- The sort of a row of features that its caller owns; the walk of feature.All's visit. -/
namespace Go.Proofs.Ytfbfopfhfeijdaa.Pr
open Go.Proofs.Ytfbfopfhfeijdaa.Ct Go.RowKit Go.Proofs.YtfbfopfhfeijdaaW.PrintWords Go.Proofs.YtfbfopfhfeijdaaW.PrintLast Go.Proofs.YtfbfopfhfeijdaaW.PrintMore
set_option linter.unusedVariables false
set_option linter.unusedSimpArgs false
/-- The order of two strings by their bytes. -/
def cmpS (x y : ByteArray) : Int := if Op.bytesLess x.toList y.toList = true then -1 else if x.toList = y.toList then 0 else 1
set_option maxHeartbeats 1000000 in
theorem isNaN_calls (x : ByteArray) (w : World) : Calls Try.prog 77 #[.string x] w fun e w' => e = .returned (.bool false) ∧ w = w' := by
  go_enter Try.func77, Try.ntmps77
  go_wp2
  go_ret
  exact ⟨by simp, rfl⟩
set_option maxHeartbeats 1000000 in
theorem compare_calls (x y : ByteArray) (w : World) : Calls Try.prog 66 #[.string x, .string y] w fun e w' => e = .returned (.int .i64 (cmpS x y)) ∧ w = w' := by
  by_cases h1 : Op.bytesLess x.toList y.toList = true
  · have hr : cmpS x y = -1 := by unfold cmpS; rw [if_pos h1]
    rw [hr]
    go_enter Try.func66, Try.ntmps66
    go_wp2_with (go_at_call 77; refine (isNaN_calls _ _).mono ?_; rintro e w' ⟨rfl, rfl⟩)
    go_ret
    exact ⟨rfl, rfl⟩
  · have h1' : Op.bytesLess x.toList y.toList = false := by simpa using h1
    by_cases h2 : x.toList = y.toList
    · have hr : cmpS x y = 0 := by unfold cmpS; rw [if_neg h1, if_pos h2]
      have h2' : (x.toList == y.toList) = true := beq_iff_eq.mpr h2
      rw [hr]
      clear h1 h2
      go_enter Try.func66, Try.ntmps66
      go_wp2_with (go_at_call 77; refine (isNaN_calls _ _).mono ?_; rintro e w' ⟨rfl, rfl⟩)
      go_ret
      exact ⟨rfl, rfl⟩
    · have hr : cmpS x y = 1 := by unfold cmpS; rw [if_neg h1, if_neg h2]
      have h2' : (x.toList == y.toList) = false := beq_eq_false_iff_ne.mpr h2
      rw [hr]
      clear h1 h2
      go_enter Try.func66, Try.ntmps66
      go_wp2_with (go_at_call 77; refine (isNaN_calls _ _).mono ?_; rintro e w' ⟨rfl, rfl⟩)
      go_ret
      exact ⟨rfl, rfl⟩
set_option maxHeartbeats 1000000 in
theorem cmpF_calls (a b c d : ByteArray) (w : World) : Calls Try.prog 65 #[.agg #[.string a, .string b], .agg #[.string c, .string d]] w fun e w' => e = .returned (.int .i64 (cmpS a c)) ∧ w' = (w.alloc (.cells #[.string a, .string b] 37)).alloc (.cells #[.string c, .string d] 37) := by
  go_enter Try.func65, Try.ntmps65
  go_wp2_with (go_at_call 66; refine (compare_calls _ _ _).mono ?_; rintro e w' ⟨rfl, rfl⟩)
  go_ret
  exact ⟨rfl, rfl⟩
end Go.Proofs.Ytfbfopfhfeijdaa.Pr

namespace Go.Proofs
open Go.Shelf
def Try.sortF_ren : Go.Shelf.Ren := ⟨fun | 6 => 64 | 15 => 76 | 14 => 75 | 28 => 89 | 29 => 90 | 20 => 81 | 21 => 82 | 22 => 83 | 23 => 84 | 24 => 85 | 25 => 86 | 26 => 87 | 27 => 88 | 46 => 95 | 47 => 96 | 48 => 97 | 49 => 98 | 50 => 99 | 57 => 102 | n => n, fun | 22 => 30 | 24 => 37 | 25 => 122 | 3 => 3 | 39 => 130 | 0 => 0 | 53 => 143 | 55 => 145 | 4 => 4 | 46 => 136 | 45 => 135 | 50 => 140 | 5 => 5 | 9 => 9 | 66 => 148 | 70 => 152 | 76 => 156 | 77 => 157 | n => n, fun | n => n⟩
theorem Try.sortF : Go.Proofs.SlLaysF0.n6 Try.prog Try.sortF_ren := {
  mixed := by kernel_rfl
  f6 := ⟨Try.f64.name, by decide, Try.func64.trans (congrArg some (by kernel_rfl))⟩
  f14 := ⟨Try.f75.name, by decide, Try.func75.trans (congrArg some (by kernel_rfl))⟩
  f15 := Try.func76.trans (congrArg some (by kernel_rfl))
  f20 := ⟨Try.f81.name, by decide, Try.func81.trans (congrArg some (by kernel_rfl))⟩
  f21 := ⟨Try.f82.name, by decide, Try.func82.trans (congrArg some (by kernel_rfl))⟩
  f22 := ⟨Try.f83.name, by decide, Try.func83.trans (congrArg some (by kernel_rfl))⟩
  f23 := ⟨Try.f84.name, by decide, Try.func84.trans (congrArg some (by kernel_rfl))⟩
  f24 := ⟨Try.f85.name, by decide, Try.func85.trans (congrArg some (by kernel_rfl))⟩
  f25 := ⟨Try.f86.name, by decide, Try.func86.trans (congrArg some (by kernel_rfl))⟩
  f26 := ⟨Try.f87.name, by decide, Try.func87.trans (congrArg some (by kernel_rfl))⟩
  f27 := ⟨Try.f88.name, by decide, Try.func88.trans (congrArg some (by kernel_rfl))⟩
  f28 := Try.func89.trans (congrArg some (by kernel_rfl))
  f29 := Try.func90.trans (congrArg some (by kernel_rfl))
  f46 := ⟨Try.f95.name, by decide, Try.func95.trans (congrArg some (by kernel_rfl))⟩
  f47 := Try.func96.trans (congrArg some (by kernel_rfl))
  f48 := Try.func97.trans (congrArg some (by kernel_rfl))
  f49 := ⟨Try.f98.name, by decide, Try.func98.trans (congrArg some (by kernel_rfl))⟩
  f50 := ⟨Try.f99.name, by decide, Try.func99.trans (congrArg some (by kernel_rfl))⟩
  f57 := ⟨Try.f102.name, by decide, Try.func102.trans (congrArg some (by kernel_rfl))⟩
  t0 := Try.underlying0
  a0 := Try.isAgg0
  z0 := Try.sizeOf0
  v0 := Try.zeroValue0
  t3 := Try.underlying3
  a3 := Try.isAgg3
  z3 := Try.sizeOf3
  v3 := Try.zeroValue3
  t4 := Try.underlying4
  a4 := Try.isAgg4
  z4 := Try.sizeOf4
  v4 := Try.zeroValue4
  t5 := Try.underlying5
  a5 := Try.isAgg5
  z5 := Try.sizeOf5
  v5 := Try.zeroValue5
  t9 := Try.underlying9
  a9 := Try.isAgg9
  z9 := Try.sizeOf9
  v9 := Try.zeroValue9
  t22 := Try.underlying30
  a22 := Try.isAgg30
  z22 := Try.sizeOf30
  v22 := Try.zeroValue30
  t25 := Try.underlying122
  a25 := Try.isAgg122
  z25 := Try.sizeOf122
  v25 := Try.zeroValue122
  t39 := Try.underlying130
  a39 := Try.isAgg130
  z39 := Try.sizeOf130
  v39 := Try.zeroValue130
  t45 := Try.underlying135
  a45 := Try.isAgg135
  z45 := Try.sizeOf135
  v45 := Try.zeroValue135
  t46 := Try.underlying136
  a46 := Try.isAgg136
  z46 := Try.sizeOf136
  v46 := Try.zeroValue136
  t50 := Try.underlying140
  a50 := Try.isAgg140
  z50 := Try.sizeOf140
  v50 := Try.zeroValue140
  t53 := Try.underlying143
  a53 := Try.isAgg143
  z53 := Try.sizeOf143
  v53 := Try.zeroValue143
  t55 := Try.underlying145
  a55 := Try.isAgg145
  z55 := Try.sizeOf145
  v55 := Try.zeroValue145
  t66 := Try.underlying148
  a66 := Try.isAgg148
  z66 := Try.sizeOf148
  v66 := Try.zeroValue148
  t70 := Try.underlying152
  a70 := Try.isAgg152
  z70 := Try.sizeOf152
  v70 := Try.zeroValue152
  t76 := Try.underlying156
  a76 := Try.isAgg156
  z76 := Try.sizeOf156
  v76 := Try.zeroValue156
  t77 := Try.underlying157
  a77 := Try.isAgg157
  z77 := Try.sizeOf157
  v77 := Try.zeroValue157 }
end Go.Proofs

namespace Go.Proofs.Ytfbfopfhfeijdaa.Pr
open Go.Shelf Go.RowKit Go.Lib Go.Sort
set_option linter.unusedVariables false
set_option linter.unusedSimpArgs false
instance : Inhabited S37 := ⟨z37⟩
/-- A feature's two cells. -/
def encF (x : S37) : List Value := [.string x.f0, .string x.f1]
/-- The order of the names. -/
def ltN (x y : S37) : Bool := Op.bytesLess x.f0.toList y.f0.toList
theorem ltOf_cmp : (ltOf fun x y : S37 => cmpS x.f0 y.f0) = ltN := by
  funext x y
  show decide (cmpS x.f0 y.f0 < 0) = ltN x y
  unfold ltN
  by_cases h : Op.bytesLess x.f0.toList y.f0.toList = true
  · have e : cmpS x.f0 y.f0 = -1 := by unfold cmpS; rw [if_pos h]
    rw [h, e]; rfl
  · have h' : Op.bytesLess x.f0.toList y.f0.toList = false := by simpa using h
    by_cases h2 : x.f0.toList = y.f0.toList
    · have e : cmpS x.f0 y.f0 = 0 := by unfold cmpS; rw [if_neg h, if_pos h2]
      rw [h', e]; rfl
    · have e : cmpS x.f0 y.f0 = 1 := by unfold cmpS; rw [if_neg h, if_neg h2]
      rw [h', e]; rfl
theorem swoN : SWO ltN := by
  refine ⟨fun x => ?_, fun x y z h1 h2 => ?_, fun x y z h1 h2 => ?_⟩
  · unfold ltN; rw [bytesLess_eq]; exact decide_eq_false (List.lt_irrefl _)
  · unfold ltN at *; rw [bytesLess_eq] at *
    exact decide_eq_true (List.lt_trans (of_decide_eq_true h1) (of_decide_eq_true h2))
  · unfold ltN at *; rw [bytesLess_eq] at *
    have h1' := of_decide_eq_false h1
    have h2' := of_decide_eq_false h2
    refine decide_eq_false ?_
    rw [List.not_lt] at *
    exact List.le_trans h2' h1'
theorem cmpLays65 (blk off size : Nat) (w : World) : CmpLays Try.prog 65 #[] encF 2 (fun x y : S37 => cmpS x.f0 y.f0) blk off size w :=
  fun _ _ _ _ x y => (cmpF_calls x.f0 x.f1 y.f0 y.f1 _).mono fun e w' h => by
    obtain ⟨rfl, rfl⟩ := h
    exact ⟨rfl, 0, _, by rw [alloc_eq_grow, alloc_eq_grow, grow_grow]; rfl⟩
theorem sort_calls (blk cap : Nat) (d : Array S37) (w : World) (hH : HoldsK encF 2 w blk 0 d) (hblk : blk < w.heap.size) (hsz : d.size < 4611686018427387904) :
    Calls Try.prog 64 #[.slice (some ⟨blk, 0, none⟩) d.size cap, .func (.func 65) #[] #[]] w fun e w' =>
      e = .returned (.tuple #[]) ∧ ∃ d' n os, PermIn 0 d.size d d' ∧ SortedIn ltN 0 d.size d' ∧ w' = sortWorldK encF 2 w blk 0 n d' os := by
  have eg : ∀ args w, (callFunc 65 args).run Try.prog w = .ok (.enter 65 args) w := enters_of Try.func65 (by kernel_rfl) rfl
  have h := AnyQ.slices_SortFunc Try.sortF 2 Try.isAgg37 Try.sizeOf37 encF (fun _ => rfl) (fun x v hv => by simp [encF] at hv; rcases hv with rfl | rfl <;> rfl) (fun x y : S37 => cmpS x.f0 y.f0) (by rw [ltOf_cmp]; exact swoN) 65 #[] blk 0 cap d w eg (cmpLays65 blk 0 d.size w) hH hblk hsz
  rw [ltOf_cmp] at h
  exact h
#print axioms sort_calls
end Go.Proofs.Ytfbfopfhfeijdaa.Pr

namespace Go.Proofs.Ytfbfopfhfeijdaa.Pr
open Go.Shelf Go.RowKit Go.Lib Go.Sort
set_option linter.unusedVariables false
set_option linter.unusedSimpArgs false
/-- A list of features, cell for cell. -/
def flatF (l : List S37) : List Value := l.flatMap encF
@[simp] theorem flatF_nil : flatF [] = [] := rfl
theorem flatF_cons (x : S37) (l : List S37) : flatF (x :: l) = .string x.f0 :: .string x.f1 :: flatF l := rfl
theorem flatF_append (l m : List S37) : flatF (l ++ m) = flatF l ++ flatF m := by unfold flatF; rw [List.flatMap_append]
theorem flatF_length (l : List S37) : (flatF l).length = l.length * 2 := by
  induction l with
  | nil => rfl
  | cons x l ih => rw [flatF_cons]; simp [ih]; omega
theorem flatF_get : ∀ (l : List S37) (t : Nat), t < l.length * 2 → (flatF l)[t]? = some ((encF l[t / 2]!)[t % 2]!)
  | [], t, h => absurd h (by simp)
  | x :: l, 0, _ => rfl
  | x :: l, 1, _ => rfl
  | x :: l, t + 2, h => by
    rw [flatF_cons]
    have h' : t < l.length * 2 := by simp at h; omega
    rw [List.getElem?_cons_succ, List.getElem?_cons_succ, flatF_get l t h', show (t + 2) / 2 = t / 2 + 1 by omega, show (t + 2) % 2 = t % 2 by omega]
    rfl
theorem bang_toList (d : Array S37) (i : Nat) : d.toList[i]! = d[i]! := by
  by_cases h : i < d.size
  · rw [getElem!_pos d i h, getElem!_pos d.toList i (by simpa using h)]; simp
  · rw [getElem!_neg d i h, getElem!_neg d.toList i (by simpa using h)]
theorem flatK_get (d : Array S37) (t : Nat) (h : t < d.size * 2) : some (flatK encF 2 d)[t]! = (flatF d.toList)[t]? := by
  rw [flatF_get d.toList t (by simpa using h), get_flatK encF 2 d t h]
  rw [bang_toList]
theorem oneCellF (l : List S37) : ∀ v ∈ flatF l, v.oneCell' = true := by
  induction l with
  | nil => intro v h; simp at h
  | cons x l ih =>
    intro v h
    rw [flatF_cons] at h
    rcases List.mem_cons.1 h with rfl | h
    · rfl
    rcases List.mem_cons.1 h with rfl | h
    · rfl
    exact ih v h
theorem sort_row (g cap base : Nat) (pre : List S37) (W : World) (hsm : pre.length < 4611686018427387904) (h : W.ownsRow base 37 2 (.slice (some ⟨g, 0, none⟩) pre.length cap) pre.length (flatF pre)) :
    Calls Try.prog 64 #[.slice (some ⟨g, 0, none⟩) pre.length cap, .func (.func 65) #[] #[]] W fun e w' =>
      e = .returned (.tuple #[]) ∧ ∃ r : List S37, r.Perm pre ∧ (∀ i j, i < j → j < r.length → ltN r[j]! r[i]! = false) ∧ w'.ownsRow base 37 2 (.slice (some ⟨g, 0, none⟩) pre.length cap) pre.length (flatF r) ∧ W.grownBy w' (some g) := by
  obtain ⟨hl, ⟨hv, _⟩ | ⟨g', cap', cur, hv, hb, hg, hn, hc, hsz, htk⟩⟩ := h
  · cases hv
  injection hv with e1 e2 e3
  injection e1 with e1
  injection e1 with e1 _ _
  subst e1; subst e3
  have hcur : ∀ t, t < pre.length * 2 → cur[t]? = (flatF pre)[t]? := by
    intro t ht
    rw [← htk, List.getElem?_take, if_pos ht]; simp
  have hlt : g < W.heap.size := (Array.getElem?_eq_some_iff.1 hg).1
  have hH : HoldsK encF 2 W g 0 pre.toArray := by
    intro j hj
    have hj' : j < pre.length * 2 := by simpa using hj
    refine ⟨?_, ?_⟩
    · simp only [World.cell?, hg, Nat.zero_add, id]
      have := hcur j hj'
      rw [show pre = pre.toArray.toList from rfl, ← flatK_get pre.toArray j (by simpa using hj')] at this
      simpa using this
    · simp [World.frozen?, hg]
  have hs := sort_calls g cap pre.toArray W hH hlt (by simpa using hsm)
  rw [show pre.toArray.size = pre.length from by simp] at hs
  refine hs.mono ?_
  rintro e w' ⟨rfl, d', n, os, hp, hso, rfl⟩
  have hds : d'.size = pre.length := by simpa using hp.1
  refine ⟨rfl, d'.toList, ?_, ?_, ?_, ?_⟩
  · have := hp.2.2
    rw [show pre.length = pre.toArray.size from by simp, Array.extract_size, ← show d'.size = pre.toArray.size from by simpa using hds, Array.extract_size] at this
    simpa using this
  · intro i j hij hj
    rw [bang_toList, bang_toList]
    exact hso i j (Nat.zero_le _) hij (by simpa [hds] using hj)
  · refine ⟨by rw [flatF_length]; simp [hds], .inr ⟨g, cap, putCells id 0 (flatK encF 2 d') cur, rfl, hb, ?_, hn, hc, by simp [putCells, hsz], ?_⟩⟩
    · unfold sortWorldK putRowK putRow mapBlock grow Sort.ahead
      simp only
      rw [Array.getElem?_append_left (by simpa using hlt), Array.getElem?_modify, if_pos rfl, hg]
      rfl
    · apply List.ext_getElem?
      intro t
      rw [List.getElem?_take]
      by_cases ht : t < pre.length * 2
      · rw [if_pos ht, ← flatK_get d' t (by rw [hds]; exact ht)]
        have hcs : t < cur.size := by rw [hsz]; have := Nat.mul_le_mul_right 2 hn; omega
        simp [putCells, hcs, hds, ht]
      · rw [if_neg ht]
        rw [List.getElem?_eq_none]
        rw [flatF_length]; simp [hds]; omega
  · refine ⟨rfl, rfl, rfl, ?_, ?_⟩
    · exact size_sortWorldK_c _ _ _ _ _ _ _ _
    · intro k hk hne
      unfold sortWorldK putRowK putRow mapBlock grow Sort.ahead
      simp only
      rw [Array.getElem?_append_left (by simpa using hk), Array.getElem?_modify, if_neg (fun h => hne (by rw [h]))]
#print axioms sort_row
end Go.Proofs.Ytfbfopfhfeijdaa.Pr
