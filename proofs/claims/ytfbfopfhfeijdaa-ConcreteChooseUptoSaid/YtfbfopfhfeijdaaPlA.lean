/- Plain laws: what contains, Applies and their references compute, on lists. -/
import Derived.Test.YtfbfopfhfeijdaaPrF37
import Derived.Test.YtfbfopfhfeijdaaPrF38
import Derived.Test.YtfbfopfhfeijdaaPrF17
import Derived.Test.YtfbfopfhfeijdaaPrF13
import Derived.Test.YtfbfopfhfeijdaaMg1
namespace Go.Proofs.Ytfbfopfhfeijdaa.Pr
open Go.RowKit Go.Proofs.YtfbfopfhfeijdaaW.PrintWords Go.Proofs.YtfbfopfhfeijdaaW.PrintLast Go.Proofs.YtfbfopfhfeijdaaW.PrintMore
set_option linter.unusedVariables false
set_option linter.unusedSimpArgs false

theorem wrap_next {i n : Nat} (h : i < n) (hn : n ≤ 9223372036854775807) : wrap64 ((i : Int) + 1) = ((i + 1 : Nat) : Int) := by
  unfold wrap64; omega
theorem rd_feat {xs : List S37} {i : Nat} (h : i < xs.length) : rd_T37 xs (i : Int) = xs[i] := by
  simp [rd_T37, List.getD_eq_getElem?_getD, h]
theorem rd_rec {xs : List (List S37)} {i : Nat} (h : i < xs.length) : rd_L2 xs (i : Int) = xs[i] := by
  simp [rd_L2, List.getD_eq_getElem?_getD, h]
theorem drop_at {α : Type} {xs : List α} {i : Nat} (h : i < xs.length) : xs.drop i = xs[i] :: xs.drop (i + 1) := List.drop_eq_getElem_cons h
theorem drop_end {α : Type} {xs : List α} {i : Nat} (h : ¬ i < xs.length) : xs.drop i = [] := List.drop_eq_nil_of_le (by omega)
/-- One round of a loop, its body at hand. -/
theorem ev_if {α : Type} {c : Prop} [Decidable c] {f g : Nat → Option α} {r : α} (h : c) (k : Ev f r) : Ev (fun n => if c then f n else g n) r := by
  simpa only [if_pos h] using k
theorem ev_else {α : Type} {c : Prop} [Decidable c] {f g : Nat → Option α} {r : α} (h : ¬ c) (k : Ev g r) : Ev (fun n => if c then f n else g n) r := by
  simpa only [if_neg h] using k

/-- Is the feature a=b in xs? -/
def hasF (xs : List S37) (a b : ByteArray) : Bool := xs.any fun f => a.toList == f.f0.toList && (b.toList == f.f1.toList)
/-- Does x contain all of w? -/
def holdsAll (x w : List S37) : Bool := w.all fun f => hasF x f.f0 f.f1

theorem index_ev (xs : List S37) (a b : ByteArray) (hx : xs.length ≤ 9223372036854775807) : ∀ d (i : Nat), xs.length - i = d →
    ∃ r : Int, Ev (fun k => api_Feature_72.l0 k xs (xs.length : Int) i a b) r ∧ decide (r ≥ 0) = hasF (xs.drop i) a b := by
  intro d
  induction d with
  | zero =>
    intro i hd
    refine ⟨-1, Ev.step (f := fun _ => some (-1)) (fun k => ?_) (Ev.now _), ?_⟩
    · simp only [api_Feature_72.l0]; rw [if_neg (by omega)]
    · rw [drop_end (by omega)]; rfl
  | succ d ih =>
    intro i hd
    have hi : i < xs.length := by omega
    rw [drop_at hi]
    by_cases e : (a.toList == (xs[i].f0).toList && (b.toList == (xs[i].f1).toList)) = true
    · refine ⟨i, Ev.step (f := fun _ => some (i : Int)) (fun k => ?_) (Ev.now _), ?_⟩
      · simp only [api_Feature_72.l0, rd_feat hi]; rw [if_pos (by omega), if_pos (by omega), if_pos (by omega), if_pos e]
      · unfold hasF; rw [List.any_cons, e]; simp
    · obtain ⟨r, h1, h2⟩ := ih (i + 1) (by omega)
      refine ⟨r, Ev.step (fun k => ?_) h1, ?_⟩
      · simp only [api_Feature_72.l0, rd_feat hi]; rw [if_pos (by omega), if_pos (by omega), if_pos (by omega), if_neg e, wrap_next hi hx]
      · rw [h2]; unfold hasF; rw [List.any_cons]; simp only [Bool.not_eq_true] at e; rw [e]; simp
theorem has_ev (xs : List S37) (a b : ByteArray) (hx : xs.length ≤ 9223372036854775807) : Ev (fun k => api_Feature_53.f k xs a b) (hasF xs a b) := by
  obtain ⟨r, h1, h2⟩ := index_ev xs a b hx _ 0 rfl
  rw [List.drop_zero] at h2
  rw [← h2]
  exact Ev.bind h1 (Ev.now _)
theorem contains_ev (x w : List S37) (hx : x.length ≤ 9223372036854775807) (hw : w.length ≤ 9223372036854775807) : Ev (fun k => concrete_contains.f k x w) (holdsAll x w) := by
  have key : ∀ d (i : Nat), w.length - i = d → Ev (fun k => concrete_contains.l0 k x w (w.length : Int) i) (holdsAll x (w.drop i)) := by
    intro d
    induction d with
    | zero =>
      intro i hd
      rw [drop_end (by omega)]
      refine Ev.step (f := fun _ => some true) (fun k => ?_) (Ev.now _)
      simp only [concrete_contains.l0]; rw [if_neg (by omega)]
    | succ d ih =>
      intro i hd
      have hi : i < w.length := by omega
      rw [drop_at hi]
      refine Ev.step (f := fun k => (api_Feature_53.f k x w[i].f0 w[i].f1).bind fun t => if t = true then concrete_contains.l0 k x w (w.length : Int) (i + 1 : Nat) else some false) (fun k => ?_) ?_
      · simp only [concrete_contains.l0, rd_feat hi]; rw [if_pos (by omega), if_pos (by omega), if_pos (by omega), wrap_next hi hw]
      · refine Ev.bind (has_ev x _ _ hx) ?_
        have e : holdsAll x (w[i] :: w.drop (i + 1)) = (hasF x w[i].f0 w[i].f1 && holdsAll x (w.drop (i + 1))) := by unfold holdsAll; rw [List.all_cons]
        rw [e]
        cases hasF x w[i].f0 w[i].f1 with
        | true => simpa only [if_true, Bool.true_and] using ih (i + 1) (by omega)
        | false => simpa using Ev.now false
  exact key _ 0 rfl

theorem refInner_ev (x : List S37) (a b : ByteArray) (w : List S37) (j : Int) (hx : x.length ≤ 9223372036854775807) (go : Nat → Option Bool) (r : Bool) :
    ∀ d (i : Nat) (found : Bool), x.length - i = d → ((found || hasF (x.drop i) a b) = true → Ev (fun k => pentaglotref09_Contains.l0 k x w (w.length : Int) (wrap64 (j + 1))) r) → ((found || hasF (x.drop i) a b) = false → r = false) →
      Ev (fun k => pentaglotref09_Contains.l1 k x found w (w.length : Int) j x (x.length : Int) i a b) r := by
  intro d
  induction d with
  | zero =>
    intro i found hd h1 h2
    rw [drop_end (by omega)] at h1 h2
    cases found with
    | true =>
      refine Ev.step (f := fun k => pentaglotref09_Contains.l0 k x w (w.length : Int) (wrap64 (j + 1))) (fun k => ?_) (h1 rfl)
      simp only [pentaglotref09_Contains.l1]; rw [if_neg (by omega), if_pos trivial]
    | false =>
      obtain rfl := h2 rfl
      refine Ev.step (f := fun _ => some false) (fun k => ?_) (Ev.now _)
      simp only [pentaglotref09_Contains.l1]; rw [if_neg (by omega)]; simp
  | succ d ih =>
    intro i found hd h1 h2
    have hi : i < x.length := by omega
    rw [drop_at hi] at h1 h2
    cases found with
    | true =>
      refine Ev.step (fun k => ?_) (ih (i + 1) true (by omega) (fun _ => h1 rfl) (by simp))
      simp only [pentaglotref09_Contains.l1]; rw [if_pos (by omega), if_pos (by omega), if_pos (by omega), if_pos trivial, wrap_next hi hx]
    | false =>
      have e : ∀ t : Bool, (a.toList == (x[i].f0).toList && (b.toList == (x[i].f1).toList)) = t → (false || hasF (x[i] :: x.drop (i + 1)) a b) = (t || hasF (x.drop (i + 1)) a b) := by
        intro t ht; unfold hasF; rw [List.any_cons, ht]; simp
      refine Ev.step (fun k => ?_) (ih (i + 1) (a.toList == (x[i].f0).toList && (b.toList == (x[i].f1).toList)) (by omega) (fun h => h1 ((e _ rfl).trans h)) (fun h => h2 ((e _ rfl).trans h)))
      simp only [pentaglotref09_Contains.l1, rd_feat hi]; rw [if_pos (by omega), if_pos (by omega), if_pos (by omega), if_neg (by simp), wrap_next hi hx]
theorem refContains_ev (x w : List S37) (hx : x.length ≤ 9223372036854775807) (hw : w.length ≤ 9223372036854775807) : Ev (fun k => pentaglotref09_Contains.f k x w) (holdsAll x w) := by
  have key : ∀ d (i : Nat), w.length - i = d → Ev (fun k => pentaglotref09_Contains.l0 k x w (w.length : Int) i) (holdsAll x (w.drop i)) := by
    intro d
    induction d with
    | zero =>
      intro i hd
      rw [drop_end (by omega)]
      refine Ev.step (f := fun _ => some true) (fun k => ?_) (Ev.now _)
      simp only [pentaglotref09_Contains.l0]; rw [if_neg (by omega)]
    | succ d ih =>
      intro i hd
      have hi : i < w.length := by omega
      rw [drop_at hi]
      refine Ev.step (fun k => ?_) (refInner_ev x w[i].f0 w[i].f1 w i hx (fun _ => none) (holdsAll x (w[i] :: w.drop (i + 1))) _ 0 false rfl (fun h => ?_) (fun h => ?_))
      · simp only [pentaglotref09_Contains.l0, rd_feat hi]; rw [if_pos (by omega), if_pos (by omega), if_pos (by omega)]; rfl
      · rw [wrap_next hi hw]
        simp only [List.drop_zero, Bool.false_or] at h
        have : holdsAll x (w[i] :: w.drop (i + 1)) = holdsAll x (w.drop (i + 1)) := by unfold holdsAll; rw [List.all_cons, h]; simp
        rw [this]; exact ih (i + 1) (by omega)
      · simp only [List.drop_zero, Bool.false_or] at h
        unfold holdsAll; rw [List.all_cons, h]; simp
  exact key _ 0 rfl

/-- Does a rule with these conditions apply? -/
def applies (xs ys : List (List S37)) : Bool := decide (xs.length = ys.length) && (xs.zip ys).all fun p => holdsAll p.1 p.2
def Small (xs : List (List S37)) : Prop := xs.length ≤ 9223372036854775807 ∧ ∀ x ∈ xs, x.length ≤ 9223372036854775807
theorem applies_ev (a0 : ByteArray) (ys : List (List S37)) (l2 : List S37) (l3 : List S88) (xs : List (List S37)) (hx : Small xs) (hy : Small ys) :
    Ev (fun k => concrete_Applies.f k a0 ys l2 l3 xs) (applies xs ys) := by
  unfold concrete_Applies.f applies
  by_cases hl : xs.length = ys.length
  · simp only [if_pos hl, hl, decide_true, Bool.true_and]
    have key : ∀ d (i : Nat), xs.length - i = d → Ev (fun k => applFrom k xs ys i) (((xs.drop i).zip (ys.drop i)).all fun p => holdsAll p.1 p.2) := by
      intro d
      induction d with
      | zero =>
        intro i hd
        rw [drop_end (xs := xs) (by omega)]
        exact Ev.congr (fun k => applFrom_end (by omega)) (Ev.now _)
      | succ d ih =>
        intro i hd
        have hi : i < xs.length := by omega
        have hj : i < ys.length := by omega
        rw [drop_at hi, drop_at hj, List.zip_cons_cons, List.all_cons]
        refine Ev.congr (fun k => applFrom_go hi) ?_
        simp only [rd_rec hi, rd_rec hj]
        refine Ev.bind (contains_ev _ _ (hx.2 _ (List.getElem_mem hi)) (hy.2 _ (List.getElem_mem hj))) ?_
        cases holdsAll xs[i] ys[i] with
        | true => simpa only [if_true, Bool.true_and] using ih (i + 1) (by omega)
        | false => simpa using Ev.now false
    simpa using key _ 0 rfl
  · simp only [if_neg hl, hl, decide_false, Bool.false_and]
    exact Ev.now _
theorem refApplies_ev (a0 : ByteArray) (ys : List (List S37)) (l2 : List S37) (l3 : List S88) (xs : List (List S37)) (hx : Small xs) (hy : Small ys) :
    Ev (fun k => pentaglotref33_Applies.f k a0 ys l2 l3 xs) (applies xs ys) := by
  unfold pentaglotref33_Applies.f applies
  by_cases hl : xs.length = ys.length
  · have hl' : (ys.length : Int) = (xs.length : Int) := by omega
    refine ev_if hl' ?_
    rw [show decide (xs.length = ys.length) = true from decide_eq_true hl, Bool.true_and]
    have key : ∀ d (i : Nat), xs.length - i = d → Ev (fun k => pentaglotref33_Applies.l0 k xs (xs.length : Int) i a0 ys l2 l3) (((xs.drop i).zip (ys.drop i)).all fun p => holdsAll p.1 p.2) := by
      intro d
      induction d with
      | zero =>
        intro i hd
        rw [drop_end (xs := xs) (by omega)]
        refine Ev.step (f := fun _ => some true) (fun k => ?_) (Ev.now _)
        simp only [pentaglotref33_Applies.l0]; rw [if_neg (by omega)]
      | succ d ih =>
        intro i hd
        have hi : i < xs.length := by omega
        have hj : i < ys.length := by omega
        rw [drop_at hi, drop_at hj, List.zip_cons_cons, List.all_cons]
        refine Ev.step (f := fun k => (pentaglotref09_Contains.f k xs[i] ys[i]).bind fun t => if t = true then pentaglotref33_Applies.l0 k xs (xs.length : Int) (i + 1 : Nat) a0 ys l2 l3 else some false) (fun k => ?_) ?_
        · simp only [pentaglotref33_Applies.l0, rd_rec hi, rd_rec hj]; rw [if_pos (by omega), if_pos (by omega), if_pos (by omega), if_pos (by omega), wrap_next hi hx.1]
        · refine Ev.bind (refContains_ev _ _ (hx.2 _ (List.getElem_mem hi)) (hy.2 _ (List.getElem_mem hj))) ?_
          cases holdsAll xs[i] ys[i] with
          | true => simpa only [if_true, Bool.true_and] using ih (i + 1) (by omega)
          | false => simpa using Ev.now false
    have h := key _ 0 rfl
    simp only [List.drop_zero] at h
    exact h
  · have hl' : ¬ (ys.length : Int) = (xs.length : Int) := by omega
    simp only [if_neg hl', hl, decide_false, Bool.false_and]
    exact Ev.now _

/-- records ends. -/
theorem records_ev (xs : List (List S37)) (hx : Small xs) : ∃ r, Ev (fun k => pentaglotlaw33_records.f k xs) r := by
  have key : ∀ d (i : Nat), xs.length - i = d → ∃ r, Ev (fun k => pentaglotlaw33_records.l0 k xs i) r := by
    intro d
    induction d with
    | zero =>
      intro i hd
      refine ⟨decide ((xs.length : Int) ≤ 6), Ev.step (f := fun _ => some (decide ((xs.length : Int) ≤ 6))) (fun k => ?_) (Ev.now _)⟩
      simp only [pentaglotlaw33_records.l0]; rw [if_neg (by omega)]
    | succ d ih =>
      intro i hd
      have hi : i < xs.length := by omega
      have hxi := hx.2 _ (List.getElem_mem hi)
      by_cases hlen : ((xs[i]).length : Int) > 10
      · refine ⟨false, Ev.step (f := fun _ => some false) (fun k => ?_) (Ev.now _)⟩
        simp only [pentaglotlaw33_records.l0, rd_rec hi]; rw [if_pos (by omega), if_pos (by omega), if_pos hlen]
      · have k1 : ∀ e (j : Nat), xs[i].length - j = e → ∃ r, Ev (fun k => pentaglotlaw33_records.l1 k xs i j) r := by
          intro e
          induction e with
          | zero =>
            intro j he
            obtain ⟨r, hr⟩ := ih (i + 1) (by omega)
            refine ⟨r, Ev.step (fun k => ?_) hr⟩
            simp only [pentaglotlaw33_records.l1, rd_rec hi]; rw [if_pos (by omega), if_pos (by omega), if_neg (by omega), wrap_next hi hx.1]
          | succ e ihe =>
            intro j he
            have hj : j < xs[i].length := by omega
            have k2 : ∀ f (m : Nat), j - m = f → ∃ r, Ev (fun k => pentaglotlaw33_records.l2 k xs i j m) r := by
              intro f
              induction f with
              | zero =>
                intro m hm
                obtain ⟨r, hr⟩ := ihe (j + 1) (by omega)
                refine ⟨r, Ev.step (fun k => ?_) hr⟩
                simp only [pentaglotlaw33_records.l2]; rw [if_neg (by omega), wrap_next hj hxi]
              | succ f ihf =>
                intro m hm
                have hm' : m < xs[i].length := by omega
                by_cases e : (xs[i][m].f0).toList = (xs[i][j].f0).toList
                · refine ⟨false, Ev.step (f := fun _ => some false) (fun k => ?_) (Ev.now _)⟩
                  simp only [pentaglotlaw33_records.l2, rd_rec hi, rd_feat hm', rd_feat hj]
                  rw [if_pos (by omega), if_pos (by omega), if_pos (by omega), if_pos (by omega), if_pos (by omega), if_pos (by omega), if_pos (by omega), if_pos e]
                · obtain ⟨r, hr⟩ := ihf (m + 1) (by omega)
                  refine ⟨r, Ev.step (fun k => ?_) hr⟩
                  simp only [pentaglotlaw33_records.l2, rd_rec hi, rd_feat hm', rd_feat hj]
                  rw [if_pos (by omega), if_pos (by omega), if_pos (by omega), if_pos (by omega), if_pos (by omega), if_pos (by omega), if_pos (by omega), if_neg e, wrap_next hm' hxi]
            obtain ⟨r, hr⟩ := k2 _ 0 rfl
            refine ⟨r, Ev.step (fun k => ?_) hr⟩
            simp only [pentaglotlaw33_records.l1, rd_rec hi]; rw [if_pos (by omega), if_pos (by omega), if_pos (by omega)]; rfl
        obtain ⟨r, hr⟩ := k1 _ 0 rfl
        refine ⟨r, Ev.step (fun k => ?_) hr⟩
        simp only [pentaglotlaw33_records.l0, rd_rec hi]; rw [if_pos (by omega), if_pos (by omega), if_neg hlen]; rfl
  exact key _ 0 rfl
end Go.Proofs.Ytfbfopfhfeijdaa.Pr
