/- Several texts in one: ParQ, ParR. -/
import Derived.Test.YtfbfopfhfeijdaaMg14
import Derived.Test.YtfbfopfhfeijdaaMg6
/- Plain laws: the dimensions' test, by the implementation and by the reference. -/
/- Plain laws: the reference's test of dimensions; what a valid list of dimensions is. -/
namespace Go.Proofs.Ytfbfopfhfeijdaa.Pr
open Go.RowKit Go.Proofs.YtfbfopfhfeijdaaW.PrintWords Go.Proofs.YtfbfopfhfeijdaaW.PrintLast Go.Proofs.YtfbfopfhfeijdaaW.PrintMore
set_option linter.unusedVariables false
set_option linter.unusedSimpArgs false
/-- All can be counted. -/
def Sized (l : List S90) : Prop := l.length ≤ 9223372036854775807 ∧ ∀ d ∈ l, d.f0.size ≤ 9223372036854775807 ∧ d.f1.length ≤ 9223372036854775807 ∧ ∀ v ∈ d.f1, v.size ≤ 9223372036854775807
section
variable (l : List S90) (hl : Sized l)
include hl
theorem fd_l2 (i : Nat) (d : S90) (hi : i < l.length) (r : Bool) (go : Ev (fun k => feature_dimensions.l0 k l l (l.length : Int) ((i + 1 : Nat) : Int)) r) :
    Ev (fun k => feature_dimensions.l2 k l l (l.length : Int) (i : Int) (l.take i) ((l.take i).length : Int) 0 d.f0 d.f1) ((List.range i).all (earlP l d) && r) := by
  have hlen : (l.take i).length = i := by rw [List.length_take]; omega
  rw [hlen]
  refine loop_from0 (n := i) (earlP l d) (fun k j => feature_dimensions.l2 k l l (l.length : Int) (i : Int) (l.take i) (i : Int) (j : Int) d.f0 d.f1) r ?_ ?_
  · refine Ev.step (fun k => ?_) go
    simp only [feature_dimensions.l2]; rw [if_neg (by omega), wrap_next hi hl.1]
  · intro j hj r' h
    have e : rd_T90 (l.take i) (j : Int) = l.getD j z90 := by
      rw [rd_dim (by omega), getD_at (by omega : j < l.length), List.getElem_take]
    refine Ev.step (f := fun k => if ((l.getD j z90).f0.toList == d.f0.toList) = true then some false else feature_dimensions.l2 k l l (l.length : Int) (i : Int) (l.take i) (i : Int) ((j + 1 : Nat) : Int) d.f0 d.f1) (fun k => ?_) (ev_notB h)
    simp only [feature_dimensions.l2, e]; rw [if_pos (by omega), if_pos (by omega), if_pos (by omega), wrap_next (n := l.length) (by omega) hl.1]
    simp only [beq_iff_eq]
theorem fd_l1 (i : Nat) (d : S90) (hi : i < l.length) (hd : d ∈ l) (r : Bool) (go : Ev (fun k => feature_dimensions.l0 k l l (l.length : Int) ((i + 1 : Nat) : Int)) r) :
    Ev (fun k => feature_dimensions.l1 k l (i : Int) l (l.length : Int) (i : Int) d.f1 (d.f1.length : Int) 0 d.f0 d.f1) ((List.range d.f1.length).all (valP d.f1) && ((List.range i).all (earlP l d) && r)) := by
  obtain ⟨hs, hv, hvs⟩ := hl.2 d hd
  refine loop_from0 (n := d.f1.length) (valP d.f1) (fun k j => feature_dimensions.l1 k l (i : Int) l (l.length : Int) (i : Int) d.f1 (d.f1.length : Int) (j : Int) d.f0 d.f1) _ ?_ ?_
  · refine Ev.step (fun k => ?_) (fd_l2 l hl i d hi r go)
    simp only [feature_dimensions.l1]; rw [if_neg (by omega), if_pos (by omega), if_pos (by omega)]; rfl
  · intro j hj r' h
    refine Ev.step (f := fun k => (feature_name.f k (d.f1[j])).bind fun t => if t = true then ((slices_Contains_string_string.f k (d.f1.take j) (d.f1[j])).bind fun u => if u = true then some false else feature_dimensions.l1 k l (i : Int) l (l.length : Int) (i : Int) d.f1 (d.f1.length : Int) ((j + 1 : Nat) : Int) d.f0 d.f1) else some false) (fun k => ?_) ?_
    · simp only [feature_dimensions.l1, rd_str hj]; rw [if_pos (by omega), if_pos (by omega), if_pos (by omega), wrap_next hj hv]
      simp only [if_pos (show (j : Int) ≤ (d.f1.length : Int) by omega), Int.toNat_natCast]
    · refine Ev.bind (name_ev _ (hvs _ (List.getElem_mem hj))) ?_
      unfold valP
      rw [getD_at hj, Bool.and_assoc]
      refine ev_andB (Ev.bind (containsS_ev _ _ (by rw [List.length_take]; omega)) ?_)
      exact ev_notB h
theorem dims_ev : Ev (fun k => feature_dimensions.f k l) (dimsP l) := by
  unfold dimsP
  by_cases h4 : l.length ≤ 4
  · rw [decide_eq_true h4, Bool.true_and]
    refine Ev.congr (f := fun k => feature_dimensions.l0 k l l (l.length : Int) 0) (fun k => ?_) ?_
    · unfold feature_dimensions.f; rw [if_neg (by omega)]
    · have h := loop_from0 (n := l.length) (dimP l) (fun k j => feature_dimensions.l0 k l l (l.length : Int) (j : Int)) true ?_ ?_
      · rw [Bool.and_true] at h; exact h
      · refine Ev.step (f := fun _ => some true) (fun k => ?_) (Ev.now _)
        simp only [feature_dimensions.l0]; rw [if_neg (by omega)]
      · intro i hi r' h
        have hd := List.getElem_mem hi
        obtain ⟨hs, hv, hvs⟩ := hl.2 _ hd
        refine Ev.step (f := fun k => (feature_name.f k (l[i].f0)).bind fun t => if t = true then (if (l[i].f1.length : Int) < 1 then feature_dimensions.j1 k l (i : Int) l (l.length : Int) (i : Int) true l[i].f0 l[i].f1 else feature_dimensions.j1 k l (i : Int) l (l.length : Int) (i : Int) (decide ((l[i].f1.length : Int) > 8)) l[i].f0 l[i].f1) else feature_dimensions.j1 k l (i : Int) l (l.length : Int) (i : Int) true l[i].f0 l[i].f1) (fun k => ?_) ?_
        · simp only [feature_dimensions.l0, rd_dim hi]; rw [if_pos (by omega), if_pos (by omega), if_pos (by omega)]
        · have hj : ∀ b : Bool, Ev (fun k => feature_dimensions.j1 k l (i : Int) l (l.length : Int) (i : Int) b l[i].f0 l[i].f1) (!b && ((List.range l[i].f1.length).all (valP l[i].f1) && ((List.range i).all (earlP l l[i]) && r'))) := fun b =>
            Ev.step (fun k => by simp only [feature_dimensions.j1]) (ev_notB (fd_l1 l hl i l[i] hi hd r' h))
          have e : (dimP l i && r') = (nameP l[i].f0 && (decide (1 ≤ l[i].f1.length) && (decide (l[i].f1.length ≤ 8) && ((List.range l[i].f1.length).all (valP l[i].f1) && ((List.range i).all (earlP l l[i]) && r'))))) := by
            unfold dimP; rw [getD_at hi]; simp only [Bool.and_assoc]
          rw [e]
          refine Ev.bind (name_ev _ hs) ?_
          cases nameP l[i].f0 with
          | false => simpa using hj true
          | true =>
            simp only [if_true, Bool.true_and]
            by_cases h1 : (l[i].f1.length : Int) < 1
            · rw [show decide (1 ≤ l[i].f1.length) = false from decide_eq_false (by omega), Bool.false_and]
              simpa [if_pos h1] using hj true
            · rw [show decide (1 ≤ l[i].f1.length) = true from decide_eq_true (by omega), Bool.true_and]
              have h2 := hj (decide ((l[i].f1.length : Int) > 8))
              rw [show decide (l[i].f1.length ≤ 8) = !decide ((l[i].f1.length : Int) > 8) from by by_cases h8 : l[i].f1.length ≤ 8 <;> simp [h8] <;> omega]
              simpa [if_neg h1] using h2
  · rw [decide_eq_false h4, Bool.false_and]
    refine Ev.congr (f := fun _ => some false) (fun k => ?_) (Ev.now _)
    unfold feature_dimensions.f; rw [if_pos (by omega)]
end
end Go.Proofs.Ytfbfopfhfeijdaa.Pr

namespace Go.Proofs.Ytfbfopfhfeijdaa.Pr
open Go.RowKit Go.Proofs.YtfbfopfhfeijdaaW.PrintWords Go.Proofs.YtfbfopfhfeijdaaW.PrintLast Go.Proofs.YtfbfopfhfeijdaaW.PrintMore
set_option linter.unusedVariables false
set_option linter.unusedSimpArgs false
section
variable (l : List S90) (hl : Sized l)
include hl
theorem rd_l2 (i : Nat) (d : S90) (hi : i < l.length) (hd : d ∈ l) (r : Bool) (go : Ev (fun k => pentaglotref02_Dimensions.l0 k l ((i + 1 : Nat) : Int)) r) :
    Ev (fun k => pentaglotref02_Dimensions.l2 k l (i : Int) d.f1 0) ((List.range d.f1.length).all (valP d.f1) && r) := by
  obtain ⟨hs, hv, hvs⟩ := hl.2 d hd
  refine loop_from0 (n := d.f1.length) (valP d.f1) (fun k j => pentaglotref02_Dimensions.l2 k l (i : Int) d.f1 (j : Int)) _ ?_ ?_
  · refine Ev.step (fun k => ?_) go
    simp only [pentaglotref02_Dimensions.l2]; rw [if_neg (by omega), wrap_next hi hl.1]
  · intro j hj r' h
    refine Ev.step (f := fun k => (pentaglotref02_Name.f k (d.f1[j])).bind fun t => if t = true then ((pentaglotref02_In.f k (d.f1.take j) (d.f1[j])).bind fun u => if u = true then some false else pentaglotref02_Dimensions.l2 k l (i : Int) d.f1 ((j + 1 : Nat) : Int)) else some false) (fun k => ?_) ?_
    · simp only [pentaglotref02_Dimensions.l2, rd_str hj]; rw [if_pos (by omega), if_pos (by omega), wrap_next hj hv]
      simp only [if_pos (show (j : Int) ≤ (d.f1.length : Int) by omega), Int.toNat_natCast]
    · refine Ev.bind (refName_ev _ (hvs _ (List.getElem_mem hj))) ?_
      unfold valP
      rw [getD_at hj, Bool.and_assoc]
      refine ev_andB (Ev.bind (in_ev _ _ (by rw [List.length_take]; omega)) ?_)
      exact ev_notB h
theorem rd_l1 (i : Nat) (hi : i < l.length) (r : Bool) (go : Ev (fun k => pentaglotref02_Dimensions.l0 k l ((i + 1 : Nat) : Int)) r) :
    Ev (fun k => pentaglotref02_Dimensions.l1 k l (i : Int) l[i].f1 0) ((List.range i).all (earlP l l[i]) && ((List.range l[i].f1.length).all (valP l[i].f1) && r)) := by
  refine loop_from0 (n := i) (earlP l l[i]) (fun k j => pentaglotref02_Dimensions.l1 k l (i : Int) l[i].f1 (j : Int)) _ ?_ ?_
  · refine Ev.step (fun k => ?_) (rd_l2 l hl i l[i] hi (List.getElem_mem hi) r go)
    simp only [pentaglotref02_Dimensions.l1]; rw [if_neg (by omega)]
  · intro j hj r' h
    refine Ev.step (f := fun k => if ((l.getD j z90).f0.toList == l[i].f0.toList) = true then some false else pentaglotref02_Dimensions.l1 k l (i : Int) l[i].f1 ((j + 1 : Nat) : Int)) (fun k => ?_) (ev_notB h)
    simp only [pentaglotref02_Dimensions.l1, rd_dim hi, rd_dim (show j < l.length by omega), getD_at (show j < l.length by omega)]
    rw [if_pos (by omega), if_pos (by omega), if_pos (by omega), if_pos (by omega), if_pos (by omega), wrap_next (n := l.length) (by omega) hl.1]
    simp only [beq_iff_eq]
theorem refDims_ev : Ev (fun k => pentaglotref02_Dimensions.f k l) (dimsP l) := by
  unfold dimsP
  by_cases h4 : l.length ≤ 4
  · rw [decide_eq_true h4, Bool.true_and]
    refine Ev.congr (f := fun k => pentaglotref02_Dimensions.l0 k l 0) (fun k => ?_) ?_
    · unfold pentaglotref02_Dimensions.f; rw [if_neg (by omega)]
    · have h := loop_from0 (n := l.length) (dimP l) (fun k j => pentaglotref02_Dimensions.l0 k l (j : Int)) true ?_ ?_
      · rw [Bool.and_true] at h; exact h
      · refine Ev.step (f := fun _ => some true) (fun k => ?_) (Ev.now _)
        simp only [pentaglotref02_Dimensions.l0]; rw [if_neg (by omega)]
      · intro i hi r' h
        have hd := List.getElem_mem hi
        obtain ⟨hs, hv, hvs⟩ := hl.2 _ hd
        refine Ev.step (f := fun k => (pentaglotref02_Name.f k (l[i].f0)).bind fun t => if t = true then (if (l[i].f1.length : Int) < 1 then pentaglotref02_Dimensions.j1 k l (i : Int) l[i].f1 true else pentaglotref02_Dimensions.j1 k l (i : Int) l[i].f1 (decide ((l[i].f1.length : Int) > 8))) else pentaglotref02_Dimensions.j1 k l (i : Int) l[i].f1 true) (fun k => ?_) ?_
        · simp only [pentaglotref02_Dimensions.l0, rd_dim hi]; rw [if_pos (by omega), if_pos (by omega)]
        · have hj : ∀ b : Bool, Ev (fun k => pentaglotref02_Dimensions.j1 k l (i : Int) l[i].f1 b) (!b && ((List.range i).all (earlP l l[i]) && ((List.range l[i].f1.length).all (valP l[i].f1) && r'))) := fun b =>
            Ev.step (fun k => by simp only [pentaglotref02_Dimensions.j1]) (ev_notB (rd_l1 l hl i hi r' h))
          have e : (dimP l i && r') = (nameP l[i].f0 && (decide (1 ≤ l[i].f1.length) && (decide (l[i].f1.length ≤ 8) && ((List.range i).all (earlP l l[i]) && ((List.range l[i].f1.length).all (valP l[i].f1) && r'))))) := by
            unfold dimP; rw [getD_at hi]; simp only [Bool.and_assoc, Bool.and_left_comm]
          rw [e]
          refine Ev.bind (refName_ev _ hs) ?_
          cases nameP l[i].f0 with
          | false => simpa using hj true
          | true =>
            simp only [if_true, Bool.true_and]
            by_cases h1 : (l[i].f1.length : Int) < 1
            · rw [show decide (1 ≤ l[i].f1.length) = false from decide_eq_false (by omega), Bool.false_and]
              simpa [if_pos h1] using hj true
            · rw [show decide (1 ≤ l[i].f1.length) = true from decide_eq_true (by omega), Bool.true_and]
              have h2 := hj (decide ((l[i].f1.length : Int) > 8))
              rw [show decide (l[i].f1.length ≤ 8) = !decide ((l[i].f1.length : Int) > 8) from by by_cases h8 : l[i].f1.length ≤ 8 <;> simp [h8] <;> omega]
              simpa [if_neg h1] using h2
  · rw [decide_eq_false h4, Bool.false_and]
    refine Ev.congr (f := fun _ => some false) (fun k => ?_) (Ev.now _)
    unfold pentaglotref02_Dimensions.f; rw [if_pos (by omega)]
end
/-- What a valid list of dimensions has. -/
theorem dims_len {l : List S90} (h : dimsP l = true) : l.length ≤ 4 := by
  unfold dimsP at h; rw [Bool.and_eq_true] at h; exact of_decide_eq_true h.1
theorem dims_at {l : List S90} (h : dimsP l = true) (i : Nat) (hi : i < l.length) : 1 ≤ l[i].f1.length ∧ l[i].f1.length ≤ 8 ∧ ∀ j (hj : j < i), (l[j]'(by omega)).f0.toList ≠ l[i].f0.toList := by
  unfold dimsP at h; rw [Bool.and_eq_true] at h
  have h2 := List.all_eq_true.1 h.2 i (by simpa using hi)
  unfold dimP at h2
  rw [getD_at hi] at h2
  simp only [Bool.and_eq_true, decide_eq_true_eq] at h2
  refine ⟨h2.2.1, h2.2.2.1, fun j hj e => ?_⟩
  have h3 := List.all_eq_true.1 h2.2.2.2.2 j (by simpa using hj)
  unfold earlP at h3
  rw [getD_at (show j < l.length by omega), e] at h3
  simp at h3
theorem dims_mem {l : List S90} (h : dimsP l = true) (d : S90) (hd : d ∈ l) : 1 ≤ d.f1.length ∧ d.f1.length ≤ 8 := by
  obtain ⟨i, hi, rfl⟩ := List.mem_iff_getElem.1 hd
  exact ⟨(dims_at h i hi).1, (dims_at h i hi).2.1⟩
theorem dims_nodup {l : List S90} (h : dimsP l = true) : (l.map (fun d => d.f0.toList)).Nodup := by
  unfold List.Nodup
  rw [List.pairwise_iff_getElem]
  intro i j hi hj hij
  rw [List.getElem_map, List.getElem_map]
  exact (dims_at h j (by simpa using hj)).2.2 i hij
theorem tup_length : ∀ (ds : List S90) (pre : List S37), (∀ d ∈ ds, d.f1.length ≤ 8) → (tup ds pre).length ≤ 8 ^ ds.length
  | [], pre, _ => by simp [tup]
  | d :: ds, pre, h => by
    have ih := fun v => tup_length ds (pre ++ [⟨d.f0, v⟩]) (fun d' hd' => h d' (by simp [hd']))
    have hd := h d (by simp)
    have key : ∀ vs : List ByteArray, (vs.flatMap fun v => tup ds (pre ++ [⟨d.f0, v⟩])).length ≤ vs.length * 8 ^ ds.length := by
      intro vs
      induction vs with
      | nil => simp
      | cons v vs ihv =>
        rw [List.flatMap_cons, List.length_append, List.length_cons, Nat.succ_mul]
        have := ih v
        omega
    simp only [tup]
    refine Nat.le_trans (key d.f1) ?_
    rw [List.length_cons, Nat.pow_succ, Nat.mul_comm (8 ^ ds.length) 8]
    exact Nat.mul_le_mul_right _ hd
theorem dims_good {l : List S90} (h : dimsP l = true) : goodD l := by
  have h4 := dims_len h
  refine ⟨by omega, fun d hd => by have := (dims_mem h d hd).2; omega, ?_, dims_nodup h⟩
  refine Nat.le_trans (tup_length l [] (fun d hd => (dims_mem h d hd).2)) ?_
  exact Nat.le_trans (Nat.pow_le_pow_right (by decide) h4) (by decide)
end Go.Proofs.Ytfbfopfhfeijdaa.Pr
