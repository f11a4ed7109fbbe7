/- Plain laws: the reference's Put and All. -/
import Derived.Test.YtfbfopfhfeijdaaMg15
import Derived.Test.YtfbfopfhfeijdaaPrF48
namespace Go.Proofs.Ytfbfopfhfeijdaa.Pr
open Go.RowKit Go.Proofs.YtfbfopfhfeijdaaW.PrintWords Go.Proofs.YtfbfopfhfeijdaaW.PrintLast Go.Proofs.YtfbfopfhfeijdaaW.PrintMore
set_option linter.unusedVariables false
set_option linter.unusedSimpArgs false
theorem refPut_ev (r : List S37) (nm v : ByteArray) (hr : r.length ≤ 1000) : Ev (fun k => pentaglotref02_Put.f k r nm v) (putF r ⟨nm, v⟩) := by
  have key : ∀ d i (out : List S37), r.length - i = d → i ≤ r.length → out.length ≤ i → Ev (fun k => pentaglotref02_Put.l0 k r out (i : Int) nm v) (out ++ putF (r.drop i) ⟨nm, v⟩) := by
    intro d
    induction d with
    | zero =>
      intro i out hd hi ho
      obtain rfl : i = r.length := by omega
      refine Ev.step (f := fun _ => some (out ++ putF (r.drop r.length) ⟨nm, v⟩)) (fun k => ?_) (Ev.now _)
      simp only [pentaglotref02_Put.l0]
      rw [if_neg (by omega), if_pos (by omega)]
      simp only [Option.bind_some]
      rw [if_pos (by omega), if_pos (by omega), if_pos (by simp; omega)]
      simp [putF]
    | succ d ih =>
      intro i out hd hi ho
      have hlt : i < r.length := by omega
      rw [drop_at hlt]
      unfold putF
      by_cases hc : Op.bytesLess (r[i].f0.toList) nm.toList = true
      · rw [if_pos (show ltN r[i] ⟨nm, v⟩ = true from hc)]
        have h := ih (i + 1) (out ++ [r[i]]) (by omega) (by omega) (by simp; omega)
        rw [List.append_assoc, List.singleton_append] at h
        refine Ev.step (fun k => ?_) h
        simp only [pentaglotref02_Put.l0, rd_feat hlt]
        rw [if_pos (by omega), if_pos (by omega), if_pos hc, if_pos (by omega), wrap_next hlt (by omega)]
      · rw [if_neg (show ¬ ltN r[i] ⟨nm, v⟩ = true from hc)]
        refine Ev.step (f := fun _ => some (out ++ (⟨nm, v⟩ : S37) :: r[i] :: r.drop (i + 1))) (fun k => ?_) (Ev.now _)
        simp only [pentaglotref02_Put.l0, rd_feat hlt]
        rw [if_pos (by omega), if_pos (by omega), if_neg hc, if_pos (by omega)]
        simp only [Option.bind_some]
        rw [if_pos (by omega), if_pos (by simp; omega)]
        rw [Int.toNat_natCast, drop_at hlt]
        simp
  have h := key _ 0 [] rfl (by omega) (by simp)
  rw [List.drop_zero, List.nil_append] at h
  exact h
/-- All records by putting each dimension's feature. -/
def tupR : List S90 → List S37 → List (List S37)
  | [], r => [r]
  | d :: ds, r => d.f1.flatMap fun v => tupR ds (putF r ⟨d.f0, v⟩)
def stepR (d : S90) (outs : List (List S37)) : List (List S37) := outs.flatMap fun r => d.f1.map fun v => putF r ⟨d.f0, v⟩
theorem tupR_step (d : S90) (ds : List S90) (outs : List (List S37)) : (stepR d outs).flatMap (tupR ds) = outs.flatMap (tupR (d :: ds)) := by
  unfold stepR
  rw [List.flatMap_assoc]
  congr 1
  funext r
  rw [List.flatMap_map]
  rfl
theorem sortRec_snoc (p : List S37) (f : S37) : sortRec (p ++ [f]) = putF (sortRec p) f := by unfold sortRec; rw [List.foldl_append]; rfl
theorem tup_sort : ∀ (ds : List S90) (pre : List S37), (tup ds pre).map sortRec = tupR ds (sortRec pre)
  | [], pre => rfl
  | d :: ds, pre => by
    simp only [tup, tupR, List.map_flatMap]
    congr 1
    funext v
    rw [tup_sort ds, sortRec_snoc]
theorem putF_length (r : List S37) (f : S37) : (putF r f).length = r.length + 1 := by rw [(putF_perm r f).length_eq]; rfl
theorem rd_rec2 {xs : List (List S37)} {i : Nat} (h : i < xs.length) : rd_L2 xs (i : Int) = xs[i] := by
  simp [rd_L2, List.getD_eq_getElem?_getD, h]
section
variable (l : List S90) (hv : ∀ d ∈ l, d.f1.length ≤ 8)
include hv
theorem refAll_l2 (i : Nat) (hi : i < l.length) (outs : List (List S37)) (ho : ∀ r ∈ outs, r.length ≤ 1000) (m : Nat) (hm : m < outs.length) (R : List (List S37)) :
    ∀ d j (next : List (List S37)), l[i].f1.length - j = d → next.length + (l[i].f1.length - j) ≤ 1000000 → Ev (fun k => pentaglotref02_All.l1 k l outs (i : Int) (next ++ (l[i].f1.drop j).map fun v => putF outs[m] ⟨l[i].f0, v⟩) (wrap64 ((m : Int) + 1))) R →
      Ev (fun k => pentaglotref02_All.l2 k l outs (i : Int) next (m : Int) (j : Int)) R := by
  have h8 := hv _ (List.getElem_mem hi)
  intro d
  induction d with
  | zero =>
    intro j next hd hn go
    rw [drop_end (by omega), List.map_nil, List.append_nil] at go
    refine Ev.step (fun k => ?_) go
    simp only [pentaglotref02_All.l2, rd_dim hi]
    rw [if_pos (by omega), if_pos (by omega), if_neg (by omega)]
  | succ d ih =>
    intro j next hd hn go
    have hj : j < l[i].f1.length := by omega
    rw [drop_at hj, List.map_cons] at go
    refine Ev.step (f := fun k => (pentaglotref02_Put.f k outs[m] l[i].f0 l[i].f1[j]).bind fun t => if next.length < 5864062014805 then pentaglotref02_All.l2 k l outs (i : Int) (next ++ [t]) (m : Int) ((j + 1 : Nat) : Int) else none) (fun k => ?_) ?_
    · simp only [pentaglotref02_All.l2, rd_dim hi, rd_str hj, rd_rec2 hm]
      rw [if_pos (by omega), if_pos (by omega), if_pos (by omega), if_pos (by omega), if_pos (by omega), if_pos (by omega), wrap_next hj (by omega)]
    · refine Ev.bind (refPut_ev _ _ _ (ho _ (List.getElem_mem hm))) ?_
      refine Ev.congr (f := fun k => pentaglotref02_All.l2 k l outs (i : Int) (next ++ [putF outs[m] ⟨l[i].f0, l[i].f1[j]⟩]) (m : Int) ((j + 1 : Nat) : Int)) (fun k => by rw [if_pos (by omega)]) ?_
      refine ih (j + 1) _ (by omega) (by simp; omega) ?_
      rw [List.append_assoc, List.singleton_append]
      exact go
theorem refAll_l1 (i : Nat) (hi : i < l.length) (outs : List (List S37)) (ho : ∀ r ∈ outs, r.length ≤ 1000) (hob : outs.length ≤ 10000) (R : List (List S37)) :
    ∀ d m (next : List (List S37)), outs.length - m = d → next.length ≤ m * 8 → Ev (fun k => pentaglotref02_All.l0 k l (next ++ stepR l[i] (outs.drop m)) (wrap64 ((i : Int) + 1))) R →
      Ev (fun k => pentaglotref02_All.l1 k l outs (i : Int) next (m : Int)) R := by
  have h8 := hv _ (List.getElem_mem hi)
  intro d
  induction d with
  | zero =>
    intro m next hd hn go
    rw [drop_end (by omega)] at go
    simp only [stepR, List.flatMap_nil, List.append_nil] at go
    refine Ev.step (fun k => ?_) go
    simp only [pentaglotref02_All.l1]
    rw [if_neg (by omega)]
  | succ d ih =>
    intro m next hd hn go
    have hm : m < outs.length := by omega
    rw [drop_at hm] at go
    unfold stepR at go
    rw [List.flatMap_cons, ← List.append_assoc] at go
    have h := ih (m + 1) (next ++ l[i].f1.map fun v => putF outs[m] ⟨l[i].f0, v⟩) (by omega) (by rw [List.length_append, List.length_map]; omega) go
    refine Ev.step (f := fun k => pentaglotref02_All.l2 k l outs (i : Int) next (m : Int) 0) (fun k => ?_) ?_
    · simp only [pentaglotref02_All.l1]
      rw [if_pos (by omega)]
    · refine refAll_l2 l hv i hi outs ho m hm R _ 0 next rfl (by omega) ?_
      rw [List.drop_zero, wrap_next hm (by omega)]
      exact h
variable (h4 : l.length ≤ 4)
include h4
theorem refAll_l0 : ∀ d i (outs : List (List S37)), l.length - i = d → i ≤ l.length → (∀ r ∈ outs, r.length ≤ i) → outs.length ≤ 8 ^ i → Ev (fun k => pentaglotref02_All.l0 k l outs (i : Int)) (outs.flatMap (tupR (l.drop i))) := by
  intro d
  induction d with
  | zero =>
    intro i outs hd hi ho hb
    rw [drop_end (by omega)]
    have e : outs.flatMap (tupR []) = outs := by
      show outs.flatMap (fun r => [r]) = outs
      simp
    rw [e]
    refine Ev.step (f := fun _ => some outs) (fun k => ?_) (Ev.now _)
    simp only [pentaglotref02_All.l0]
    rw [if_neg (by omega)]
  | succ d ih =>
    intro i outs hd hi ho hb
    have hlt : i < l.length := by omega
    have h8 := hv _ (List.getElem_mem hlt)
    have hb3 : 8 ^ i ≤ 8 ^ 3 := Nat.pow_le_pow_right (by decide) (by omega)
    have hlen : (stepR l[i] outs).length ≤ outs.length * 8 := by
      unfold stepR
      clear ho hb
      induction outs with
      | nil => simp
      | cons r rs ihr => rw [List.flatMap_cons, List.length_append, List.length_map, List.length_cons]; omega
    rw [drop_at hlt, ← tupR_step]
    have h := ih (i + 1) (stepR l[i] outs) (by omega) (by omega) (fun r hr => by
      unfold stepR at hr
      obtain ⟨r0, h0, hr⟩ := List.mem_flatMap.1 hr
      obtain ⟨v, _, rfl⟩ := List.mem_map.1 hr
      rw [putF_length]; have := ho r0 h0; omega) (by rw [Nat.pow_succ]; omega)
    refine Ev.step (f := fun k => pentaglotref02_All.l1 k l outs (i : Int) [] 0) (fun k => ?_) ?_
    · simp only [pentaglotref02_All.l0]
      rw [if_pos (by omega)]
    · refine refAll_l1 l hv i hlt outs (fun r hr => by have := ho r hr; omega) (by omega) _ _ 0 [] rfl (by simp) ?_
      rw [List.drop_zero, List.nil_append, wrap_next hlt (by omega)]
      exact h
end
/-- What both Params make of the dimensions. -/
def recs (l : List S90) : List (List S37) := if dimsP l = true then (tup l []).map sortRec else []
theorem refAll_ev (l : List S90) (hl : Sized l) : Ev (fun k => pentaglotref02_All.f k l) (recs l) := by
  unfold recs
  refine Ev.bind (refDims_ev l hl) ?_
  by_cases h : dimsP l = true
  · rw [if_pos h, tup_sort]
    refine Ev.congr (f := fun k => pentaglotref02_All.l0 k l [[]] 0) (fun k => by rw [if_pos h]) ?_
    have := refAll_l0 l (fun d hd => (dims_mem h d hd).2) (dims_len h) _ 0 [[]] rfl (by omega) (by simp) (by simp)
    simpa [List.flatMap_cons, sortRec] using this
  · rw [if_neg h]
    exact Ev.congr (fun k => by rw [if_neg h]) (Ev.now _)
end Go.Proofs.Ytfbfopfhfeijdaa.Pr
