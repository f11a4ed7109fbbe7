/- ConcreteWeaker, plainly: without one of its required features a rule still applies. -/
import Derived.Test.YtfbfopfhfeijdaaStConcreteWeaker
import Derived.Test.YtfbfopfhfeijdaaPlA
namespace Go.Proofs.Ytfbfopfhfeijdaa.PuConcreteWeaker
open Go.RowKit Go.Proofs.Ytfbfopfhfeijdaa.Pr Go.Proofs.Ytfbfopfhfeijdaa.Opn Go.Proofs.YtfbfopfhfeijdaaW.PrintWords Go.Proofs.YtfbfopfhfeijdaaW.PrintLast
set_option linter.unusedVariables false
theorem small_of {xs : List (List S37)} (h : (Ms.slice (Ms.slice ms37)).good xs) : Small xs :=
  ⟨by have := h.1; simpa [maxLen] using this, fun x hx => by have := (h.2 x hx).1; simpa [maxLen] using this⟩
/-- records ends, and what it says where it says yes. -/
theorem records_ev2 (xs : List (List S37)) (hx : Small xs) : ∃ r, Ev (fun k => pentaglotlaw33_records.f k xs) r ∧ (r = true → xs.length ≤ 6 ∧ ∀ (q : Nat) (h : q < xs.length), xs[q].length ≤ 10) := by
  have key : ∀ d (i : Nat), xs.length - i = d → ∃ r, Ev (fun k => pentaglotlaw33_records.l0 k xs i) r ∧ (r = true → xs.length ≤ 6 ∧ ∀ (q : Nat) (h : q < xs.length), i ≤ q → xs[q].length ≤ 10) := by
    intro d
    induction d with
    | zero =>
      intro i hd
      refine ⟨decide ((xs.length : Int) ≤ 6), Ev.step (f := fun _ => some (decide ((xs.length : Int) ≤ 6))) (fun k => ?_) (Ev.now _), fun e => ⟨by have := of_decide_eq_true e; omega, fun q h hq => by omega⟩⟩
      simp only [pentaglotlaw33_records.l0]; rw [if_neg (by omega)]
    | succ d ih =>
      intro i hd
      have hi : i < xs.length := by omega
      have hxi := hx.2 _ (List.getElem_mem hi)
      by_cases hlen : ((xs[i]).length : Int) > 10
      · refine ⟨false, Ev.step (f := fun _ => some false) (fun k => ?_) (Ev.now _), fun e => by cases e⟩
        simp only [pentaglotlaw33_records.l0, rd_rec hi]; rw [if_pos (by omega), if_pos (by omega), if_pos hlen]
      · obtain ⟨ri, hri, hpi⟩ := ih (i + 1) (by omega)
        have k1 : ∀ e (j : Nat), xs[i].length - j = e → ∃ r, Ev (fun k => pentaglotlaw33_records.l1 k xs i j) r ∧ (r = true → ri = true) := by
          intro e
          induction e with
          | zero =>
            intro j he
            refine ⟨ri, Ev.step (fun k => ?_) hri, fun e => e⟩
            simp only [pentaglotlaw33_records.l1, rd_rec hi]; rw [if_pos (by omega), if_pos (by omega), if_neg (by omega), wrap_next hi hx.1]
          | succ e ihe =>
            intro j he
            have hj : j < xs[i].length := by omega
            have k2 : ∀ f (m : Nat), j - m = f → ∃ r, Ev (fun k => pentaglotlaw33_records.l2 k xs i j m) r ∧ (r = true → ri = true) := by
              intro f
              induction f with
              | zero =>
                intro m hm
                obtain ⟨r, hr, hp⟩ := ihe (j + 1) (by omega)
                refine ⟨r, Ev.step (fun k => ?_) hr, hp⟩
                simp only [pentaglotlaw33_records.l2]; rw [if_neg (by omega), wrap_next hj hxi]
              | succ f ihf =>
                intro m hm
                have hm' : m < xs[i].length := by omega
                by_cases e : (xs[i][m].f0).toList = (xs[i][j].f0).toList
                · refine ⟨false, Ev.step (f := fun _ => some false) (fun k => ?_) (Ev.now _), fun e => by cases e⟩
                  simp only [pentaglotlaw33_records.l2, rd_rec hi, rd_feat hm', rd_feat hj]
                  rw [if_pos (by omega), if_pos (by omega), if_pos (by omega), if_pos (by omega), if_pos (by omega), if_pos (by omega), if_pos (by omega), if_pos e]
                · obtain ⟨r, hr, hp⟩ := ihf (m + 1) (by omega)
                  refine ⟨r, Ev.step (fun k => ?_) hr, hp⟩
                  simp only [pentaglotlaw33_records.l2, rd_rec hi, rd_feat hm', rd_feat hj]
                  rw [if_pos (by omega), if_pos (by omega), if_pos (by omega), if_pos (by omega), if_pos (by omega), if_pos (by omega), if_pos (by omega), if_neg e, wrap_next hm' hxi]
            obtain ⟨r, hr, hp⟩ := k2 _ 0 rfl
            refine ⟨r, Ev.step (fun k => ?_) hr, hp⟩
            simp only [pentaglotlaw33_records.l1, rd_rec hi]; rw [if_pos (by omega), if_pos (by omega), if_pos (by omega)]; rfl
        obtain ⟨r, hr, hp⟩ := k1 _ 0 rfl
        refine ⟨r, Ev.step (fun k => ?_) hr, fun e => ⟨(hpi (hp e)).1, fun q h hq => ?_⟩⟩
        · simp only [pentaglotlaw33_records.l0, rd_rec hi]; rw [if_pos (by omega), if_pos (by omega), if_neg hlen]; rfl
        · by_cases hqi : q = i
          · subst hqi; omega
          · exact (hpi (hp e)).2 q h (by omega)
  obtain ⟨r, hr, hp⟩ := key _ 0 rfl
  exact ⟨r, hr, fun e => ⟨(hp e).1, fun q h => (hp e).2 q h (Nat.zero_le _)⟩⟩
theorem holds_erase (x w : List S37) (k : Nat) (h : holdsAll x w = true) : holdsAll x (w.eraseIdx k) = true := by
  unfold holdsAll at *
  rw [List.all_eq_true] at *
  exact fun f hf => h f (List.mem_of_mem_eraseIdx hf)
theorem applies_weak (xs ys : List (List S37)) (i k : Nat) (hi : i < ys.length) (h : applies xs ys = true) : applies xs (ys.set i (ys[i].eraseIdx k)) = true := by
  unfold applies at *
  rw [Bool.and_eq_true] at *
  obtain ⟨h1, h2⟩ := h
  refine ⟨by rw [List.length_set]; exact h1, ?_⟩
  rw [List.all_eq_true] at *
  intro p hp
  obtain ⟨q, hq, hpq⟩ := List.mem_iff_getElem.1 hp
  rw [List.length_zip, List.length_set] at hq
  have hqx : q < xs.length := by omega
  have hqy : q < ys.length := by omega
  have hold := h2 (xs[q], ys[q]) (List.mem_iff_getElem.2 ⟨q, by rw [List.length_zip]; omega, by rw [List.getElem_zip]⟩)
  rw [List.getElem_zip, List.getElem_set] at hpq
  rw [← hpq]
  by_cases e : i = q
  · subst e
    simp only [if_true]
    exact holds_erase _ _ k hold
  · simp only [if_neg e]
    exact hold
theorem ProvedSaid : Said := by
  intro a0 l1 l2 l3 xs a2 a3 g0 g1 g2 g3
  have hx := small_of g1
  have hy := small_of g0.2.1
  obtain ⟨r1, h1, hp1⟩ := records_ev2 l1 hy
  obtain ⟨r2, h2, hp2⟩ := records_ev2 xs hx
  have haw : Ev (fun _ => (pentaglotlaw33_awake.f).bind fun t => some t) true := ⟨0, fun _ _ => by simp only [pentaglotlaw33_awake.f]; rfl⟩
  refine Ev.rounds (g := fun k => pentaglotlaw33_ConcreteWeaker.f k a0 l1 l2 l3 xs a2 a3) ?_
  unfold pentaglotlaw33_ConcreteWeaker.f
  refine Ev.bind (a := true) ⟨0, fun _ _ => by simp only [pentaglotlaw33_awake.f]⟩ ?_
  simp only [if_true]
  refine Ev.bind h1 ?_
  cases r1 with
  | false => simp only [Bool.false_eq_true, if_false]; exact haw
  | true =>
    simp only [if_true]
    refine Ev.bind h2 ?_
    cases r2 with
    | false => simp only [Bool.false_eq_true, if_false]; exact haw
    | true =>
      simp only [if_true]
      refine Ev.bind (applies_ev a0 l1 l2 l3 xs hx hy) ?_
      cases ha : applies xs l1 with
      | false => simp only [Bool.false_eq_true, if_false]; exact haw
      | true =>
        simp only [if_true]
        by_cases c1 : a2 < 0
        · simp only [if_pos c1]; exact haw
        by_cases c2 : a2 ≥ (l1.length : Int)
        · simp only [if_neg c1, if_pos c2]; exact haw
        by_cases c3 : a3 < 0
        · simp only [if_neg c1, if_neg c2, if_pos c3]; exact haw
        obtain ⟨i, rfl⟩ : ∃ i : Nat, a2 = (i : Int) := ⟨a2.toNat, by omega⟩
        obtain ⟨k3, rfl⟩ : ∃ k : Nat, a3 = (k : Int) := ⟨a3.toNat, by omega⟩
        have hi : i < l1.length := by omega
        have c4 : (0 : Int) ≤ (i : Int) := by omega
        have c5 : (i : Int) < (l1.length : Int) := by omega
        simp only [if_neg c1, if_neg c2, if_neg c3, if_pos c4, if_pos c5]
        rw [rd_rec hi]
        by_cases c6 : (k3 : Int) ≥ ((l1[i]).length : Int)
        · simp only [if_pos c6]; exact haw
        simp only [if_neg c6]
        have hb := hp1 rfl
        refine Ev.congr (f := fun k => concrete_Applies.f k a0 (l1.set i (l1[i].eraseIdx k3)) l2 l3 xs) (fun k => ?_) ?_
        · show pentaglotlaw33_ConcreteWeaker.g k a0 l1 l2 l3 xs i k3 = _
          unfold pentaglotlaw33_ConcreteWeaker.g
          rw [rd_rec hi, if_pos ⟨hb.1, hb.2 i hi⟩, Int.toNat_natCast, Int.toNat_natCast]
        · have hs : Small (l1.set i (l1[i].eraseIdx k3)) := ⟨by rw [List.length_set]; exact hy.1, fun x hm => by
            rcases List.mem_or_eq_of_mem_set hm with hm | hm
            · exact hy.2 x hm
            · subst hm
              have h1 := hy.2 _ (List.getElem_mem hi)
              have h2 := (List.eraseIdx_sublist l1[i] k3).length_le
              omega⟩
          rw [← applies_weak xs l1 i k3 hi ha]
          exact applies_ev a0 _ l2 l3 xs hx hs
theorem ProvedUpto : Upto := Said.upto ProvedSaid
end Go.Proofs.Ytfbfopfhfeijdaa.PuConcreteWeaker
