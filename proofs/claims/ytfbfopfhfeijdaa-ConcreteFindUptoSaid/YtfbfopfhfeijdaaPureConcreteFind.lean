/- ConcreteFind, plainly: the first category with a name, and the rules of a function in order. -/
import Derived.Test.YtfbfopfhfeijdaaStConcreteFind
import Derived.Test.YtfbfopfhfeijdaaPlG
namespace Go.Proofs.Ytfbfopfhfeijdaa.PuConcreteFind
open Go.RowKit Go.Proofs.Ytfbfopfhfeijdaa.Pr Go.Proofs.Ytfbfopfhfeijdaa.Opn Go.Proofs.YtfbfopfhfeijdaaW.PrintWords Go.Proofs.YtfbfopfhfeijdaaW.PrintLast
set_option linter.unusedVariables false
set_option linter.unusedSimpArgs false
abbrev Rl := S33
def named (nm : ByteArray) (r : Rl) : Bool := r.f0.toList == nm.toList
theorem cloneS_ev (xs : List ByteArray) (h : xs.length ≤ 1048576) : slices_Clone_string_string.f xs = some xs := by
  unfold slices_Clone_string_string.f; rw [if_pos (by omega)]
theorem clipS_ev (xs : List ByteArray) : slices_Clip_string_string.f xs = some xs := rfl
theorem rd_dim {xs : List S90} {i : Nat} (h : i < xs.length) : rd_T90 xs (i : Int) = xs[i] := by simp [rd_T90, List.getD_eq_getElem?_getD, h]
theorem copiedCat_ev (c : S68) (h : TinyC c) : Ev (fun k => concrete_copiedCategory.f k c.f0 c.f1 c.f2) (c.f0, c.f1, c.f2) := by
  obtain ⟨a, l1, l2⟩ := c
  obtain ⟨⟨h1, h1'⟩, h2⟩ := h
  dsimp only at h1 h1' h2 ⊢
  have e0 : ∀ d (i : Nat), l1.length - i = d → i ≤ l1.length → Ev (fun k => concrete_copiedCategory.l0 k l1 (l1.length : Int) i a (l1.take i) l2) (a, l1, l2) := by
    intro d
    induction d with
    | zero =>
      intro i hd hi
      refine Ev.step (f := fun _ => some (a, l1, l2)) (fun k => ?_) (Ev.now _)
      simp only [concrete_copiedCategory.l0]; rw [if_neg (by omega), List.take_of_length_le (by omega)]
    | succ d ih =>
      intro i hd hle
      have hi : i < l1.length := by omega
      refine Ev.step (fun k => ?_) (ih (i + 1) (by omega) (by omega))
      simp only [concrete_copiedCategory.l0, rd_dim hi]
      rw [if_pos (by omega), if_pos (by omega), if_pos (by omega), cloneS_ev _ (h1' _ (List.getElem_mem hi))]
      simp only [Option.bind_some, clipS_ev]
      rw [if_pos (by rw [List.length_take]; omega), wrap_next hi (by omega)]
      show concrete_copiedCategory.l0 k l1 (l1.length : Int) ((i + 1 : Nat) : Int) a (l1.take i ++ [l1[i]]) l2 = _
      rw [take_next hi]
  unfold concrete_copiedCategory.f
  simp only [cloneS_ev l2 h2, clipS_ev, Option.bind_some]
  have := e0 _ 0 rfl (Nat.zero_le _)
  rw [List.take_zero] at this
  exact this
def tellAt (l : List S68) (q : Int) : ByteArray × List S90 × List ByteArray × Bool :=
  if q < 0 then (⟨#[]⟩, [], [], false) else ((rd_T68 l q).f0, (rd_T68 l q).f1, (rd_T68 l q).f2, true)
section
variable (b0 : ByteArray) (b1 : Bool) (b2 : List S173) (b3 : List S176) (b4 : List S179) (b5 : List S181) (b6 : List (List Int)) (b7 : Int) (b8 : Int) (b9 : List S176) (b10 : Int) (b11 : List ByteArray) (b12 : List ByteArray) (b13 : Bool) (b14 : ByteArray) (b15 : Int) (b16 : ByteArray) (b17 : Bool) (b18 : Int) (b19 : Int) (b20 : List S184) (b21 : List S184) (b22 : List ByteArray) (b23 : List ByteArray) (b24 : List ByteArray) (b25 : Bool) (b26 : List S186) (b27 : List S68) (b28 : List S33) (b29 : ByteArray) (nm : ByteArray)
theorem rules_ev (h : b28.length ≤ 1048576) : Ev (fun k => pentaglotref33_Rules.f k b0 b1 b2 b3 b4 b5 b6 b7 b8 b9 b10 b11 b12 b13 b14 b15 b16 b17 b18 b19 b20 b21 b22 b23 b24 b25 b26 b27 b28 b29 nm) (b28.filter (named nm)) := by
  have key : ∀ d (i : Nat) (acc : List Rl), b28.length - i = d → acc.length ≤ i → Ev (fun k => pentaglotref33_Rules.l0 k nm acc b28 (b28.length : Int) i) (acc ++ (b28.drop i).filter (named nm)) := by
    intro d
    induction d with
    | zero =>
      intro i acc hd ha
      refine Ev.step (f := fun _ => some (acc ++ (b28.drop i).filter (named nm))) (fun k => ?_) (Ev.now _)
      simp only [pentaglotref33_Rules.l0]; rw [if_neg (by omega), drop_end (by omega)]; simp
    | succ d ih =>
      intro i acc hd ha
      have hi : i < b28.length := by omega
      rw [drop_at hi, List.filter_cons]
      by_cases e : (b28[i].f0).toList = nm.toList
      · have e1 : named nm b28[i] = true := by unfold named; exact beq_iff_eq.mpr e
        refine Ev.step (fun k => ?_) (by have := ih (i + 1) (acc ++ [b28[i]]) (by omega) (by rw [List.length_append, List.length_singleton]; omega); rw [if_pos e1]; rw [List.append_assoc] at this; exact this)
        simp only [pentaglotref33_Rules.l0, rd_rule hi]
        rw [if_pos (by omega), if_pos (by omega), if_pos (by omega), if_pos e, if_pos (by omega), wrap_next hi (by omega)]
      · have e1 : ¬ named nm b28[i] = true := by unfold named; simpa using e
        refine Ev.step (fun k => ?_) (by have := ih (i + 1) acc (by omega) (by omega); rw [if_neg e1]; exact this)
        simp only [pentaglotref33_Rules.l0, rd_rule hi]
        rw [if_pos (by omega), if_pos (by omega), if_pos (by omega), if_neg e, wrap_next hi (by omega)]
  have := key _ 0 [] rfl (Nat.le_refl _)
  rw [List.nil_append, List.drop_zero] at this
  exact this

theorem cRules_ev (h : b28.length ≤ 1048576) (hr : ∀ r ∈ b28, TinyR r) : Ev (fun k => concrete_Rules.f k b0 b1 b2 b3 b4 b5 b6 b7 b8 b9 b10 b11 b12 b13 b14 b15 b16 b17 b18 b19 b20 b21 b22 b23 b24 b25 b26 b27 b28 b29 nm) (b28.filter (named nm)) := by
  have key : ∀ d (i : Nat) (acc : List Rl), b28.length - i = d → acc.length ≤ i → Ev (fun k => concrete_Rules.l0 k nm acc b28 (b28.length : Int) i) (acc ++ (b28.drop i).filter (named nm)) := by
    intro d
    induction d with
    | zero =>
      intro i acc hd ha
      refine Ev.step (f := fun _ => some (acc ++ (b28.drop i).filter (named nm))) (fun k => ?_) (Ev.now _)
      simp only [concrete_Rules.l0]; rw [if_neg (by omega), drop_end (by omega)]; simp
    | succ d ih =>
      intro i acc hd ha
      have hi : i < b28.length := by omega
      rw [drop_at hi, List.filter_cons]
      by_cases e : (b28[i].f0).toList = nm.toList
      · have e1 : named nm b28[i] = true := by unfold named; exact beq_iff_eq.mpr e
        have hn := ih (i + 1) (acc ++ [b28[i]]) (by omega) (by rw [List.length_append, List.length_singleton]; omega)
        rw [List.append_assoc] at hn
        rw [if_pos e1]
        have hb := Ev.bind (f := fun k q => if acc.length < 1599289640401 then concrete_Rules.l0 k nm (acc ++ [(⟨q.1, q.2.1, q.2.2.1, q.2.2.2⟩ : Rl)]) b28 (b28.length : Int) ((i + 1 : Nat) : Int) else none) (copied_ev b28[i] (hr _ (List.getElem_mem hi))) (by simp only [if_pos (show acc.length < 1599289640401 by omega)]; exact hn)
        refine Ev.step (fun k => ?_) hb
        simp only [concrete_Rules.l0, rd_rule hi]
        rw [if_pos (by omega), if_pos (by omega), if_pos (by omega), if_pos e, wrap_next hi (by omega)]
      · have e1 : ¬ named nm b28[i] = true := by unfold named; simpa using e
        refine Ev.step (fun k => ?_) (by have := ih (i + 1) acc (by omega) (by omega); rw [if_neg e1]; exact this)
        simp only [concrete_Rules.l0, rd_rule hi]
        rw [if_pos (by omega), if_pos (by omega), if_pos (by omega), if_neg e, wrap_next hi (by omega)]
  have := key _ 0 [] rfl (Nat.le_refl _)
  rw [List.nil_append, List.drop_zero] at this
  exact this
theorem refFind_ev (h : b27.length ≤ 1048576) : Ev (fun k => pentaglotref33_Find.f k b0 b1 b2 b3 b4 b5 b6 b7 b8 b9 b10 b11 b12 b13 b14 b15 b16 b17 b18 b19 b20 b21 b22 b23 b24 b25 b26 b27 b28 b29 nm) (catTell b27 nm) := by
  have key : ∀ d (i : Nat), b27.length - i = d → Ev (fun k => pentaglotref33_Find.l0 k nm b27 (b27.length : Int) i) (tellAt b27 (catFrom b27 nm i)) := by
    intro d
    induction d with
    | zero =>
      intro i hd
      rw [catFrom_end (by omega)]
      refine Ev.step (f := fun _ => some (tellAt b27 (-1))) (fun k => ?_) (Ev.now _)
      simp only [pentaglotref33_Find.l0]; rw [if_neg (by omega)]; rfl
    | succ d ih =>
      intro i hd
      have hi : i < b27.length := by omega
      by_cases e : ((rd_T68 b27 i).f0).toList = nm.toList
      · rw [catFrom_hit hi e]
        refine Ev.step (f := fun _ => some (tellAt b27 (i : Int))) (fun k => ?_) (Ev.now _)
        simp only [pentaglotref33_Find.l0]; rw [if_pos (by omega), if_pos (by omega), if_pos (by omega), if_pos e]
        unfold tellAt; rw [if_neg (by omega)]
      · rw [catFrom_miss hi e]
        refine Ev.step (fun k => ?_) (ih (i + 1) (by omega))
        simp only [pentaglotref33_Find.l0]; rw [if_pos (by omega), if_pos (by omega), if_pos (by omega), if_neg e, wrap_next hi (by omega)]
  exact key _ 0 rfl
theorem find_ev (h : b27.length ≤ 1048576) (hc : ∀ c ∈ b27, TinyC c) : Ev (fun k => concrete_Find.f k b0 b1 b2 b3 b4 b5 b6 b7 b8 b9 b10 b11 b12 b13 b14 b15 b16 b17 b18 b19 b20 b21 b22 b23 b24 b25 b26 b27 b28 b29 nm) (catTell b27 nm) := by
  unfold concrete_Find.f
  refine Ev.bind (a := catTell b27 nm) ⟨0, fun _ _ => rfl⟩ ?_
  rcases catFrom_range b27 nm _ 0 rfl with e | ⟨j, hj, e⟩
  · have : catTell b27 nm = (⟨#[]⟩, [], [], false) := by unfold catTell; rw [e]; rfl
    rw [this]
    simp only [Bool.false_eq_true, if_false]
    exact Ev.now _
  · have : catTell b27 nm = (b27[j].f0, b27[j].f1, b27[j].f2, true) := by unfold catTell; rw [e, if_neg (by omega), rdc hj]
    rw [this]
    simp only [if_true]
    exact Ev.bind (copiedCat_ev _ (hc _ (List.getElem_mem hj))) (Ev.now _)
end
theorem same_ev (rs : List Rl) (h : rs.length ≤ 1048576) (hr : ∀ r ∈ rs, TinyR r) : Ev (fun k => pentaglotlaw33_ConcreteFind.j1 k rs rs false) true := by
  have key : ∀ d (i : Nat), rs.length - i = d → Ev (fun k => pentaglotlaw33_ConcreteFind.l0 k rs rs (rs.length : Int) i) true := by
    intro d
    induction d with
    | zero =>
      intro i hd
      refine Ev.step (f := fun _ => some true) (fun k => ?_) (Ev.now _)
      simp only [pentaglotlaw33_ConcreteFind.l0]; rw [if_neg (by omega)]
    | succ d ih =>
      intro i hd
      have hi : i < rs.length := by omega
      have hb := Ev.bind (f := fun k t => if t = true then pentaglotlaw33_ConcreteFind.l0 k rs rs (rs.length : Int) ((i + 1 : Nat) : Int) else some false) (sameRule_refl rs[i] (hr _ (List.getElem_mem hi))) (by simp only [if_true]; exact ih (i + 1) (by omega))
      refine Ev.step (fun k => ?_) hb
      simp only [pentaglotlaw33_ConcreteFind.l0, rd_rule hi]
      rw [if_pos (by omega), if_pos (by omega), if_pos (by omega), if_pos (by omega), wrap_next hi (by omega)]
  exact Ev.step (fun k => by simp only [pentaglotlaw33_ConcreteFind.j1]; rw [if_neg (by decide)]; rfl) (key _ 0 rfl)
theorem ProvedUpto : Upto := by
  intro b0 b1 b2 b3 b4 b5 b6 b7 b8 b9 b10 b11 b12 b13 b14 b15 b16 b17 b18 b19 b20 b21 b22 b23 b24 b25 b26 b27 b28 b29 nm g0 g1 hb
  have hL := tiny_lists (cs := b27) (rs := b28) (by simp only [Ms.pair] at hb; omega) (by simp only [Ms.pair] at hb; omega)
  clear g0 g1 hb
  obtain ⟨r1, h1⟩ := few_ev b0 b1 b2 b3 b4 b5 b6 b7 b8 b9 b10 b11 b12 b13 b14 b15 b16 b17 b18 b19 b20 b21 b22 b23 b24 b25 b26 b27 b28 b29 (counted_of hL) [] (by simp)
  have haw : Ev (fun _ => (pentaglotlaw33_awake.f).bind fun t => some t) true := ⟨0, fun _ _ => by simp only [pentaglotlaw33_awake.f]; rfl⟩
  have hj : ∀ b : Bool, Ev (fun k => pentaglotlaw33_ConcreteFind.j0 k nm b b0 b1 b2 b3 b4 b5 b6 b7 b8 b9 b10 b11 b12 b13 b14 b15 b16 b17 b18 b19 b20 b21 b22 b23 b24 b25 b26 b27 b28 b29) true := by
    intro b
    cases b with
    | true =>
      refine Ev.step (fun k => ?_) haw
      simp only [pentaglotlaw33_ConcreteFind.j0]; rw [if_pos trivial]
    | false =>
      have hl : (b28.filter (named nm)).length ≤ 1048576 := Nat.le_trans (List.length_filter_le _ _) hL.2.1
      have hm : ∀ r ∈ b28.filter (named nm), TinyR r := fun r h => hL.2.2 r (List.mem_filter.1 h).1
      refine Ev.step (fun k => by simp only [pentaglotlaw33_ConcreteFind.j0]; rw [if_neg (by decide)]) (Ev.bind (find_ev b0 b1 b2 b3 b4 b5 b6 b7 b8 b9 b10 b11 b12 b13 b14 b15 b16 b17 b18 b19 b20 b21 b22 b23 b24 b25 b26 b27 b28 b29 nm hL.1.1 hL.1.2) (Ev.bind (refFind_ev b0 b1 b2 b3 b4 b5 b6 b7 b8 b9 b10 b11 b12 b13 b14 b15 b16 b17 b18 b19 b20 b21 b22 b23 b24 b25 b26 b27 b28 b29 nm hL.1.1) (Ev.bind (cRules_ev b0 b1 b2 b3 b4 b5 b6 b7 b8 b9 b10 b11 b12 b13 b14 b15 b16 b17 b18 b19 b20 b21 b22 b23 b24 b25 b26 b27 b28 b29 nm hL.2.1 hL.2.2) (Ev.bind (rules_ev b0 b1 b2 b3 b4 b5 b6 b7 b8 b9 b10 b11 b12 b13 b14 b15 b16 b17 b18 b19 b20 b21 b22 b23 b24 b25 b26 b27 b28 b29 nm hL.2.1) ?_))))
      generalize b28.filter (named nm) = rs at hl hm
      simp only [bne_self_eq_false, Bool.false_eq_true, if_false, if_true]
      exact same_ev rs hl hm
  refine Ev.rounds (g := fun k => pentaglotlaw33_ConcreteFind.f k b0 b1 b2 b3 b4 b5 b6 b7 b8 b9 b10 b11 b12 b13 b14 b15 b16 b17 b18 b19 b20 b21 b22 b23 b24 b25 b26 b27 b28 b29 nm) ?_
  unfold pentaglotlaw33_ConcreteFind.f
  refine Ev.bind (a := true) ⟨0, fun _ _ => by simp only [pentaglotlaw33_awake.f]⟩ ?_
  simp only [if_true]
  exact Ev.bind h1 (hj (!r1))
end Go.Proofs.Ytfbfopfhfeijdaa.PuConcreteFind
