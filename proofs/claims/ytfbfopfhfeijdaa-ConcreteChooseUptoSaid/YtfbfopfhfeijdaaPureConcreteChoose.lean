/- ConcreteChoose, plainly: the first rule of a function that applies. -/
import Derived.Test.YtfbfopfhfeijdaaStConcreteChoose
import Derived.Test.YtfbfopfhfeijdaaPlG
namespace Go.Proofs.Ytfbfopfhfeijdaa.PuConcreteChoose
open Go.RowKit Go.Proofs.Ytfbfopfhfeijdaa.Pr Go.Proofs.Ytfbfopfhfeijdaa.Opn Go.Proofs.YtfbfopfhfeijdaaW.PrintWords Go.Proofs.YtfbfopfhfeijdaaW.PrintLast
set_option linter.unusedVariables false
set_option linter.unusedSimpArgs false
abbrev Rl := S33
def named (nm : ByteArray) (r : Rl) : Bool := r.f0.toList == nm.toList
def tell (o : Option Rl) : ByteArray × List (List S37) × List S37 × List S88 × Bool :=
  match o with
  | some r => (r.f0, r.f1, r.f2, r.f3, true)
  | none => (⟨#[]⟩, [], [], [], false)
section
variable (b0 : ByteArray) (b1 : Bool) (b2 : List S173) (b3 : List S176) (b4 : List S179) (b5 : List S181) (b6 : List (List Int)) (b7 : Int) (b8 : Int) (b9 : List S176) (b10 : Int) (b11 : List ByteArray) (b12 : List ByteArray) (b13 : Bool) (b14 : ByteArray) (b15 : Int) (b16 : ByteArray) (b17 : Bool) (b18 : Int) (b19 : Int) (b20 : List S184) (b21 : List S184) (b22 : List ByteArray) (b23 : List ByteArray) (b24 : List ByteArray) (b25 : Bool) (b26 : List S186) (b27 : List S68) (b28 : List S33) (b29 : ByteArray) (nm : ByteArray) (xs : List (List S37))
theorem rules_ev (h : b28.length ≤ 1048576) : Ev (fun k => pentaglotref33_Rules.f k b0 b1 b2 b3 b4 b5 b6 b7 b8 b9 b10 b11 b12 b13 b14 b15 b16 b17 b18 b19 b20 b21 b22 b23 b24 b25 b26 b27 b28 b29 nm) (b28.filter (named nm)) := by
  have key : ∀ d (i : Nat) (acc : List Rl), b28.length - i = d → acc.length ≤ i → Ev (fun k => pentaglotref33_Rules.l0 k nm acc b28 (b28.length : Int) i) (acc ++ (b28.drop i).filter (named nm)) := by
    intro d
    induction d with
    | zero =>
      intro i acc hd ha
      refine Ev.step (f := fun _ => some (acc ++ (b28.drop i).filter (named nm))) (fun k => ?_) (Ev.now _)
      simp only [pentaglotref33_Rules.l0]; rw [if_neg (by omega), drop_end (by omega)]; simp
    | succ d ih =>
      intro i acc hd ha
      have hi : i < b28.length := by omega
      rw [drop_at hi, List.filter_cons]
      by_cases e : (b28[i].f0).toList = nm.toList
      · have e1 : named nm b28[i] = true := by unfold named; exact beq_iff_eq.mpr e
        refine Ev.step (fun k => ?_) (by have := ih (i + 1) (acc ++ [b28[i]]) (by omega) (by rw [List.length_append, List.length_singleton]; omega); rw [if_pos e1]; rw [List.append_assoc] at this; exact this)
        simp only [pentaglotref33_Rules.l0, rd_rule hi]
        rw [if_pos (by omega), if_pos (by omega), if_pos (by omega), if_pos e, if_pos (by omega), wrap_next hi (by omega)]
      · have e1 : ¬ named nm b28[i] = true := by unfold named; simpa using e
        refine Ev.step (fun k => ?_) (by have := ih (i + 1) acc (by omega) (by omega); rw [if_neg e1]; exact this)
        simp only [pentaglotref33_Rules.l0, rd_rule hi]
        rw [if_pos (by omega), if_pos (by omega), if_pos (by omega), if_neg e, wrap_next hi (by omega)]
  have := key _ 0 [] rfl (Nat.le_refl _)
  rw [List.nil_append, List.drop_zero] at this
  exact this
theorem refChoose_ev (hx : Small xs) (h : b28.length ≤ 1048576) (hr : ∀ r ∈ b28, TinyR r) :
    Ev (fun k => pentaglotref33_Choose.f k b0 b1 b2 b3 b4 b5 b6 b7 b8 b9 b10 b11 b12 b13 b14 b15 b16 b17 b18 b19 b20 b21 b22 b23 b24 b25 b26 b27 b28 b29 nm xs) (tell ((b28.filter (named nm)).find? fun r => applies xs r.f1)) := by
  unfold pentaglotref33_Choose.f
  refine Ev.bind (rules_ev b0 b1 b2 b3 b4 b5 b6 b7 b8 b9 b10 b11 b12 b13 b14 b15 b16 b17 b18 b19 b20 b21 b22 b23 b24 b25 b26 b27 b28 b29 nm h) ?_
  have hl : (b28.filter (named nm)).length ≤ 1048576 := Nat.le_trans (List.length_filter_le _ _) h
  have hm : ∀ r ∈ b28.filter (named nm), TinyR r := fun r h => hr r (List.mem_filter.1 h).1
  generalize b28.filter (named nm) = rs at hl hm
  have key : ∀ d (i : Nat), rs.length - i = d → Ev (fun k => pentaglotref33_Choose.l0 k xs rs (rs.length : Int) i) (tell ((rs.drop i).find? fun r => applies xs r.f1)) := by
    intro d
    induction d with
    | zero =>
      intro i hd
      refine Ev.step (f := fun _ => some (tell ((rs.drop i).find? fun r => applies xs r.f1))) (fun k => ?_) (Ev.now _)
      simp only [pentaglotref33_Choose.l0]; rw [if_neg (by omega), drop_end (by omega)]; rfl
    | succ d ih =>
      intro i hd
      have hi : i < rs.length := by omega
      rw [drop_at hi, List.find?_cons]
      have ha := refApplies_ev rs[i].f0 rs[i].f1 rs[i].f2 rs[i].f3 xs hx (hm _ (List.getElem_mem hi)).small
      refine Ev.step (f := fun k => (pentaglotref33_Applies.f k rs[i].f0 rs[i].f1 rs[i].f2 rs[i].f3 xs).bind fun t => if t = true then some (rs[i].f0, rs[i].f1, rs[i].f2, rs[i].f3, true) else pentaglotref33_Choose.l0 k xs rs (rs.length : Int) ((i + 1 : Nat) : Int)) (fun k => ?_) (Ev.bind ha ?_)
      · simp only [pentaglotref33_Choose.l0, rd_rule hi]
        rw [if_pos (by omega), if_pos (by omega), if_pos (by omega), wrap_next hi (by omega)]
      · cases applies xs rs[i].f1 with
        | true => simp only [if_true]; exact Ev.now _
        | false => simp only [Bool.false_eq_true, if_false]; exact ih (i + 1) (by omega)
  have := key _ 0 rfl
  rw [List.drop_zero] at this
  exact this
theorem choose_ev (hx : Small xs) (h : b28.length ≤ 1048576) (hr : ∀ r ∈ b28, TinyR r) :
    Ev (fun k => concrete_Choose.f k b0 b1 b2 b3 b4 b5 b6 b7 b8 b9 b10 b11 b12 b13 b14 b15 b16 b17 b18 b19 b20 b21 b22 b23 b24 b25 b26 b27 b28 b29 nm xs) (tell (b28.find? fun r => named nm r && applies xs r.f1)) := by
  unfold concrete_Choose.f
  have key : ∀ d (i : Nat), b28.length - i = d → Ev (fun k => concrete_Choose.l0 k nm xs b28 (b28.length : Int) i) (tell ((b28.drop i).find? fun r => named nm r && applies xs r.f1)) := by
    intro d
    induction d with
    | zero =>
      intro i hd
      refine Ev.step (f := fun _ => some (tell ((b28.drop i).find? fun r => named nm r && applies xs r.f1))) (fun k => ?_) (Ev.now _)
      simp only [concrete_Choose.l0]; rw [if_neg (by omega), drop_end (by omega)]; rfl
    | succ d ih =>
      intro i hd
      have hi : i < b28.length := by omega
      rw [drop_at hi, List.find?_cons]
      have ht := hr _ (List.getElem_mem hi)
      by_cases e : (b28[i].f0).toList = nm.toList
      · have e1 : named nm b28[i] = true := by unfold named; exact beq_iff_eq.mpr e
        have ha := applies_ev b28[i].f0 b28[i].f1 b28[i].f2 b28[i].f3 xs hx ht.small
        refine Ev.step (f := fun k => (concrete_Applies.f k b28[i].f0 b28[i].f1 b28[i].f2 b28[i].f3 xs).bind fun t => if t = true then (concrete_copiedRule.f k b28[i].f0 b28[i].f1 b28[i].f2 b28[i].f3).bind fun q => some (q.1, q.2.1, q.2.2.1, q.2.2.2, true) else concrete_Choose.l0 k nm xs b28 (b28.length : Int) ((i + 1 : Nat) : Int)) (fun k => ?_) (Ev.bind ha ?_)
        · simp only [concrete_Choose.l0, rd_rule hi]
          rw [if_pos (by omega), if_pos (by omega), if_pos (by omega), if_pos e, wrap_next hi (by omega)]
        · rw [e1]
          cases applies xs b28[i].f1 with
          | true => simp only [if_true, Bool.and_self]; exact Ev.bind (copied_ev _ ht) (Ev.now _)
          | false => simp only [Bool.false_eq_true, if_false, Bool.and_false]; exact ih (i + 1) (by omega)
      · have e1 : named nm b28[i] = false := by unfold named; exact beq_eq_false_iff_ne.mpr e
        rw [e1]
        simp only [Bool.false_and]
        refine Ev.step (fun k => ?_) (ih (i + 1) (by omega))
        simp only [concrete_Choose.l0, rd_rule hi]
        rw [if_pos (by omega), if_pos (by omega), if_pos (by omega), if_neg e, wrap_next hi (by omega)]
  have := key _ 0 rfl
  rw [List.drop_zero] at this
  exact this
end
theorem find_filter {α : Type} (p q : α → Bool) (xs : List α) : (xs.filter p).find? q = xs.find? fun x => p x && q x := by
  induction xs with
  | nil => rfl
  | cons x xs ih =>
    rw [List.filter_cons, List.find?_cons]
    cases hp : p x with
    | false => simp only [Bool.false_eq_true, if_false, Bool.false_and]; exact ih
    | true =>
      simp only [if_true, Bool.true_and]
      rw [List.find?_cons]
      cases q x with
      | true => rfl
      | false => exact ih
theorem zero_tiny : TinyR (⟨⟨#[]⟩, [], [], []⟩ : Rl) := ⟨⟨by simp, by simp⟩, by simp, by simp, by simp⟩
theorem ProvedUpto : Upto := by
  intro b0 b1 b2 b3 b4 b5 b6 b7 b8 b9 b10 b11 b12 b13 b14 b15 b16 b17 b18 b19 b20 b21 b22 b23 b24 b25 b26 b27 b28 b29 nm xs g0 g1 g2 hb
  have hx := small_good g2
  have hL := tiny_lists (cs := b27) (rs := b28) (by simp only [Ms.pair] at hb; omega) (by simp only [Ms.pair] at hb; omega)
  clear g0 g1 g2 hb
  obtain ⟨r1, h1⟩ := few_ev b0 b1 b2 b3 b4 b5 b6 b7 b8 b9 b10 b11 b12 b13 b14 b15 b16 b17 b18 b19 b20 b21 b22 b23 b24 b25 b26 b27 b28 b29 (counted_of hL) [] (by simp)
  obtain ⟨r2, h2⟩ := records_ev xs hx
  have haw : Ev (fun _ => (pentaglotlaw33_awake.f).bind fun t => some t) true := ⟨0, fun _ _ => by simp only [pentaglotlaw33_awake.f]; rfl⟩
  have hj : ∀ b : Bool, Ev (fun k => pentaglotlaw33_ConcreteChoose.j0 k nm xs b b0 b1 b2 b3 b4 b5 b6 b7 b8 b9 b10 b11 b12 b13 b14 b15 b16 b17 b18 b19 b20 b21 b22 b23 b24 b25 b26 b27 b28 b29) true := by
    intro b
    cases b with
    | true =>
      refine Ev.step (fun k => ?_) haw
      simp only [pentaglotlaw33_ConcreteChoose.j0]; rw [if_pos trivial]
    | false =>
      have hc := choose_ev b0 b1 b2 b3 b4 b5 b6 b7 b8 b9 b10 b11 b12 b13 b14 b15 b16 b17 b18 b19 b20 b21 b22 b23 b24 b25 b26 b27 b28 b29 nm xs hx hL.2.1 hL.2.2
      have hd := refChoose_ev b0 b1 b2 b3 b4 b5 b6 b7 b8 b9 b10 b11 b12 b13 b14 b15 b16 b17 b18 b19 b20 b21 b22 b23 b24 b25 b26 b27 b28 b29 nm xs hx hL.2.1 hL.2.2
      rw [find_filter] at hd
      have ho : ∀ r, b28.find? (fun r => named nm r && applies xs r.f1) = some r → TinyR r ∧ applies xs r.f1 = true := fun r hf => by
        have hp := List.find?_some hf
        exact ⟨hL.2.2 r (List.mem_of_find?_eq_some hf), by rw [Bool.and_eq_true] at hp; exact hp.2⟩
      generalize b28.find? (fun r => named nm r && applies xs r.f1) = o at hc hd ho
      refine Ev.step (fun k => by simp only [pentaglotlaw33_ConcreteChoose.j0]; rw [if_neg (by decide)]) (Ev.bind hc (Ev.bind hd ?_))
      cases o with
      | none =>
        simp only [tell, beq_self_eq_true, if_true]
        refine Ev.bind (sameRule_refl _ zero_tiny) ?_
        simp only [if_true, Bool.false_eq_true, if_false]
        exact Ev.now _
      | some r =>
        obtain ⟨ht, ha⟩ := ho r rfl
        simp only [tell, beq_self_eq_true, if_true]
        refine Ev.bind (sameRule_refl r ht) ?_
        simp only [if_true]
        rw [← ha]
        exact Ev.bind (applies_ev r.f0 r.f1 r.f2 r.f3 xs hx ht.small) (Ev.now _)
  refine Ev.rounds (g := fun k => pentaglotlaw33_ConcreteChoose.f k b0 b1 b2 b3 b4 b5 b6 b7 b8 b9 b10 b11 b12 b13 b14 b15 b16 b17 b18 b19 b20 b21 b22 b23 b24 b25 b26 b27 b28 b29 nm xs) ?_
  unfold pentaglotlaw33_ConcreteChoose.f
  refine Ev.bind (a := true) ⟨0, fun _ _ => by simp only [pentaglotlaw33_awake.f]⟩ ?_
  simp only [if_true]
  refine Ev.bind h1 ?_
  cases r1 with
  | false => simp only [Bool.false_eq_true, if_false]; exact hj true
  | true =>
    simp only [if_true]
    exact Ev.bind h2 (hj (!r2))
end Go.Proofs.Ytfbfopfhfeijdaa.PuConcreteChoose
