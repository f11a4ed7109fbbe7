/- What a bound on a language's weight says of its rules and categories. -/
import Derived.Test.YtfbfopfhfeijdaaKinds
import Derived.Test.YtfbfopfhfeijdaaPlF
namespace Go.Proofs.Ytfbfopfhfeijdaa.Pr
open Go.RowKit Go.Proofs.Ytfbfopfhfeijdaa.Opn Go.Proofs.YtfbfopfhfeijdaaW.PrintWords Go.Proofs.YtfbfopfhfeijdaaW.PrintLast
set_option linter.unusedVariables false
theorem mem_bulk {α : Type} (m : Ms α) {xs : List α} {x : α} (h : x ∈ xs) : m.bulk x ≤ (Ms.slice m).bulk xs := by
  have key : ∀ xs : List α, x ∈ xs → m.bulk x ≤ (xs.map m.bulk).sum := by
    intro xs
    induction xs with
    | nil => intro h; cases h
    | cons y ys ih =>
      intro h
      rw [List.map_cons, List.sum_cons]
      rcases List.mem_cons.1 h with h | h
      · subst h; omega
      · have := ih h; omega
  have := key xs h
  show m.bulk x ≤ (xs.map m.bulk).sum + 1
  omega
theorem len_bulk {α : Type} (m : Ms α) (hm : ∀ x, 1 ≤ m.bulk x) (xs : List α) : xs.length ≤ (Ms.slice m).bulk xs := by
  have key : xs.length ≤ (xs.map m.bulk).sum := by
    induction xs with
    | nil => simp
    | cons y ys ih => rw [List.map_cons, List.sum_cons, List.length_cons]; have := hm y; omega
  show xs.length ≤ (xs.map m.bulk).sum + 1
  omega
theorem pos_slice {α : Type} (m : Ms α) (x : List α) : 1 ≤ (Ms.slice m).bulk x := Nat.le_add_left 1 _
theorem pos_str (x : ByteArray) : 1 ≤ Ms.string.bulk x := Nat.le_add_left 1 _
theorem pos_feat (x : S37) : 1 ≤ ms37.bulk x := by show 1 ≤ (x.f0.size + 1) + (x.f1.size + 1); omega
theorem b_piece (x : S94) : ms94.bulk x = 1 + ((x.f1.size + 1) + (1 + ((x.f3.size + 1) + (Ms.slice ms37).bulk x.f4))) := rfl
theorem b_field (x : S88) : ms88.bulk x = (x.f0.size + 1) + (Ms.slice ms94).bulk x.f1 := rfl
theorem b_rule (x : S33) : ms33.bulk x = (x.f0.size + 1) + ((Ms.slice (Ms.slice ms37)).bulk x.f1 + ((Ms.slice ms37).bulk x.f2 + (Ms.slice ms88).bulk x.f3)) := rfl
theorem b_dim (x : S90) : ms90.bulk x = (x.f0.size + 1) + (Ms.slice Ms.string).bulk x.f1 := rfl
theorem b_cat (x : S68) : ms68.bulk x = (x.f0.size + 1) + ((Ms.slice ms90).bulk x.f1 + (Ms.slice Ms.string).bulk x.f2) := rfl
theorem pos_piece (x : S94) : 1 ≤ ms94.bulk x := by rw [b_piece]; omega
theorem pos_field (x : S88) : 1 ≤ ms88.bulk x := by rw [b_field]; omega
theorem pos_rule (x : S33) : 1 ≤ ms33.bulk x := by rw [b_rule]; omega
theorem pos_dim (x : S90) : 1 ≤ ms90.bulk x := by rw [b_dim]; omega
theorem pos_cat (x : S68) : 1 ≤ ms68.bulk x := by rw [b_cat]; omega
theorem tiny_rule (r : S33) (h : ms33.bulk r ≤ 1048576) : TinyR r := by
  rw [b_rule] at h
  have h1 := len_bulk _ (pos_slice ms37) r.f1
  have h2 := len_bulk _ pos_feat r.f2
  have h3 := len_bulk _ pos_field r.f3
  refine ⟨⟨by omega, fun w hw => ?_⟩, by omega, by omega, fun x hx => ?_⟩
  · have k1 := mem_bulk (Ms.slice ms37) hw
    have k2 := len_bulk _ pos_feat w
    omega
  · have k1 := mem_bulk ms88 hx
    rw [b_field] at k1
    have k2 := len_bulk _ pos_piece x.f1
    refine ⟨by omega, fun p hp => ?_⟩
    have k3 := mem_bulk ms94 hp
    rw [b_piece] at k3
    have k4 := len_bulk _ pos_feat p.f4
    omega
/-- A category all of whose lists are short. -/
def TinyC (c : S68) : Prop := (c.f1.length ≤ 1048576 ∧ ∀ d ∈ c.f1, d.f1.length ≤ 1048576) ∧ c.f2.length ≤ 1048576
theorem tiny_cat (c : S68) (h : ms68.bulk c ≤ 1048576) : TinyC c := by
  rw [b_cat] at h
  have h1 := len_bulk _ pos_dim c.f1
  have h2 := len_bulk _ pos_str c.f2
  refine ⟨⟨by omega, fun d hd => ?_⟩, by omega⟩
  have k1 := mem_bulk ms90 hd
  rw [b_dim] at k1
  have k2 := len_bulk _ pos_str d.f1
  omega
/-- The rules and categories of a light language. -/
theorem tiny_lists {cs : List S68} {rs : List S33} (hc : (Ms.slice ms68).bulk cs ≤ 1048576) (hr : (Ms.slice ms33).bulk rs ≤ 1048576) :
    (cs.length ≤ 1048576 ∧ ∀ c ∈ cs, TinyC c) ∧ rs.length ≤ 1048576 ∧ ∀ r ∈ rs, TinyR r := by
  have h1 := len_bulk _ pos_cat cs
  have h2 := len_bulk _ pos_rule rs
  exact ⟨⟨by omega, fun c h => tiny_cat c (by have := mem_bulk ms68 h; omega)⟩, by omega, fun r h => tiny_rule r (by have := mem_bulk ms33 h; omega)⟩
theorem TinyR.small {r : S33} (h : TinyR r) : Small r.f1 := ⟨by have := h.1.1; omega, fun x hx => by have := h.1.2 x hx; omega⟩
theorem counted_of {cs : List S68} {rs : List S33} (h : (cs.length ≤ 1048576 ∧ ∀ c ∈ cs, TinyC c) ∧ rs.length ≤ 1048576 ∧ ∀ r ∈ rs, TinyR r) : Counted cs rs :=
  ⟨⟨by have := h.1.1; omega, fun c hc => by have := (h.1.2 c hc).1.1; omega⟩, by have := h.2.1; omega, fun r hr => ⟨(h.2.2 r hr).small, by have := (h.2.2 r hr).2.2.1; omega⟩⟩
end Go.Proofs.Ytfbfopfhfeijdaa.Pr
