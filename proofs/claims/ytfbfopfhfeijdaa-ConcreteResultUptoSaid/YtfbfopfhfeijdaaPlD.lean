/- Template at records that are small: both templates, eventually. -/
import Derived.Test.YtfbfopfhfeijdaaPlC
import Derived.Test.YtfbfopfhfeijdaaKinds
namespace Go.Proofs.Ytfbfopfhfeijdaa.Pr
open Go.RowKit Go.Proofs.YtfbfopfhfeijdaaW.PrintWords Go.Proofs.YtfbfopfhfeijdaaW.PrintLast Go.Proofs.YtfbfopfhfeijdaaW.PrintMore Go.Proofs.Ytfbfopfhfeijdaa.Opn
set_option linter.unusedVariables false
set_option linter.unusedSimpArgs false
theorem small_of {xs : List (List S37)} (h : (Ms.slice (Ms.slice ms37)).good xs) : Small xs :=
  ⟨by have := h.1; simpa [maxLen] using this, fun x hx => by have := (h.2 x hx).1; simpa [maxLen] using this⟩
theorem bulk_mem {α : Type} (m : Ms α) {xs : List α} {x : α} (h : x ∈ xs) : m.bulk x ≤ (Ms.slice m).bulk xs := by
  have key : ∀ xs : List α, x ∈ xs → m.bulk x ≤ (xs.map m.bulk).sum := by
    intro xs
    induction xs with
    | nil => intro h; cases h
    | cons y ys ih =>
      intro h
      rw [List.map_cons, List.sum_cons]
      rcases List.mem_cons.1 h with h | h
      · subst h; omega
      · have := ih h; omega
  have := key xs h
  show m.bulk x ≤ (xs.map m.bulk).sum + 1
  omega
theorem val_le {l : List (List S37)} {i : Int} {nm v : ByteArray} (h : resolve l i nm = some v) : v.size ≤ (Ms.slice (Ms.slice ms37)).bulk l := by
  obtain ⟨xs, hxs, f, hf, rfl⟩ := resolve_mem h
  have h1 := bulk_mem (Ms.slice ms37) hxs
  have h2 := bulk_mem ms37 hf
  have h3 : ms37.bulk f = (f.f0.size + 1) + (f.f1.size + 1) := rfl
  omega
/-- What a template stands for. -/
def TT (l : List (List S37)) (s : ByteArray) : ByteArray × Int := (⟨(T l s.data.toList []).1.toArray⟩, (T l s.data.toList []).2)
theorem tmpl_ev (l : List (List S37)) (s : ByteArray) (hs : s.size ≤ 120) (hl : (Ms.slice (Ms.slice ms37)).bulk l ≤ 1048576) : Ev (fun k => concrete_Template.f k s l) (TT l s) := by
  refine ⟨121, fun k hk => ?_⟩
  show (if s.size ≤ 140737488355328 then tpl l k s [] else none) = some (TT l s)
  rw [if_pos (by omega)]
  have h := tpl_T l 1048576 (by omega) (fun i nm v h => Nat.le_trans (val_le h) hl) k s.data.toList [] (by rw [← size_list]; omega) (by
    rw [← size_list, List.length_nil]
    have := Nat.mul_le_mul_right 1048576 hs
    omega)
  rw [ba_eta] at h
  exact h
theorem refTmpl_ev (l : List (List S37)) (hx : Small l) (s : ByteArray) (hs : s.size ≤ 120) (hl : (Ms.slice (Ms.slice ms37)).bulk l ≤ 1048576) : Ev (fun k => pentaglotref33_Template.f k s l) (TT l s) := by
  have h := ref_T s l hx 1048576 (by omega) (fun i nm v h => Nat.le_trans (val_le h) hl) (by omega) s.size 0 [] (by omega) (by omega) (by
    rw [List.length_nil, Nat.sub_zero]
    have := Nat.mul_le_mul_right 1048576 hs
    omega)
  rw [List.drop_zero] at h
  exact h
theorem TT_len (l : List (List S37)) (s : ByteArray) (hs : s.size ≤ 120) (hl : (Ms.slice (Ms.slice ms37)).bulk l ≤ 1048576) : (TT l s).1.size ≤ 140737488355328 := by
  have h := T_len l 1048576 (by omega) (fun i nm v h => Nat.le_trans (val_le h) hl) _ s.data.toList [] (Nat.le_refl _)
  rw [← size_list, List.length_nil] at h
  have := Nat.mul_le_mul_right 1048576 hs
  unfold TT
  rw [ba_size]
  omega
end Go.Proofs.Ytfbfopfhfeijdaa.Pr
