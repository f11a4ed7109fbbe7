/- Several texts in one: ClipF, CloneF. -/
import Derived.Test.YtfbfopfhfeijdaaPr0
import Derived.WalkKit
import Derived.Lib.Walk
import Derived.Lib.SliceRun
/- slices.Clip at features: the same row, its capacity its length. -/
/- slices.Clone at features: a new row of the same elements. -/
namespace Go.Proofs.Ytfbfopfhfeijdaa.Pr
open Go.RowKit Go.Proofs.YtfbfopfhfeijdaaW.PrintWords Go.Proofs.YtfbfopfhfeijdaaW.PrintLast Go.Proofs.YtfbfopfhfeijdaaW.PrintMore
set_option linter.unusedVariables false
def api_Feature_54.f (l0 : List S37) : Option (List S37) := some l0
set_option maxHeartbeats 1000000 in
set_option maxRecDepth 100000 in
theorem api_Feature_54.calls (P0_ : Nat → Prop) (A0 : Option Addr) (c0 : Nat) (l0 r : List S37) (w : World) (hs0 : Kd.V k37 37 w w.heap.size P0_ (.slice A0 l0.length c0) l0) (h : api_Feature_54.f l0 = some r) :
    Calls Try.prog 54 #[.slice A0 l0.length c0] w fun e w' => ∃ v0_ : Value, e = .returned v0_ ∧ Kd.V k37 37 w' w.heap.size (fun k_ => P0_ k_ ∨ w.heap.size ≤ k_) v0_ r ∧ Below w.heap.size w w' := by
  obtain rfl : l0 = r := by simpa [api_Feature_54.f] using h
  have HL := eq_true (Kd.V_reads' hs0).2.1
  have HV := Aside0.mk (Kd.V_mk (d := k37) (e := 37) (base := w.heap.size) (Nat.le_refl l0.length) (Kd.F_mono (Kd.V_F hs0) (fun k hk => Or.inl hk : ∀ k, P0_ k → P0_ k ∨ w.heap.size ≤ k)))
  clear hs0 h
  go_enter Try.func54, Try.ntmps54
  go_wp2
  go_ret
  exact ⟨_, rfl, HV.out, Below.refl _ _⟩
end Go.Proofs.Ytfbfopfhfeijdaa.Pr

namespace Go.Proofs.Ytfbfopfhfeijdaa.Pr
open Go.RowKit Go.Proofs.YtfbfopfhfeijdaaW.PrintWords Go.Proofs.YtfbfopfhfeijdaaW.PrintLast Go.Proofs.YtfbfopfhfeijdaaW.PrintMore
set_option linter.unusedVariables false
def api_Feature_55.f (l0 : List S37) : Option (List S37) := if l0.length * 32 ≤ 140737488355328 then some l0 else none
set_option maxHeartbeats 1000000 in
set_option maxRecDepth 100000 in
theorem api_Feature_55.calls (A0 : Option Addr) (c0 : Nat) (l0 r : List S37) (w : World) (hr0 : Kd.C k37 w A0 l0.length l0) (hc0 : l0.length ≤ c0) (h : api_Feature_55.f l0 = some r) :
    Calls Try.prog 55 #[.slice A0 l0.length c0] w fun e w' => ∃ v0_ : Value, e = .returned v0_ ∧ Kd.R k37 37 w' w.heap.size (fun _ => True) v0_ r ∧ Below w.heap.size w w' := by
  unfold api_Feature_55.f at h
  by_cases hl : l0.length * 32 ≤ 140737488355328
  · rw [if_pos hl] at h
    obtain rfl := Option.some.inj h
    cases A0 with
    | none =>
      have hn : l0 = [] := by
        cases l0 with
        | nil => rfl
        | cons x xs => obtain ⟨ad, he, _⟩ := hr0.2.2 (by simp); cases he
      subst hn
      clear h hr0 hc0
      have q : ∀ (w : World) (a : Option Addr) (n c n' c' : Nat), (binOp .eql 30 (.slice a n c) (.slice none n' c')).run Try.prog w = .ok (.bool a.isNone) w := fun w a n c n' c' => Lib.run_eql_slice_nil w _ _ a n c n' c' Try.underlying30
      go_enter Try.func55, Try.ntmps55
      go_wp2
      go_ret
      exact ⟨_, rfl, Kd.R_nil _ _ _ _ _, Below.refl _ _⟩
    | some ad =>
      have HR := Aside0.mk hr0
      have HC := Aside0.mk hc0
      have HLn := Aside0.mk hl
      have HB := Aside0.mk ((Below.refl w.heap.size w).alloc (Nat.le_refl _) (.cells #[] 37))
      have HO : Kd.R k37 37 (w.alloc (.cells #[] 37)) w.heap.size (fun _ => True) (.slice (some ⟨w.heap.size, 0, none⟩) 0 0) [] := ⟨fun _ _ => trivial, [], World.ownsRow_made w #[] 0 (Nat.le_refl _) (Nat.zero_le _) (by simp), Reps.none _ _⟩
      have HO := Aside0.mk HO
      clear hr0 hc0 hl h
      have q : ∀ (w : World) (a : Option Addr) (n c n' c' : Nat), (binOp .eql 30 (.slice a n c) (.slice none n' c')).run Try.prog w = .ok (.bool a.isNone) w := fun w a n c n' c' => Lib.run_eql_slice_nil w _ _ a n c n' c' Try.underlying30
      go_enter Try.func55, Try.ntmps55
      go_wp2_with ((with_reducible refine gate_builtin (b := .append) (xs := #[.tmp 5, .tmp 6]) rfl ?_); at_builtin; refine Kd.R_append_rows k37 (w0 := w) w.heap.size rfl (.tmp 5) (.tmp 6) 30 37 (.agg #[(.string ⟨#[]⟩), (.string ⟨#[]⟩)]) 32 rfl Try.underlying30 info37 rfl (by decide) (by omega) (.slice (some ⟨w.heap.size, 0, none⟩) 0 0) [] l0 (some ad) l0.length c0 (fun _ => True) (fun _ => False) rfl rfl ?aO ?aR (fun _ _ h => h) (fun _ h => h.elim) ?aF ?aB ?aS ?aL ?_; (case aR => exact Kd.C_below HR.out HB.out); (case aF => exact fun _ _ => trivial); (case aB => exact HB.out); (case aO => exact HO.out); (case aS => exact HB.out.size); (case aL => have := HLn.out; simp only [List.length_nil]; omega); intro v1 w1 ho hb hg hat; have HO1 := Aside0.mk ho; have HB1 := Aside0.mk hb; clear ho hb hg hat)
      go_wp2
      go_ret
      exact ⟨_, rfl, HO1.out, HB1.out⟩
  · rw [if_neg hl] at h; cases h
end Go.Proofs.Ytfbfopfhfeijdaa.Pr
