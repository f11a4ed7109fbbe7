-- Written by a program of this session (ownprint.py, over the kit's printer). Not trusted: Lean checks it.
import Derived.Test.YtfbfopfhfeijdaaRows
import Derived.Test.YtfbfopfhfeijdaaKinds
import Derived.Test.YtfbfopfhfeijdaaPureConcreteResult
import Derived.WalkKit
import Derived.ProofKit
import Derived.OpenShut
import Derived.ShutString
import Derived.ChangeOld
import Derived.Below
import Derived.JoinedCond
import Derived.SizedLaws
namespace Go.Proofs.Ytfbfopfhfeijdaa.concreteResultUpto
open Go.ChangeShapes Go.WideShapes Go.ChangeAt Go.RowKit Go.Proofs.Ytfbfopfhfeijdaa.Pr Go.Proofs.Ytfbfopfhfeijdaa.Opn
open Go.ChangeMaps (open_string shut_string)
set_option linter.unusedVariables false
theorem own : ownKnob Try.prog.godebug = none := by kernel_rfl
theorem laidOut : laidOutB Try.prog = true := by kernel_rfl
set_option maxRecDepth 100000 in
set_option maxHeartbeats 2000000 in
theorem lifted (os : Os) (started : os.Started) (H : Type) (enc : TypeId × Value → H) (F : Stop.Interp) :
    ReturnsInHanded {} Try.checked os 8 .any ((Rows.OpenSpec.upto Rows.concreteResultSpec).pre6 enc Try.prog Try.f8 Rows.concreteResultUptoRow.domain false) (((Rows.OpenSpec.upto Rows.concreteResultSpec).at F).post enc Try.prog Try.f8 false true false false) := by
  refine returnsInHanded_of_cond (C := Try.checked) (s := Rows.OpenSpec.upto Rows.concreteResultSpec) (k := Rows.uptoSmall) rfl own started (by kernel_rfl) Try.func8
    (OpenSpec.witness (enc := enc) (C := Try.checked) (s := Rows.OpenSpec.upto Rows.concreteResultSpec) (k := Rows.uptoSmall) rfl false ⟨#[], #[.agg #[.string ByteArray.empty, .slice none 0 0, .slice none 0 0, .slice none 0 0], .slice none 0 0], []⟩ 8 (by kernel_rfl) (by kernel_rfl) (by kernel_rfl)
      (x := ([.agg [.lit (.string []), .nil, .nil, .nil], .nil], [], [])) (by kernel_rfl) rfl (by kernel_rfl)) ?_
  intro W base args ds gs before hval0 hW hcnd hk _
  have hval : ∀ (j : Nat) t v, Try.f8.params[j]? = some t → args[j]? = some v → Value.okWide Try.prog W .any base t v := hval0
  have hW' := hW
  obtain ⟨p, q, hA0, hV, rfl, hfz, hnd⟩ := hW
  have hA : DataW.TrodAll enc Try.prog W 0 (fun _ => true) true Try.f8.params.toList args.toList ds p := hA0
  rw [Try.params8] at hA hval
  obtain ⟨v0, vs0, d0, ds0, p0, q0, hargs, rfl, rfl, h0, r0⟩ := trodAll_cons hA
  obtain ⟨v1, vs1, d1, ds1, p1, q1, rfl, rfl, rfl, h1, r1⟩ := trodAll_cons r0
  obtain ⟨rfl, rfl, rfl⟩ := trodAll_nil r1
  obtain rfl : args = #[v0, v1] := by cases args; simp_all
  obtain ⟨rfl, rfl⟩ := trodVars_none hV
  have hbb := bound hk
  have k0 := h0
  have lt0 : ∀ x ∈ p0, x.block < W.heap.size := by obtain ⟨m, hm⟩ := k0; exact DataW.trod_lt m _ _ _ hm
  obtain ⟨fuel0, hf0⟩ := h0
  obtain ⟨⟨a0_0, l0_1, l0_2, l0_3⟩, hK0, hg0, hb0⟩ := opens33t.go hf0
  obtain ⟨cs0, rfl⟩ := agg_of Try.underlying33 (hval 0 33 v0 rfl rfl)
  obtain ⟨z7, y7, hcs0, rfl, ⟨z8, y8, rfl, ⟨A0_1, c0_1, rfl, m0_1, g0_1⟩, ⟨z9, y9, rfl, ⟨A0_2, c0_2, rfl, m0_2, g0_2⟩, ⟨A0_3, c0_3, rfl, m0_3, g0_3⟩⟩⟩⟩ := hK0
  obtain rfl : cs0 = #[.string a0_0, .slice A0_1 l0_1.length c0_1, .slice A0_2 l0_2.length c0_2, .slice A0_3 l0_3.length c0_3] := by cases cs0; simpa [Value.cells] using hcs0
  have k1 := h1
  have lt1 : ∀ x ∈ p1, x.block < W.heap.size := by obtain ⟨m, hm⟩ := k1; exact DataW.trod_lt m _ _ _ hm
  obtain ⟨fuel1, hf1⟩ := h1
  obtain ⟨l1, hK1, hg1, hb1⟩ := opens22.go hf1
  obtain ⟨A1, len1, c1, rfl⟩ := okWide_slice Try.underlying22 (hval 1 22 v1 rfl rfl)
  obtain ⟨A1', c1', hcs1, m1, g1⟩ := hK1
  obtain ⟨rfl, rfl, rfl⟩ : A1 = A1' ∧ len1 = l1.length ∧ c1 = c1' := by simpa [Value.cells] using hcs1
  have hq0 : (Ms.pair Ms.string (Ms.pair (Ms.slice (Ms.slice ms37)) (Ms.pair (Ms.slice ms37) (Ms.slice ms88)))).bulk (a0_0, l0_1, l0_2, l0_3) ≤ Rows.uptoBulk d0 := hb0
  have hq1 : (Ms.slice (Ms.slice ms37)).bulk l1 ≤ Rows.uptoBulk d1 := hb1
  have hbulk : (Ms.pair Ms.string (Ms.pair (Ms.slice (Ms.slice ms37)) (Ms.pair (Ms.slice ms37) (Ms.slice ms88)))).bulk (a0_0, l0_1, l0_2, l0_3) + (Ms.slice (Ms.slice ms37)).bulk l1 ≤ 1048576 := by simp only [List.append_nil, Rows.uptoBulkAll] at hbb; omega
  obtain ⟨kk, hh⟩ := PuConcreteResult.ProvedUpto a0_0 l0_1 l0_2 l0_3 l1 hg0 hg1 hbulk
  refine (pentaglotlaw33_ConcreteResult.calls kk a0_0 A0_1 c0_1 l0_1 A0_2 c0_2 l0_2 A0_3 c0_3 l0_3 A1 c1 l1 true W g0_1 m0_1 g0_2 m0_2 g0_3 m0_3 g1 m1 hh).mono fun e W' ⟨he, hd⟩ => ?_
  have bel : Below W.heap.size W W' := hd
  subst he
  exact ⟨_, rfl, _, _, _, [], _, [], hW', trodAll_mk1 (shut_bool Try.underlying4 _), (trodAll_cons_mk (Below.trod laidOut (by kernel_rfl) (of_decide_eq_true (by kernel_rfl)) k0 bel lt0) (trodAll_cons_mk (Below.trod laidOut (by kernel_rfl) (of_decide_eq_true (by kernel_rfl)) k1 bel lt1) trodAll_mk0)), rfl, bel.frame _, fun h => by cases h⟩
theorem over : Rows.concreteResultUptoRow.holds Try.pinned (Rows.OpenSpec.upto Rows.concreteResultSpec) :=
  OpenClaim.holds_of_cond 8 Try.f8 rfl rfl rfl rfl rfl rfl rfl ⟨rfl, rfl, rfl, rfl, rfl⟩ rfl rfl rfl rfl rfl (by kernel_rfl) Try.func8 (by kernel_rfl)
    (of_decide_eq_true (by kernel_rfl)) (by unfold Func.isWrapper; first | (rw [if_pos (by decide +kernel)]; kernel_rfl) | (rw [if_neg (by decide +kernel)]; exact ⟨rfl, rfl⟩))
    (fun os started H enc _ F => lifted os started H enc F)
theorem proved : Rows.ConcreteResultUptoSaid := over
#print axioms proved
end Go.Proofs.Ytfbfopfhfeijdaa.concreteResultUpto
