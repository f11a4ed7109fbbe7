-- Written by a program of this session (ownprint.py, over the kit's printer). Not trusted: Lean checks it.
import Derived.Test.YtfbfopfhfeijdaaRows
import Derived.Test.YtfbfopfhfeijdaaKinds
import Derived.Test.YtfbfopfhfeijdaaPureConcreteFind
import Derived.WalkKit
import Derived.ProofKit
import Derived.OpenShut
import Derived.ShutString
import Derived.ChangeOld
import Derived.Below
import Derived.JoinedCond
import Derived.SizedLaws
namespace Go.Proofs.Ytfbfopfhfeijdaa.concreteFindUpto
open Go.ChangeShapes Go.WideShapes Go.ChangeAt Go.RowKit Go.Proofs.Ytfbfopfhfeijdaa.Pr Go.Proofs.Ytfbfopfhfeijdaa.Opn
open Go.ChangeMaps (open_string shut_string)
set_option linter.unusedVariables false
theorem own : ownKnob Try.prog.godebug = none := by kernel_rfl
theorem laidOut : laidOutB Try.prog = true := by kernel_rfl
set_option maxRecDepth 100000 in
set_option maxHeartbeats 2000000 in
theorem lifted (os : Os) (started : os.Started) (H : Type) (enc : TypeId × Value → H) (F : Stop.Interp) :
    ReturnsInHanded {} Try.checked os 10 .any ((Rows.OpenSpec.upto Rows.concreteFindSpec).pre6 enc Try.prog Try.f10 Rows.concreteFindUptoRow.domain false) (((Rows.OpenSpec.upto Rows.concreteFindSpec).at F).post enc Try.prog Try.f10 false true false false) := by
  refine returnsInHanded_of_cond (C := Try.checked) (s := Rows.OpenSpec.upto Rows.concreteFindSpec) (k := Rows.uptoSmall) rfl own started (by kernel_rfl) Try.func10
    (OpenSpec.witness (enc := enc) (C := Try.checked) (s := Rows.OpenSpec.upto Rows.concreteFindSpec) (k := Rows.uptoSmall) rfl false ⟨#[], #[.agg #[.string ByteArray.empty, .bool false, .slice none 0 0, .slice none 0 0, .slice none 0 0, .slice none 0 0, .slice none 0 0, .int .i64 0, .int .i64 0, .slice none 0 0, .int .i64 0, .slice none 0 0, .slice none 0 0, .bool false, .string ByteArray.empty, .int .i64 0, .string ByteArray.empty, .bool false, .int .i64 0, .int .i64 0, .slice none 0 0, .slice none 0 0, .slice none 0 0, .slice none 0 0, .slice none 0 0, .bool false, .slice none 0 0, .slice none 0 0, .slice none 0 0, .string ByteArray.empty], .string ByteArray.empty], []⟩ 8 (by kernel_rfl) (by kernel_rfl) (by kernel_rfl)
      (x := ([.agg [.lit (.string []), .lit (.bool false), .agg [.nil, .nil, .nil, .nil], .agg [.nil, .lit (.int .i64 0), .lit (.int .i64 0)], .nil, .agg [.lit (.int .i64 0), .nil, .nil, .lit (.bool false), .lit (.string []), .lit (.int .i64 0), .lit (.string []), .lit (.bool false)], .agg [.lit (.int .i64 0), .lit (.int .i64 0), .nil, .nil, .nil, .nil, .nil, .lit (.bool false)], .nil, .nil, .nil, .lit (.string [])], .lit (.string [])], [], [])) (by kernel_rfl) rfl (by kernel_rfl)) ?_
  intro W base args ds gs before hval0 hW hcnd hk _
  have hval : ∀ (j : Nat) t v, Try.f10.params[j]? = some t → args[j]? = some v → Value.okWide Try.prog W .any base t v := hval0
  have hW' := hW
  obtain ⟨p, q, hA0, hV, rfl, hfz, hnd⟩ := hW
  have hA : DataW.TrodAll enc Try.prog W 0 (fun _ => true) true Try.f10.params.toList args.toList ds p := hA0
  rw [Try.params10] at hA hval
  obtain ⟨v0, vs0, d0, ds0, p0, q0, hargs, rfl, rfl, h0, r0⟩ := trodAll_cons hA
  obtain ⟨v1, vs1, d1, ds1, p1, q1, rfl, rfl, rfl, h1, r1⟩ := trodAll_cons r0
  obtain ⟨rfl, rfl, rfl⟩ := trodAll_nil r1
  obtain rfl : args = #[v0, v1] := by cases args; simp_all
  obtain ⟨rfl, rfl⟩ := trodVars_none hV
  have hbb := bound hk
  have k0 := h0
  have lt0 : ∀ x ∈ p0, x.block < W.heap.size := by obtain ⟨m, hm⟩ := k0; exact DataW.trod_lt m _ _ _ hm
  obtain ⟨fuel0, hf0⟩ := h0
  obtain ⟨⟨a0_0, a0_1, ⟨l0_2, l0_3, l0_4, l0_5⟩, ⟨l0_6, a0_7, a0_8⟩, l0_9, ⟨a0_10, l0_11, l0_12, a0_13, a0_14, a0_15, a0_16, a0_17⟩, ⟨a0_18, a0_19, l0_20, l0_21, l0_22, l0_23, l0_24, a0_25⟩, l0_26, l0_27, l0_28, a0_29⟩, hK0, hg0, hb0⟩ := opens60t.go hf0
  obtain ⟨cs0, rfl⟩ := agg_of Try.underlying60 (hval 0 60 v0 rfl rfl)
  obtain ⟨z77, y77, hcs0, rfl, ⟨z78, y78, rfl, rfl, ⟨z79, y79, rfl, ⟨z80, y80, rfl, ⟨A0_2, c0_2, rfl, m0_2, g0_2⟩, ⟨z81, y81, rfl, ⟨A0_3, c0_3, rfl, m0_3, g0_3⟩, ⟨z82, y82, rfl, ⟨A0_4, c0_4, rfl, m0_4, g0_4⟩, ⟨A0_5, c0_5, rfl, m0_5, g0_5⟩⟩⟩⟩, ⟨z83, y83, rfl, ⟨z84, y84, rfl, ⟨A0_6, c0_6, rfl, m0_6, g0_6⟩, ⟨z85, y85, rfl, rfl, rfl⟩⟩, ⟨z86, y86, rfl, ⟨A0_9, c0_9, rfl, m0_9, g0_9⟩, ⟨z87, y87, rfl, ⟨z88, y88, rfl, rfl, ⟨z89, y89, rfl, ⟨A0_11, c0_11, rfl, m0_11, g0_11⟩, ⟨z90, y90, rfl, ⟨A0_12, c0_12, rfl, m0_12, g0_12⟩, ⟨z91, y91, rfl, rfl, ⟨z92, y92, rfl, rfl, ⟨z93, y93, rfl, rfl, ⟨z94, y94, rfl, rfl, rfl⟩⟩⟩⟩⟩⟩⟩, ⟨z95, y95, rfl, ⟨z96, y96, rfl, rfl, ⟨z97, y97, rfl, rfl, ⟨z98, y98, rfl, ⟨A0_20, c0_20, rfl, m0_20, g0_20⟩, ⟨z99, y99, rfl, ⟨A0_21, c0_21, rfl, m0_21, g0_21⟩, ⟨z100, y100, rfl, ⟨A0_22, c0_22, rfl, m0_22, g0_22⟩, ⟨z101, y101, rfl, ⟨A0_23, c0_23, rfl, m0_23, g0_23⟩, ⟨z102, y102, rfl, ⟨A0_24, c0_24, rfl, m0_24, g0_24⟩, rfl⟩⟩⟩⟩⟩⟩⟩, ⟨z103, y103, rfl, ⟨A0_26, c0_26, rfl, m0_26, g0_26⟩, ⟨z104, y104, rfl, ⟨A0_27, c0_27, rfl, m0_27, g0_27⟩, ⟨z105, y105, rfl, ⟨A0_28, c0_28, rfl, m0_28, g0_28⟩, rfl⟩⟩⟩⟩⟩⟩⟩⟩⟩⟩ := hK0
  obtain rfl : cs0 = #[.string a0_0, .bool a0_1, .slice A0_2 l0_2.length c0_2, .slice A0_3 l0_3.length c0_3, .slice A0_4 l0_4.length c0_4, .slice A0_5 l0_5.length c0_5, .slice A0_6 l0_6.length c0_6, .int .i64 a0_7, .int .i64 a0_8, .slice A0_9 l0_9.length c0_9, .int .i64 a0_10, .slice A0_11 l0_11.length c0_11, .slice A0_12 l0_12.length c0_12, .bool a0_13, .string a0_14, .int .i64 a0_15, .string a0_16, .bool a0_17, .int .i64 a0_18, .int .i64 a0_19, .slice A0_20 l0_20.length c0_20, .slice A0_21 l0_21.length c0_21, .slice A0_22 l0_22.length c0_22, .slice A0_23 l0_23.length c0_23, .slice A0_24 l0_24.length c0_24, .bool a0_25, .slice A0_26 l0_26.length c0_26, .slice A0_27 l0_27.length c0_27, .slice A0_28 l0_28.length c0_28, .string a0_29] := by cases cs0; simpa [Value.cells] using hcs0
  have k1 := h1
  have lt1 : ∀ x ∈ p1, x.block < W.heap.size := by obtain ⟨m, hm⟩ := k1; exact DataW.trod_lt m _ _ _ hm
  obtain ⟨fuel1, hf1⟩ := h1
  obtain ⟨a1, hK1, hg1, hb1⟩ := opens9.go hf1
  obtain ⟨a1', rfl, _, _, _⟩ := open_string Try.underlying9 (hval 1 9 v1 rfl rfl) k1
  obtain rfl : a1 = a1' := Eq.symm (by have : (Value.string a1').cells.toList = [Value.string a1] := hK1; simpa [Value.cells] using this)
  have hq0 : (Ms.pair Ms.string (Ms.pair Ms.bool (Ms.pair (Ms.pair (Ms.slice ms173) (Ms.pair (Ms.slice ms176) (Ms.pair (Ms.slice ms179) (Ms.slice ms181)))) (Ms.pair (Ms.pair (Ms.slice (Ms.slice (Ms.int .u32))) (Ms.pair (Ms.int .i64) (Ms.int .i64))) (Ms.pair (Ms.slice ms176) (Ms.pair (Ms.pair (Ms.int .i64) (Ms.pair (Ms.slice Ms.string) (Ms.pair (Ms.slice Ms.string) (Ms.pair Ms.bool (Ms.pair Ms.string (Ms.pair (Ms.int .i64) (Ms.pair Ms.string Ms.bool))))))) (Ms.pair (Ms.pair (Ms.int .i64) (Ms.pair (Ms.int .i64) (Ms.pair (Ms.slice ms184) (Ms.pair (Ms.slice ms184) (Ms.pair (Ms.slice Ms.string) (Ms.pair (Ms.slice Ms.string) (Ms.pair (Ms.slice Ms.string) Ms.bool))))))) (Ms.pair (Ms.slice ms186) (Ms.pair (Ms.slice ms68) (Ms.pair (Ms.slice ms33) Ms.string)))))))))).bulk (a0_0, a0_1, (l0_2, l0_3, l0_4, l0_5), (l0_6, a0_7, a0_8), l0_9, (a0_10, l0_11, l0_12, a0_13, a0_14, a0_15, a0_16, a0_17), (a0_18, a0_19, l0_20, l0_21, l0_22, l0_23, l0_24, a0_25), l0_26, l0_27, l0_28, a0_29) ≤ Rows.uptoBulk d0 := hb0
  have hq1 : Ms.string.bulk a1 ≤ Rows.uptoBulk d1 := hb1
  have hbulk : (Ms.pair Ms.string (Ms.pair Ms.bool (Ms.pair (Ms.pair (Ms.slice ms173) (Ms.pair (Ms.slice ms176) (Ms.pair (Ms.slice ms179) (Ms.slice ms181)))) (Ms.pair (Ms.pair (Ms.slice (Ms.slice (Ms.int .u32))) (Ms.pair (Ms.int .i64) (Ms.int .i64))) (Ms.pair (Ms.slice ms176) (Ms.pair (Ms.pair (Ms.int .i64) (Ms.pair (Ms.slice Ms.string) (Ms.pair (Ms.slice Ms.string) (Ms.pair Ms.bool (Ms.pair Ms.string (Ms.pair (Ms.int .i64) (Ms.pair Ms.string Ms.bool))))))) (Ms.pair (Ms.pair (Ms.int .i64) (Ms.pair (Ms.int .i64) (Ms.pair (Ms.slice ms184) (Ms.pair (Ms.slice ms184) (Ms.pair (Ms.slice Ms.string) (Ms.pair (Ms.slice Ms.string) (Ms.pair (Ms.slice Ms.string) Ms.bool))))))) (Ms.pair (Ms.slice ms186) (Ms.pair (Ms.slice ms68) (Ms.pair (Ms.slice ms33) Ms.string)))))))))).bulk (a0_0, a0_1, (l0_2, l0_3, l0_4, l0_5), (l0_6, a0_7, a0_8), l0_9, (a0_10, l0_11, l0_12, a0_13, a0_14, a0_15, a0_16, a0_17), (a0_18, a0_19, l0_20, l0_21, l0_22, l0_23, l0_24, a0_25), l0_26, l0_27, l0_28, a0_29) + Ms.string.bulk a1 ≤ 1048576 := by simp only [List.append_nil, Rows.uptoBulkAll] at hbb; omega
  obtain ⟨kk, hh⟩ := PuConcreteFind.ProvedUpto a0_0 a0_1 l0_2 l0_3 l0_4 l0_5 l0_6 a0_7 a0_8 l0_9 a0_10 l0_11 l0_12 a0_13 a0_14 a0_15 a0_16 a0_17 a0_18 a0_19 l0_20 l0_21 l0_22 l0_23 l0_24 a0_25 l0_26 l0_27 l0_28 a0_29 a1 hg0 hg1 hbulk
  refine (pentaglotlaw33_ConcreteFind.calls kk a0_0 a0_1 A0_2 c0_2 l0_2 A0_3 c0_3 l0_3 A0_4 c0_4 l0_4 A0_5 c0_5 l0_5 A0_6 c0_6 l0_6 a0_7 a0_8 A0_9 c0_9 l0_9 a0_10 A0_11 c0_11 l0_11 A0_12 c0_12 l0_12 a0_13 a0_14 a0_15 a0_16 a0_17 a0_18 a0_19 A0_20 c0_20 l0_20 A0_21 c0_21 l0_21 A0_22 c0_22 l0_22 A0_23 c0_23 l0_23 A0_24 c0_24 l0_24 a0_25 A0_26 c0_26 l0_26 A0_27 c0_27 l0_27 A0_28 c0_28 l0_28 a0_29 a1 true W g0_2 m0_2 g0_3 m0_3 g0_4 m0_4 g0_5 m0_5 g0_6 m0_6 g0_9 m0_9 g0_11 m0_11 g0_12 m0_12 g0_20 m0_20 g0_21 m0_21 g0_22 m0_22 g0_23 m0_23 g0_24 m0_24 g0_26 m0_26 g0_27 m0_27 g0_28 m0_28 hh).mono fun e W' ⟨he, hd⟩ => ?_
  have bel : Below W.heap.size W W' := hd
  subst he
  exact ⟨_, rfl, _, _, _, [], _, [], hW', trodAll_mk1 (shut_bool Try.underlying4 _), (trodAll_cons_mk (Below.trod laidOut (by kernel_rfl) (of_decide_eq_true (by kernel_rfl)) k0 bel lt0) (trodAll_cons_mk (Below.trod laidOut (by kernel_rfl) (of_decide_eq_true (by kernel_rfl)) k1 bel lt1) trodAll_mk0)), rfl, bel.frame _, fun h => by cases h⟩
theorem over : Rows.concreteFindUptoRow.holds Try.pinned (Rows.OpenSpec.upto Rows.concreteFindSpec) :=
  OpenClaim.holds_of_cond 10 Try.f10 rfl rfl rfl rfl rfl rfl rfl ⟨rfl, rfl, rfl, rfl, rfl⟩ rfl rfl rfl rfl rfl (by kernel_rfl) Try.func10 (by kernel_rfl)
    (of_decide_eq_true (by kernel_rfl)) (by unfold Func.isWrapper; first | (rw [if_pos (by decide +kernel)]; kernel_rfl) | (rw [if_neg (by decide +kernel)]; exact ⟨rfl, rfl⟩))
    (fun os started H enc _ F => lifted os started H enc F)
theorem proved : Rows.ConcreteFindUptoSaid := over
#print axioms proved
end Go.Proofs.Ytfbfopfhfeijdaa.concreteFindUpto
