/- Small laws of this session's own: a call through a function value, in a region that draws its order. -/
import Derived.Test.YtfbfopfhfeijdaaPr0
import Derived.Test.YtfbfopfhfeijdaaProg
import Derived.Lib.FrozenHead
namespace Go.Proofs.Ytfbfopfhfeijdaa.Pr
open Go.RowKit Go.Proofs.YtfbfopfhfeijdaaW.PrintWords Go.Proofs.YtfbfopfhfeijdaaW.PrintLast
set_option linter.unusedVariables false
/-- A cell of an elder world, in a later one. -/
theorem cap_ {w W : World} {a : Addr} {v : Value} (h : w.cell? a = some v) (hb : Below w.heap.size w W) : W.cell? a = some v := (hb.cell (World.block_lt_of_cell? w a h)).trans h
/-- A builder of the call's own, behind a call that makes memory alone. -/
theorem builder_below {T e : TypeId} {B b : Nat} {p : Value} {bs : List Value} {w W : World} (h : Lib.BuilderAtF T e B b p bs w) (hb : Below w.heap.size w W) : Lib.BuilderAtF T e B b p bs W := by
  have hlt := h.lt
  obtain ⟨hB, v, hh, hown, hne⟩ := h
  exact ⟨hB, v, (hb.block b hlt).trans hh, hown.kept (grown_of_below hb none) (by cases hv : v.ownBlock <;> simp), hne⟩
theorem isB_below {T e : TypeId} {B b : Nat} {bs : List Value} {w W : World} (h : Lib.IsBuilderF T e B b bs w) (HBw_ : Below w.heap.size w W) : Lib.IsBuilderF T e B b bs W :=
  h.elim (fun x => .inl (builder_below x HBw_)) (fun x => .inr (builder_below x HBw_))
section
variable {P : Program} {ops : Array Oper} {Q : Exit → Act → World → Prop}
theorem goesV_ {oi : Oper} {N : Option Tmp} {a : Act} {w : World} {K : Act → World → Prop} {f : FuncId} {fn : Func} {ao : Array Operand} {ts : Array TypeId} (hf : P.funcs[f]? = some fn) (hname : (fn.name == "runtime.NumGoroutine") = false) (hb : fn.body.isSome = true) (args : Array Value)
    (hw : Region.wanted oi (yielded ops a.tmps) = true) (hN : oi.dst = N) {o : Operand} {first caps : Array Value} (hop : oi.op = .call { callee := .value o, args := ao, argTypes := ts }) (ho : a.eval o = .func (.func f) first caps) (hargs : first ++ ao.map a.eval ++ caps = args)
    (h : Calls P f args w fun e w' => ∃ v, e = .returned v ∧ K (a.put N v) w') : if Region.wanted oi (yielded ops a.tmps) = true then Oper.wp P oi a w K Q else K (a.put N undef) w := by
  refine call_ f args hw hN ?_ h
  have he := enters_ hf hname hb args w
  unfold execOp
  simp [hop, resolve, Deferred.ofValue, invoke, ho, hargs, he]
end
end Go.Proofs.Ytfbfopfhfeijdaa.Pr
