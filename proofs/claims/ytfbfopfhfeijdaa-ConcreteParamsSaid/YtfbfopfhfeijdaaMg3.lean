/- Several texts in one: ParD, ParE, Lib. -/
import Derived.Test.YtfbfopfhfeijdaaMg2
import Derived.ArgAppend
import Derived.RangeFuncKeeps
import Derived.RangeFuncBound
import Derived.RangeFuncLeaves
import Derived.OwnWalkIn
import Derived.TacticsInMore
import Derived.Laws.AppendOwnNone
import Derived.Test.YtfbfopfhfeijdaaPr0
import Derived.Test.YtfbfopfhfeijdaaProg
import Derived.Lib.FrozenHead
/- feature.All's visit, where the record is whole: a copy, sorted, is yielded. -/
/- feature.All's visit at a dimension: all records, in order. -/
/- Small laws of this session's own: a call through a function value, in a region that draws its order. -/
namespace Go.Proofs.Ytfbfopfhfeijdaa.Pr
open Go.Shelf Go.RowKit Go.Lib
open Go.Proofs.YtfbfopfhfeijdaaW.PrintWords Go.Proofs.YtfbfopfhfeijdaaW.PrintLast Go.Proofs.YtfbfopfhfeijdaaW.PrintMore
attribute [local go_sem] Oper.semAt_some
set_option linter.unusedVariables false
set_option linter.unusedSimpArgs false
/-- What a round of the caller's keeps: what lay below n, and the iterator's own rows and boxes. -/
structure KpF (n : Nat) (W W' : World) : Prop where
  below : Below n W W'
  rows : ∀ (k : Nat) (vs : Array Value) (t : TypeId), W.heap[k]? = some (.cells vs t (0, 0)) → (t = 37 ∨ t = 118 ∨ t = 119) → W'.heap[k]? = some (.cells vs t (0, 0))
theorem KpF.trans {n : Nat} {A B C : World} (h : KpF n A B) (k : KpF n B C) : KpF n A C := ⟨h.below.trans k.below, fun x vs t hx ht => k.rows x vs t (h.rows x vs t hx ht) ht⟩
theorem KpF.of_below {n : Nat} {A B : World} (h : Below A.heap.size A B) (hn : n ≤ A.heap.size) : KpF n A B :=
  ⟨h.mono hn, fun k vs t hk _ => (h.block k (Array.getElem?_eq_some_iff.1 hk).1).trans hk⟩
theorem KpF.row {n b m : Nat} {A B : World} {v : Value} {xs : List Value} (h : KpF n A B) (ho : A.ownsRow b 37 2 v m xs) : B.ownsRow b 37 2 v m xs := by
  obtain ⟨hl, hnil | ⟨g, cap, cur, hv, hb, hg, rest⟩⟩ := ho
  · exact ⟨hl, .inl hnil⟩
  · exact ⟨hl, .inr ⟨g, cap, cur, hv, hb, h.rows g cur _ hg (.inl rfl), rest⟩⟩
/-- A list in the order of the names, made of the record's features. -/
def Sorts (pre r : List S37) : Prop := r.Perm pre ∧ ∀ i j, i < j → j < r.length → ltN r[j]! r[i]! = false
/-- append([]T{}, v...), v an owned row or nil: an owned row of its own. -/
theorem append_copy {P : Program} (w : World) {ops : Array Oper} {rest : List Oper} {o : Oper} {a : Act} {Q : Exit → Act → World → Prop}
    (hgd : o.guard = none) (s x : Operand) (t : TypeId) (ho : o.op = .call { callee := .builtin .append, args := #[s, x], argTypes := #[t, t] })
    (e : TypeId) (i : TypeInfo) (z : Value) (size bytes : Nat) (ht : P.underlying t = some (.slice e)) (hi : P.info? e = some i) (hz : i.zero = some z)
    (hsize : i.size = size) (hby : i.bytes = bytes) (hzs : z.cells.size = size) (hsz : 0 < size)
    (g : Nat) (hs : a.eval s = .slice (some ⟨g, 0, none⟩) 0 0) (hown : w.ownsRow g e size (.slice (some ⟨g, 0, none⟩) 0 0) 0 [])
    (v : Value) (b n : Nat) (xs : List Value) (hx : a.eval x = v) (hv : w.ownsRow b e size v n xs) (h1 : ∀ u ∈ xs, u.oneCell' = true)
    (hm : n ≤ maxLen) (hbytes : n * bytes ≤ 140737488355328) (hbase : g ≤ w.heap.size)
    (h : ∀ g' cap w', w'.ownsRow g e size (.slice (some ⟨g', 0, none⟩) n cap) n xs → w.grownBy w' (some g) → wpList P ops Q rest (a.put o.dst (.slice (some ⟨g', 0, none⟩) n cap)) w') : wpList P ops Q (o :: rest) a w := by
  have hv' := hv
  obtain ⟨hl, ⟨rfl, rfl⟩ | ⟨gv, cap, cur, rfl, hb, hg, hn, hc, hcs, htk⟩⟩ := hv
  · have hxs : xs = [] := List.eq_nil_of_length_eq_zero (by simpa using hl)
    subst hxs
    exact wpList_append_own_none hgd s x t ho g e i size ht hi _ 0 [] hs hown hx (h g 0 w hown ⟨rfl, rfl, rfl, Nat.le_refl _, fun _ _ _ => rfl⟩)
  · refine wpList_append_own w hgd s x t ho g e i z size bytes ht hi hz hsize hby hzs hsz _ 0 [] hs hown ⟨gv, 0, none⟩ n cap xs hx hl (hv'.cells rfl) h1 (by omega) (by simpa using hbytes) hbase ?_
    intro v' w' ho' hg' hiff
    rw [Nat.zero_add, List.nil_append] at ho'
    have ho'' := ho'
    obtain ⟨_, ⟨hnil, _⟩ | ⟨g', cap', cur', rfl, _⟩⟩ := ho'
    · exact absurd (hiff.1 hnil).1 (by simp)
    · exact h g' cap' w' ho'' hg'
theorem lt_of_cell {W : World} {a : Addr} {v : Value} (h : W.cell? a = some v) : a.block < W.heap.size := by
  unfold World.cell? at h
  cases h' : W.heap[a.block]? with
  | none => rw [h'] at h; cases h
  | some o => exact (Array.getElem?_eq_some_iff.1 h').1
set_option maxRecDepth 100000 in
set_option maxHeartbeats 400000 in
theorem visit_leaf (lp n₀ bD bY cD N : Nat) (A : Option Addr) (len : Nat) (PV : Value) (J : List Value → World → Prop)
    (hJ : ∀ xs W W', J xs W → Below W.heap.size W W' → J xs W')
    (hY : ∀ xs v W, J xs W → xs.length < N → (∃ A n c, v = .slice A n c) → YieldAt Fence.wide 2 Try.prog lp #[v] W fun e W' => e = .returned (.bool true) ∧ J (xs ++ [v]) W' ∧ KpF n₀ W W')
    (pre : List S37) (v : Value) (W : World) (xs : List Value) (hn : n₀ ≤ W.heap.size)
    (hD : W.cell? ⟨bD, 0, none⟩ = some (.slice A len cD)) (hYc : W.cell? ⟨bY, 0, none⟩ = some (.func (.yield lp) #[] #[]))
    (hv : W.ownsRow 0 37 2 v pre.length (flatF pre)) (hlen : pre.length = len) (hsm : pre.length ≤ 1000) (hx : J xs W) (hN : xs.length < N) :
    Calls Try.prog 63 #[.int .i64 (len : Int), v, .pointer (some ⟨bD, 0, none⟩), .pointer (some ⟨bY, 0, none⟩), PV] W fun e W' =>
      e = .returned (.bool true) ∧ ∃ (u : Value) (r : List S37), Sorts pre r ∧ W'.ownsRow W.heap.size 37 2 u r.length (flatF r) ∧ J (xs ++ [u]) W' ∧ KpF n₀ W W' := by
  subst hlen
  have hl := hv.1
  obtain ⟨i0, hi0, hz0, hz1, hz2⟩ := info_parts info37
  go_enter Try.func63, Try.ntmps63
  go_upto_region 3 with ((with_reducible refine gate_builtin (b := .append) (xs := #[.tmp 15, .tmp 16]) rfl ?_); at_builtin; refine append_copy _ rfl (.tmp 15) (.tmp 16) 30 rfl 37 _ (.agg #[(.string ⟨#[]⟩), (.string ⟨#[]⟩)]) 2 32 Try.underlying30 hi0 hz0 hz1 hz2 rfl (by decide) W.heap.size rfl ?aO v 0 pre.length (flatF pre) rfl ?aV (oneCellF pre) ?aM ?aB (by simp) ?_; (case aO => exact World.ownsRow_lit _ #[] 0 (Nat.le_refl _) (by decide) rfl); (case aV => exact hv.alloc _); (case aM => simp only [maxLen]; omega); (case aB => omega); intro g1 cap1 W1 ho1 hg1)
  have hgW : W.heap.size ≤ g1 ∧ g1 < W1.heap.size := ho1.lt g1 rfl
  have hB1 : Below W.heap.size W W1 := ((Below.refl _ W).alloc (Nat.le_refl _) _).grown hg1 (by simp) (fun k e => by cases e; exact Nat.le_refl _)
  have hs := sort_row g1 cap1 W.heap.size pre W1 (by omega) ho1
  go_upto_region 4 with (go_at_call 64; refine hs.mono ?_; clear hs; rintro e W2 ⟨rfl, r, hp, hso, ho2, hg2⟩)
  have hB2 : Below W.heap.size W W2 := hB1.grown hg2 (hB1.size) (fun k e => by cases e; exact hgW.1)
  have hYc2 : W2.cell? ⟨bY, 0, none⟩ = some (.func (.yield lp) #[] #[]) := (hB2.cell (p := ⟨bY, 0, none⟩) (lt_of_cell hYc)).trans hYc
  obtain ⟨fn, tmps, assign, body, hy, hR⟩ := hY xs (.slice (some ⟨g1, 0, none⟩) pre.length cap1) W2 (hJ _ _ _ hx hB2) hN ⟨_, _, _, rfl⟩
  refine (wpIn_wide (n := 3)).1 ?_
  gi_wp2_with (refine hR.mono ?_; rintro e W3 ⟨rfl, hJ3, hk3⟩)
  go_wp2
  go_ret
  refine ⟨rfl, _, r, ⟨hp, hso⟩, ?_, hJ3, (KpF.of_below hB2 hn).trans hk3⟩
  rw [hp.length_eq]
  exact hk3.row ho2
#print axioms visit_leaf
end Go.Proofs.Ytfbfopfhfeijdaa.Pr

namespace Go.Proofs.Ytfbfopfhfeijdaa.Pr
open Go.Shelf Go.RowKit Go.Lib
open Go.Proofs.YtfbfopfhfeijdaaW.PrintWords Go.Proofs.YtfbfopfhfeijdaaW.PrintLast Go.Proofs.YtfbfopfhfeijdaaW.PrintMore
set_option linter.unusedVariables false
set_option linter.unusedSimpArgs false
/-- The records that begin with some features, by the dimensions left. -/
def tup : List S90 → List S37 → List (List S37)
  | [], pre => [pre]
  | d :: ds, pre => d.f1.flatMap fun v => tup ds (pre ++ [⟨d.f0, v⟩])
/-- The values that have been yielded own, in W, the sorted records. -/
inductive Yielded (b : Nat) (W : World) : List Value → List (List S37) → Prop
  | nil : Yielded b W [] []
  | cons {u : Value} {p r : List S37} {us : List Value} {ps : List (List S37)} (hs : Sorts p r) (ho : W.ownsRow b 37 2 u r.length (flatF r)) (t : Yielded b W us ps) : Yielded b W (u :: us) (p :: ps)
theorem Yielded.append {b : Nat} {W : World} {us us' : List Value} {ps ps' : List (List S37)} (h : Yielded b W us ps) (h' : Yielded b W us' ps') : Yielded b W (us ++ us') (ps ++ ps') := by
  induction h with
  | nil => exact h'
  | cons hs ho _ ih => exact .cons hs ho ih
theorem Yielded.kept {b n : Nat} {W W' : World} {us : List Value} {ps : List (List S37)} (h : Yielded b W us ps) (k : KpF n W W') : Yielded b W' us ps := by
  induction h with
  | nil => exact .nil
  | cons hs ho _ ih => exact .cons hs (k.row ho) ih
theorem ownsRow_base {W : World} {b b' : Nat} {e : TypeId} {size n : Nat} {v : Value} {xs : List Value} (h : W.ownsRow b e size v n xs) (hb : b' ≤ b) : W.ownsRow b' e size v n xs := by
  obtain ⟨hl, hnil | ⟨g, cap, cur, hv, hg, rest⟩⟩ := h
  · exact ⟨hl, .inl hnil⟩
  · exact ⟨hl, .inr ⟨g, cap, cur, hv, Nat.le_trans hb hg, rest⟩⟩
theorem Yielded.one {b : Nat} {W : World} {u : Value} {p r : List S37} (hs : Sorts p r) (ho : W.ownsRow b 37 2 u r.length (flatF r)) : Yielded b W [u] [p] := .cons hs ho .nil
/-- What visit is told: the boxes that it has captured. -/
structure Held (lp n₀ bD bY bV cD : Nat) (A : Option Addr) (l : List S90) (w₀ W : World) : Prop where
  n0 : w₀.heap.size = n₀
  dims : w₀.cell? ⟨bD, 0, none⟩ = some (.slice A l.length cD)
  row : Kd.C k90 w₀ A l.length l
  cap : l.length ≤ cD
  below : Below n₀ w₀ W
  yld : W.heap[bY]? = some (.cells #[.func (.yield lp) #[] #[]] 118 (0, 0))
  vis : W.heap[bV]? = some (.cells #[.func (.func 63) #[] #[.pointer (some ⟨bD, 0, none⟩), .pointer (some ⟨bY, 0, none⟩), .pointer (some ⟨bV, 0, none⟩)]] 119 (0, 0))
theorem cell_box {W : World} {k : Nat} {v : Value} {t : TypeId} {f : Nat × Nat} (h : W.heap[k]? = some (.cells #[v] t f)) : W.cell? ⟨k, 0, none⟩ = some v := by simp [World.cell?, h]
section
variable {lp n₀ bD bY bV cD : Nat} {A : Option Addr} {l : List S90} {w₀ W W' : World}
theorem Held.kept (h : Held lp n₀ bD bY bV cD A l w₀ W) (k : KpF n₀ W W') : Held lp n₀ bD bY bV cD A l w₀ W' :=
  ⟨h.n0, h.dims, h.row, h.cap, h.below.trans k.below, k.rows _ _ _ h.yld (.inr (.inl rfl)), k.rows _ _ _ h.vis (.inr (.inr rfl))⟩
theorem Held.atD (h : Held lp n₀ bD bY bV cD A l w₀ W) : W.cell? ⟨bD, 0, none⟩ = some (.slice A l.length cD) :=
  (h.below.cell (p := ⟨bD, 0, none⟩) (by have := lt_of_cell h.dims; have := h.n0; simp at *; omega)).trans h.dims
theorem Held.atY (h : Held lp n₀ bD bY bV cD A l w₀ W) : W.cell? ⟨bY, 0, none⟩ = some (.func (.yield lp) #[] #[]) := cell_box h.yld
theorem Held.atV (h : Held lp n₀ bD bY bV cD A l w₀ W) : W.cell? ⟨bV, 0, none⟩ = some (.func (.func 63) #[] #[.pointer (some ⟨bD, 0, none⟩), .pointer (some ⟨bY, 0, none⟩), .pointer (some ⟨bV, 0, none⟩)]) := cell_box h.vis
theorem Held.size (h : Held lp n₀ bD bY bV cD A l w₀ W) : n₀ ≤ W.heap.size := h.n0 ▸ h.below.size
end
end Go.Proofs.Ytfbfopfhfeijdaa.Pr

namespace Go.Proofs.Ytfbfopfhfeijdaa.Pr
open Go.RowKit Go.Proofs.YtfbfopfhfeijdaaW.PrintWords Go.Proofs.YtfbfopfhfeijdaaW.PrintLast
set_option linter.unusedVariables false
/-- A cell of an elder world, in a later one. -/
theorem cap_ {w W : World} {a : Addr} {v : Value} (h : w.cell? a = some v) (hb : Below w.heap.size w W) : W.cell? a = some v := (hb.cell (World.block_lt_of_cell? w a h)).trans h
/-- A builder of the call's own, behind a call that makes memory alone. -/
theorem builder_below {T e : TypeId} {B b : Nat} {p : Value} {bs : List Value} {w W : World} (h : Lib.BuilderAtF T e B b p bs w) (hb : Below w.heap.size w W) : Lib.BuilderAtF T e B b p bs W := by
  have hlt := h.lt
  obtain ⟨hB, v, hh, hown, hne⟩ := h
  exact ⟨hB, v, (hb.block b hlt).trans hh, hown.kept (grown_of_below hb none) (by cases hv : v.ownBlock <;> simp), hne⟩
theorem isB_below {T e : TypeId} {B b : Nat} {bs : List Value} {w W : World} (h : Lib.IsBuilderF T e B b bs w) (HBw_ : Below w.heap.size w W) : Lib.IsBuilderF T e B b bs W :=
  h.elim (fun x => .inl (builder_below x HBw_)) (fun x => .inr (builder_below x HBw_))
section
variable {P : Program} {ops : Array Oper} {Q : Exit → Act → World → Prop}
theorem goesV_ {oi : Oper} {N : Option Tmp} {a : Act} {w : World} {K : Act → World → Prop} {f : FuncId} {fn : Func} {ao : Array Operand} {ts : Array TypeId} (hf : P.funcs[f]? = some fn) (hname : (fn.name == "runtime.NumGoroutine") = false) (hb : fn.body.isSome = true) (args : Array Value)
    (hw : Region.wanted oi (yielded ops a.tmps) = true) (hN : oi.dst = N) {o : Operand} {first caps : Array Value} (hop : oi.op = .call { callee := .value o, args := ao, argTypes := ts }) (ho : a.eval o = .func (.func f) first caps) (hargs : first ++ ao.map a.eval ++ caps = args)
    (h : Calls P f args w fun e w' => ∃ v, e = .returned v ∧ K (a.put N v) w') : if Region.wanted oi (yielded ops a.tmps) = true then Oper.wp P oi a w K Q else K (a.put N undef) w := by
  refine call_ f args hw hN ?_ h
  have he := enters_ hf hname hb args w
  unfold execOp
  simp [hop, resolve, Deferred.ofValue, invoke, ho, hargs, he]
end
end Go.Proofs.Ytfbfopfhfeijdaa.Pr
