/- A loop over feature.All: the law of the caller whose body never leaves. -/
import Derived.Test.YtfbfopfhfeijdaaMg3
import Derived.RangeFuncFrom
import Derived.RangeFuncBox
namespace Go.Proofs.Ytfbfopfhfeijdaa.Pr
open Go.Shelf Go.RowKit Go.Lib
open Go.Proofs.YtfbfopfhfeijdaaW.PrintWords Go.Proofs.YtfbfopfhfeijdaaW.PrintLast Go.Proofs.YtfbfopfhfeijdaaW.PrintMore
set_option linter.unusedVariables false
set_option linter.unusedSimpArgs false
/-- What the iterator promises: J over the values that it has yielded. -/
def SeqF (P : Program) (gf : Nat) (lb : Array Value) (n₀ N : Nat) (w : World) (R : World → List Value → Prop) : Prop :=
  ∀ (lp : Nat) (J : List Value → World → Prop) (W : World), Below n₀ w W → n₀ ≤ W.heap.size → (∀ xs A B, J xs A → Below A.heap.size A B → J xs B) →
    (∀ xs v A, J xs A → xs.length < N → (∃ A n c, v = .slice A n c) → YieldAt Fence.wide 2 P lp #[v] A fun e W' => e = .returned (.bool true) ∧ J (xs ++ [v]) W' ∧ KpF n₀ A W') →
    J [] W → Calls P gf (#[.func (.yield lp) #[] #[]] ++ lb) W fun e W' => (∃ v, e = .returned v) ∧ ∃ us, R W' us ∧ J us W' ∧ KpF n₀ W W'
theorem KpF.putObj {n : Nat} {W : World} {l : Nat} {o : Obj} (o' : Obj) (hn : n ≤ l) (h : W.heap[l]? = some o) (hc : o.isCells = false) : KpF n W (W.putObj l o') :=
  ⟨(Below.refl n W).grown (grownBy_putObj' W l o') (by have := (Array.getElem?_eq_some_iff.1 h).1; omega) (fun k e => by cases e; omega),
   fun k vs t hk _ => by
    have hne : k ≠ l := fun e => by subst e; rw [h] at hk; cases hk; cases hc
    exact ((grownBy_putObj' W l o').block k (Array.getElem?_eq_some_iff.1 hk).1 (by simpa using hne)).trans hk⟩
theorem wpIn_rangeFunc_F {P : Program} {g : Operand} {ps : Array Tmp} {assign body : Code} {Q : Exit → Act → World → Prop} {a : Act} {w : World}
    {gf : Nat} {lb : Array Value} (hg : a.eval g = .func (.func gf) #[] lb) (eg : ∀ args w, (callFunc gf args).run P w = .ok (.enter gf args) w)
    {n₀ N : Nat} {w0 : World} {R : World → List Value → Prop} (hseq : SeqF P gf lb n₀ N w0 R) (hb0 : Below n₀ w0 w) (hn : n₀ ≤ w.heap.size) (hps : 1 = ps.size)
    (I : List Value → World → Prop) (hI : OwnFrom w.heap.size I) (hIb : ∀ xs A B, I xs A → Below A.heap.size A B → I xs B) (h0 : I [] w) (a₁ : Value → Act)
    (hRk : ∀ us A B, R A us → KpF n₀ A B → R B us)
    (hassign : ∀ (l : Nat) (x : Value) (W : World) (K : Act → World → Prop), K (a₁ x) W →
      assign.wpIn (Fence.wide.inRound l) 2 P (Exit.then K (fun _ _ _ => False)) { tmps := (ps.zip #[x]).foldl (fun t (p, v) => t.setIfInBounds p v) a.tmps, defers := [] } W)
    (hbody : ∀ (l : Nat) (pre : List Value) (x : Value) (W : World), I pre W → pre.length < N → (∃ A n c, x = .slice A n c) → body.wpIn (Fence.wide.inRound l) 2 P (fun e _ W' => e = .normal ∧ KeepsOthers W W' ∧ KpF n₀ W W' ∧ I (pre ++ [x]) W') (a₁ x) W)
    (hdone : ∀ (D : Nat) (xs : List Value) (W : World), w.heap.size ≤ D → R W xs → I xs W → KpF n₀ w W → W.heap[D]? = some (.deferred (some [])) → Q .normal { a with defers := { target := .collected D, args := #[] } :: a.defers } W) :
    (Code.rangeFunc g ps assign body).wpIn Fence.wide 4 P Q a w := by
  refine wpIn_rangeFunc ?_
  intro fn hfn
  rw [show Fence.wide.round = none from rfl]
  obtain ⟨rec, hrec⟩ : ∃ rec : LoopState → Option Code → Loop, rec = fun st pe => { state := st, pending := pe, fn, tmps := a.tmps, params := ps, assign, body, defers := w.heap.size } := ⟨_, rfl⟩
  obtain ⟨W1, hW1⟩ : ∃ W1, (w.alloc (.deferred (some []))).alloc (.loop (rec .ready none)) = W1 := ⟨_, rfl⟩
  have hL1 : W1.heap[w.heap.size + 1]? = some (.loop (rec .ready none)) := by
    rw [← hW1]; have := World.alloc_heap_new (w.alloc (.deferred (some []))) (.loop (rec .ready none)); rwa [World.size_alloc] at this
  have hK1 : W1.heap[w.heap.size]? = some (.deferred (some [])) := by
    rw [← hW1]; exact (Below.heap_alloc _ _ _ (by simp)).trans (World.alloc_heap_new w _)
  have hI1 : I [] W1 := by rw [← hW1]; exact hI.alloc _ (hI.alloc _ h0)
  have hw1 : Below w.heap.size w W1 := by rw [← hW1]; exact ((Below.refl _ w).alloc (Nat.le_refl _) _).alloc (by simp) _
  have hb1 : Below n₀ w0 W1 := hb0.trans (hw1.mono hn)
  have hkw1 : KpF n₀ w W1 := KpF.of_below hw1 hn
  refine ⟨w.heap.size + 1, [{ target := .collected w.heap.size, args := #[] }], W1, { target := .fn (.func gf) lb, args := #[.func (.yield (w.heap.size + 1)) #[] #[]] }, W1, gf,
    #[.func (.yield (w.heap.size + 1)) #[] #[]] ++ lb, W1, ?_, ?_, ?_, ?_, fun _ => by omega, ?_⟩
  · rw [← hW1, hrec]; exact run_enterLoop_outer _ _ _ _ _
  · simp only [resolve, hg]
    simp [go_sem]
  · intro f' hf'; trivial
  · simp [invoke, go_sem, eg]
  · refine callsIn_wide.2 ((hseq (w.heap.size + 1)
      (fun pre W => I pre W ∧ W.heap[w.heap.size + 1]? = some (.loop (rec .ready none)) ∧ W.heap[w.heap.size]? = some (.deferred (some [])))
      W1 hb1 (by have := hw1.size; omega)
      (fun s A B hs hb => ⟨hIb s A B hs.1 hb, (hb.block _ (Array.getElem?_eq_some_iff.1 hs.2.1).1).trans hs.2.1, (hb.block _ (Array.getElem?_eq_some_iff.1 hs.2.2).1).trans hs.2.2⟩)
      ?_ ⟨hI1, hL1, hK1⟩).mono ?_)
    · rintro pre x W ⟨hi, hl, hk⟩ hlen hone
      have hlt : w.heap.size + 1 < W.heap.size := (Array.getElem?_eq_some_iff.1 hl).1
      have hy := run_yield (P := P) (args := #[x]) hl (by rw [hrec]; exact hps)
      rw [hrec] at hy
      refine ⟨fn, _, assign, body, hy, roundIn_of_wpIn hfn (hassign _ x W _ ⟨_, run_beginRound hl (by rw [hrec]), ?_⟩)⟩
      have hl2 : (W.putObj (w.heap.size + 1) (.loop { rec .ready none with state := .busy })).heap[w.heap.size + 1]? = some (.loop { rec .ready none with state := .busy }) := World.putObj_heap_same hlt
      have hk2 : (W.putObj (w.heap.size + 1) (.loop { rec .ready none with state := .busy })).heap[w.heap.size]? = some (.deferred (some [])) := (World.putObj_heap_other (by omega)).trans hk
      have hw2 : KpF n₀ W (W.putObj (w.heap.size + 1) (.loop { rec .ready none with state := .busy })) := KpF.putObj _ (by omega) hl rfl
      refine wpIn_mono (hbody _ pre x _ (hI.putObj _ hi (by omega) hl rfl) hlen hone) ?_
      rintro e a3 W3 ⟨rfl, hk3, hkp3, hi3⟩
      have hl3 := hk3.same _ _ hl2 rfl
      have hr := run_endRound (P := P) none hl3
      rw [hrec] at hr
      rw [hrec] at hl3
      have hl4 : (W3.putObj (w.heap.size + 1) (.loop (rec .ready none))).heap[w.heap.size + 1]? = some (.loop (rec .ready none)) := World.putObj_heap_same (Array.getElem?_eq_some_iff.1 hl3).1
      have hk4 : (W3.putObj (w.heap.size + 1) (.loop (rec .ready none))).heap[w.heap.size]? = some (.deferred (some [])) := (World.putObj_heap_other (by omega)).trans (hk3.same _ _ hk2 rfl)
      rw [hrec] at hl4 hk4
      refine ⟨_, _, hr, rfl, ⟨hI.putObj _ hi3 (by omega) hl3 rfl, ?_, hk4⟩, (hw2.trans hkp3).trans (KpF.putObj _ (by omega) hl3 rfl)⟩
      rw [hrec]
      exact hl4
    · rintro e W2 ⟨⟨v, rfl⟩, us, hR, ⟨hi, hl, hk⟩, hkp⟩
      have hp : ∀ o' : Obj, KpF n₀ W2 (W2.putObj (w.heap.size + 1) o') := fun o' => KpF.putObj o' (by omega) hl rfl
      refine ⟨none, _, by have := run_endLoop (P := P) hl (by rw [hrec]; simp); rw [hrec] at this; exact this, ?_⟩
      exact hdone _ us _ (Nat.le_refl _) (hRk _ _ _ hR (hp _)) (hI.putObj _ hi (by omega) hl rfl) ((hkw1.trans hkp).trans (hp _)) ((World.putObj_heap_other (by omega)).trans hk)
#print axioms wpIn_rangeFunc_F
end Go.Proofs.Ytfbfopfhfeijdaa.Pr
